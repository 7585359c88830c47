/- Part 24. -/
import Derived.Test.YtepgcjbhabnciaaGreatLe23
namespace Go.Proofs.YtepgcjbhabnciaaGreat
set_option maxRecDepth 100000
set_option maxHeartbeats 8000000
open Go.Proofs.Tryz Go.RowKit
open Go.Lib (compareBytes)
variable {q p z B base n B' c:Nat} {w w1 w2 w':World} {F S D D':Nat->Prop} {v r u:Value} {s:Src} {l:List Row} {us:List Value}
theorem jh (h:ag (Cs q p w.heap.size) w w1) (k:ag (Cs q p w1.heap.size) w1 w2):ag (Cs q p w.heap.size) w w2:=
 h.trans k (fun b a e=>by rcases e with e|e|e;exact .inl e;exact .inr (.inl e);exact .inr (.inr (Nat.le_trans h.size e)))
theorem nM (h:ag (Cs q p w.heap.size) w w1) (k:Below w1.heap.size w1 w2):ag (Cs q p w.heap.size) w w2:=h.then k
structure Zs (z q p B:Nat):Prop where
 zq:z≠q
 zp:z≠p
 lt:z<B
theorem Zs.no (h:Zs z q p B):¬Cs q p B z:=fun e=>by rcases e with e|e|e;exact h.zq e;exact h.zp e;have:=h.lt;omega
theorem Zs.up (h:Zs z q p B) (a:B<=B'):Zs z q p B':=⟨h.zq,h.zp,Nat.lt_of_lt_of_le h.lt a⟩
theorem Eb {bs:List UInt8} (h:Ow w1 base v bs) (a:Sit F q p base) (k:ag (Cs q p w1.heap.size) w1 w2):Ow w2 base v bs:=
 h.chg k (fun g b e=>by
  obtain⟨c,d⟩:=ah h g b;have f:=a.pB;have i:=a.qB
  rcases e with e|e|e
  ·omega
  ·omega
  ·omega)
theorem fo.nil (h:fo w F q s) (a:ag Nil w w'):fo w' F q s:=h.chg a (fun h=>h) (fun _ _ h=>h)
theorem fo.own (h:fo w F q s) (f:ag (fun b=>b=z) w w') (a:z≠q) (c:¬F z):fo w' F q s:=h.chg f (fun e=>a e.symm) (fun b d e=>c ((show b=z from e)▸d))
def O8 (F:Nat->Prop) (z q p:Nat) (v2:Value) (A:Option Addr) (n cc:Nat) (x:bg) (w:World) (a:Ending) (w':World):Prop:=
 fo w' F p x.cur.src/\a= .returned (.tuple #[.slice none 0 0,.bool false])/\aj w' z 140 #[.pointer (some ⟨q,0,none⟩),.func (.func 135) #[.pointer (some ⟨z,0,none⟩)] #[],v2,.slice A n cc,.int .i64 x.err,.int .i64 (x.bad:Nat)]/\ag (fun b=>b=z\/Cs q p w.heap.size b) w w'
theorem He (n:Nat):1<=(aM n).length:=by
 unfold aM;split<;>simp
theorem wY (h:nY l):1<=(aG l).length/\(aG l).length<=872415300:=by
 have a:=uz h.bytes l.length;rw [List.take_length] at a;have b:=kQ h.ents l.length;rw [List.take_length] at b;have f:=h.many;have c:=aR (n:=l.length) (by omega);have d:=aR (n:=bi l) (by omega);have e:=He l.length;unfold aG;simp only [List.length_append];omega
theorem Lb (F G:Nat->Prop) (z q p hv K at_:Nat) (Y v2:Value) (A:Option Addr) (n cc:Nat) (r:bg) (c:ay) (w:World) (s:Sit F q p w.heap.size) (zs:Zs z q p w.heap.size) (v:¬F z)
  (Q:aj w z 140 #[.pointer (some ⟨q,0,none⟩),Y,v2,.slice A n cc,.int .i64 r.err,.int .i64 (r.bad:Nat)]) (hr:lF w G A n r.rows) (hG:∀b,G b->b<w.heap.size) (b9:n<=cc) (ax:gD r.rows) (aw:∀x∈r.rows,x.at_<=1152921504606)
  (h:lW w F q p c hv) (ho:c.Ok K) (hh:c.held=none) (hK:K<=1152921504606846976) (b5:at_<9223372036854775808):
  Calls prog 138 #[.pointer (some ⟨z,0,none⟩),.int .i64 at_] w (O8 F z q p v2 A n cc (r.footR c at_) w):=by
 refine letter fun R O=> ?_;have HS:=aa s;have X:=aa zs;have HB:=aa Q;have HI:=aa h;have iH:=aa (wY (ax.few aw));have UK:=aa (JH G A n cc r.rows w hr b9 ax aw hG);have cf:w.cell? ⟨z,0,none⟩=some (.pointer (some ⟨q,0,none⟩)):=Q.cell 0;have cg:w.cell? ⟨z,3,none⟩=some (.slice A n cc):=Q.cell 3;obtain⟨fb,Pp⟩:∃fb,fb=aG r.rows:=⟨_,rfl⟩;obtain⟨N,hN⟩:∃N,N=c.number:=⟨_,rfl⟩;obtain⟨D,hD⟩:∃D,D=N.2.2.body fb.length:=⟨_,rfl⟩;obtain⟨T,hT⟩:∃T,T=D.cur.bytes 12:=⟨_,rfl⟩;obtain⟨E,hE⟩:∃E,E=T.2.2.end_:=⟨_,rfl⟩
 have o:Hid (r.footR c at_=if N.2.1≠0 then r.fail N.2.2 N.2.1 c.at_ else if N.1≠fb.length then r.fail N.2.2 84 c.at_ else if D.err≠0 then r.fail D.cur D.err D.place
  else if comm D.body fb<fb.length then r.fail D.cur 84 (N.2.2.at_+comm D.body fb) else if T.2.1≠0 then r.fail T.2.2 T.2.1 D.cur.at_ else if T.1≠dw at_ then r.fail T.2.2 85 D.cur.at_
  else if E.2.1≠0 then r.fail E.2.2 E.2.1 T.2.2.at_ else if E.1=false then r.fail E.2.2 86 T.2.2.at_ else{r with cur:=E.2.2,st:=2}):=aa (by subst hE;subst hT;subst hD;subst hN;subst Pp;rfl)
 have OW:=ay.number_ok ho;rw [<-hN] at OW;have mM:=aa OW;have OY:=aa hN;have Uz:=aa ho;have Yo:=aa hD;have Oz:=aa hT;have JR:=aa hE;have OX:=ay.number_step ho hh;rw [<-hN] at OX;have ab:=aa OX;rw [<-Pp] at iH;have b0:=aa Pp
 have d:Hid (∀(x:bg) (cu:ay) (e:Int) (a:Nat) (wk:World) (en:Ending) (w':World),fo wk F p cu.src->r.footR c at_=r.fail cu e a->ag (Cs q p w.heap.size) w wk->I4 z (.pointer (some ⟨q,0,none⟩)) v2 (.slice A n cc) e a wk en w'->O8 F z q p v2 A n cc (r.footR c at_) w en w'):=aa (fun x cu e a wk en w' hs hx hc hf=>by
  rw [hx];exact⟨hs.own hf.2.2 zs.zp v,hf.1,hf.2.1,(hc.mono (fun b _ Q=> .inr Q)).trans hf.2.2 (fun b Q e=> .inl e)⟩)
 have xU:=aa v;clear s zs v Q h ho Pp hN hD hT hE hr ax aw hG OW OX;go_enter func138,ntmps138
 go_upto_region 2 with(go_at_call 162;go_loud (refine UK.mono ?_);rintro e w1 ⟨vB,rfl,l,hB⟩;rw [<-b0.out] at l;have HO:=aa l;have H:=aa hB;clear l hB)
 obtain⟨fA,fn,fc,rfl,_,_,bb,_⟩:=HO.out.sb;have W:=aa bb;have jL:Hid (ag (Cs q p w.heap.size) w w1):=aa (ag.of_below H);have a1:=aa (HB.below H);have a3:Hid (lW w1 F q p c hv):=aa (HI.chg (S:=Nil) (ag.of_below H) (fun h=>h) (fun h=>h) (fun _ _ h=>h));have b4:w1.cell? ⟨z,0,none⟩=some (.pointer (some ⟨q,0,none⟩)):=a1.out.cell 0;have a8:w1.cell? ⟨q,0,none⟩=some (.int .i64 (c.at_:Nat)):=a3.out.blk.cell 0;have bO:=aa (iJ q (c.at_:Nat) w1 a8);have yV:=aa (vI F q p hv K c w1 (HS.up H.size) a3 Uz hK);clear cf cg bb;go_upto_region 3 with(go_at_call 136;go_loud (refine bO.mono ?_);rintro e w2 ⟨rfl,rfl⟩)
 go_upto_region 4 with(go_at_call 139;go_loud (refine yV.mono ?_);rintro e w2 ⟨cb,rfl,I,y⟩;rw [<-OY.out] at I|-;have M:=aa I;have bB:=aa (jh jL y);have OV:=aa y;clear I y)
 have L:=aa (a1.chg OV (X.up H.size).no);have iR:=aa (Eb HO HS OV);obtain⟨e1,ao⟩:∃e,e=N.2.1:=⟨_,rfl⟩;rw [<-ao] at o mM ab|-;have xA:=aa ao;clear b4 a8 ao
 by_cases P:e1=0
 ·subst P;obtain⟨J,ar⟩:∃J,J=N.1:=⟨_,rfl⟩;rw [<-ar] at o|-;have yV:=aa ar;have cr:IntKind.u64.wrap (fn:Int)=(fn:Int):=IntWalk.u64_in _ (by have Z:=iH.out;rw [<-W.out] at Z;omega);clear ar
  by_cases h2:J=fn
  ·subst h2;have XX:=aa o;have a4:1<=J:=by have Z:=iH.out;rw [<-W.out] at Z;omega
   have a5:J<=872415300:=by have Z:=iH.out;rw [<-W.out] at Z;omega
   have a6:w2.cell? ⟨z,0,none⟩=some (.pointer (some ⟨q,0,none⟩)):=L.out.cell 0;have a9:w2.cell? ⟨q,0,none⟩=some (.int .i64 (N.2.2.at_:Nat)):=M.out.blk.cell 0;have aA:w.heap.size<=w2.heap.size:=bB.out.size;have bP:=aa (iJ q (N.2.2.at_:Nat) w2 a9);have CW:=aa (zH F z q p cb J K N.2.2 w2 (HS.up aA) a6 (X.up aA).lt X.zq X.zp M mM.1 ab.1 hK (by omega) (by omega));have Xh:=ay.body_ok mM.1 ab.1 J (by omega);rw [W.out,<-Yo.out] at Xh;have PD:=aa Xh;clear Xh;go_upto_region 9 with(go_at_call 136;go_loud (refine bP.mono ?_);rintro e w3 ⟨rfl,rfl⟩)
   go_upto_region 10 with(go_at_call 140;go_loud (refine CW.mono ?_);rintro e w3 ⟨vD,bx,rfl,l,I,y⟩;rw [W.out,<-Yo.out] at l I|-;have oD:=aa l;have ac:=aa I;have eH:=aa (jh bB y);have wZ:=aa y;clear l I y)
   have a2:=aa (L.chg wZ (X.up aA).no);have Lc:=aa (Eb iR HS wZ);obtain⟨C,ap⟩:∃C,C=fb.length:=⟨_,rfl⟩;rw [W.out] at a4 a5 o;rw [W.out] at Lc;rw [<-ap] at o a4 a5 Lc PD|-;have eu:=aa ap;obtain⟨eD,Xi⟩:∃e,e=D.err:=⟨_,rfl⟩;rw [<-Xi] at o oD|-;have Je:=aa Xi;clear a6 a9 Xi ap
   by_cases h3:eD=0
   ·subst h3;obtain⟨dA,dn,dc,rfl,_,_,am,an⟩:=(oD.out rfl).sb;obtain⟨_,_,_,be⟩:=Lc.out.sb.parts;have al:dn=C:=by rw [am];exact PD.len Je.out.symm
    have kG:Hid (C=D.body.length):=aa (by rw [<-al];exact am);rw [al] at an|-;have bZ:=aa an;have yT:Hid (Rd w3 (From w.heap.size) 1 fA C (aF fb)):=aa be;clear al am an be;go_upto_region 12 with fail
    go_wp2
    go_loopw [86] (fun iv wz=>∃i:Nat,i<=C/\iv= .int .i64 i/\Hid (∀k,k<i->D.body[k]? =fb[k]?)/\Hid (ag Nil w3 wz)) (fun iv _=>C-(intOf iv).toNat)
    case atStart=>exact⟨0,Nat.zero_le _,rfl,aa (fun k hk=>absurd hk (by omega)),aa (ag.refl Nil w3)⟩
    case round=>
     obtain⟨i,hi,rfl,pR,Gv⟩:=hrel;have Vr:=aa (a2.chg Gv (fun h=>h));have Vs:Hid (ag (Cs q p w.heap.size) w wr):=aa (eH.out.trans Gv (fun _ _ h=>h.elim))
     by_cases aq:i<C
     ·have bh:(i:Int)<(C:Int):=by omega
      obtain⟨b1,o1,u1,rfl,_,bo,cd⟩:=((bZ).chg Gv (fun _ _ h=>h)).at_ aq;obtain⟨b2,o2,u2,rfl,_,bp,ce⟩:=((yT).chg Gv (fun _ _ h=>h)).at_ aq;obtain⟨x1,bM,rfl⟩:=dX bo;obtain⟨x2,bN,rfl⟩:=dX bp;have l9:=aa bM;have mP:=aa bN;unfold bv at cd ce;clear bo bp bM bN;go_upto_region 15 with fail
      go_quiet (fail)
      by_cases wU:x1=x2
      ·subst wU;go_wp2
       go_roundw
       case rel=>
        refine⟨i+1,by omega,by go_num,aa (fun k hk=> ?_),aa (Gv.drewN nq)⟩
        by_cases b8:k=i
        ·rw [b8,l9.out,mP.out]
        ·exact pR k (by omega)
       case measure=>simp [intOf];omega
      ·have Ya:¬((x1.toNat:Int)=(x2.toNat:Int)):=fun e=>wU (UInt8.toNat_inj.mp (by omega));have cj:((x1.toNat:Int)==(x2.toNat:Int))=false:=by rw [beq_eq_false_iff_ne];exact Ya
       have m:Hid (i=comm D.body fb):=aa (iI _ _ i pR (by have P:=kG.out;omega) (by have P:=eu.out;omega) (.inr (.inr (by rw [l9.out,mP.out];intro e;exact wU (Option.some.inj e)))));have JF:Hid (comm D.body fb<C):=aa (by rw [<-m.out];exact aq)
       have ct:IntKind.i64.wrap ((N.2.2.at_:Int)+(i:Int))=((N.2.2.at_+i:Nat):Int):=by
        rw [IntWalk.i64_in _ (by have P:=mM.out.1.sum;omega)];omega
       clear wU;have bX:=aa (Vr.drewN nq);have bY:=aa (Vs.drewN nq);go_wp2_with (go_at_call 91;go_loud (refine(bF z _ Y v2 _ _ _ 84 ((N.2.2.at_+i:Nat)) (wr.drewN nq) bX).mono ?_);rintro e9 B ⟨rfl,f,g⟩;have t:=aa f;have u:=aa g;clear f g)
       rw [O.out]
       exact d r D.cur 84 ((N.2.2.at_+i:Nat)) (wr.drewN nq) _ B (ac.src.nil (Gv.drewN nq)) (by rw [o.out,if_neg (by simp),if_neg (by simp),if_neg (by simp),if_pos JF.out,<-m.out]) bY ⟨rfl,t,u⟩
     ·have bh:¬((i:Int)<(C:Int)):=by omega
      have b7:i=C:=by omega
      have m:Hid (¬comm D.body fb<C):=aa (by
       have Z:=iI D.body fb i pR (by have P:=kG.out;omega) (by have P:=eu.out;omega) (.inl (by have P:=kG.out;omega));omega)
      have Z9:Hid (lW wr F q p D.cur bx):=aa (ac.chg Gv (fun h=>h) (fun h=>h) (fun _ _ h=>h));have ch:wr.cell? ⟨z,0,none⟩=some (.pointer (some ⟨q,0,none⟩)):=Vr.out.cell 0;have ba:wr.cell? ⟨q,0,none⟩=some (.int .i64 (D.cur.at_:Nat)):=Z9.out.blk.cell 0;have Ag:w.heap.size<=wr.heap.size:=Vs.out.size;have bQ:=aa (iJ q (D.cur.at_:Nat) wr ba);have pE:=aa (kS F q p bx 12 K D.cur wr (HS.up Ag) Z9 PD.ok hK (by omega) (by omega));clear b7;go_upto_region 19 with(go_at_call 136;go_loud (refine bQ.mono ?_);rintro e w4 ⟨rfl,rfl⟩)
      go_upto_region 20 with(go_at_call 90;go_loud (refine pE.mono ?_);rintro e w4 ⟨vT,a0,rfl,l,I,y⟩;rw [<-Oz.out] at l I|-;have iV:=aa l;have ad:=aa I;have fV:=aa (jh Vs y);have sK:=aa y;clear l I y)
      have dR:=aa (Vr.chg sK (X.up Ag).no);obtain⟨eT,Yk⟩:∃e,e=T.2.1:=⟨_,rfl⟩;rw [<-Yk] at o iV|-;have ci:=aa Yk;clear ch ba Yk
      by_cases h5:eT=0
      ·subst h5;obtain⟨tA,tn,tc,rfl,_,_,bk,bm⟩:=(iV.out rfl).sb;have Io:=aa bk;have b3:=aa bm;have bj:w.heap.size<=w4.heap.size:=fV.out.size;have zY:=aa (Ld at_ w4 b5);have Lm:Hid (T.2.2.Ok K/\T.2.2.held=none):=aa ⟨by rw [Oz.out];exact ay.bytes_ok PD.ok 12,by rw [Oz.out];exact ay.bytes_held PD.ok 12 PD.held⟩;clear bk bm;obtain⟨bt,ae⟩:∃b:Bool,b=decide (T.1=dw at_):=⟨_,rfl⟩;have XR:=aa ae
       have HQ:Hid (∀j A2 n2 c2,Below w4.heap.size w4 j->Ow j w4.heap.size (.slice A2 n2 c2) (dw at_)->Calls prog 163 #[.slice tA tn tc,.slice A2 n2 c2] j fun e w'=>e= .returned (.bool bt)/\j=w'):=aa (fun j A2 n2 c2 b6 ca=>by
        obtain⟨_,_,h7,h8⟩:=ca.sb.parts;have Z:=Le _ _ tA A2 tn tc n2 c2 T.1 (dw at_) j (b3.below b6) Io h8 h7;rw [ae];exact Z)
       clear ae
       cases bt with
       |false=>
        have gm:Hid (T.1≠dw at_):=aa (of_decide_eq_false XR.out.symm);go_upto_region 23 with(first|(go_at_call 164;go_loud (refine zY.mono ?_);rintro e j ⟨vU,rfl,l,hB⟩;obtain⟨uA,un,uc,rfl,-,-,-,-⟩:=l.sb;have lG:=aa l;have U:=aa hB;clear l hB)|(go_at_call 163;go_loud (refine(HQ j _ _ _ U lG).mono ?_);rintro e V ⟨rfl,rfl⟩))
        have xV:Hid (lW j F q p T.2.2 a0):=aa (ad.chg (S:=Nil) (ag.of_below U) (fun h=>h) (fun h=>h) (fun _ _ h=>h));have eG:=aa (dR.below U);have dF:=aa (nM fV U);have aE:w.heap.size<=j.heap.size:=dF.out.size;clear bj;go_wp2_with (go_at_call 91;go_loud (refine(bF z _ Y v2 _ _ _ 85 (D.cur.at_:Nat) j eG).mono ?_);rintro e9 B ⟨rfl,f,g⟩;have t:=aa f;have u:=aa g;clear f g)
        rw [O.out]
        exact d r T.2.2 85 (D.cur.at_:Nat) j _ B xV.src (by rw [o.out,if_neg (by simp),if_neg (by simp),if_neg (by simp),if_neg m.out,if_neg (by simp),if_pos gm.out]) dF ⟨rfl,t,u⟩
       |true=>
        have gm:Hid (¬T.1≠dw at_):=aa (fun h=>h (of_decide_eq_true XR.out.symm));go_upto_region 24 with(first|(go_at_call 164;go_loud (refine zY.mono ?_);rintro e j ⟨vU,rfl,l,hB⟩;obtain⟨uA,un,uc,rfl,-,-,-,-⟩:=l.sb;have lG:=aa l;have U:=aa hB;clear l hB)|(go_at_call 163;go_loud (refine(HQ j _ _ _ U lG).mono ?_);rintro e V ⟨rfl,rfl⟩))
        have xV:Hid (lW j F q p T.2.2 a0):=aa (ad.chg (S:=Nil) (ag.of_below U) (fun h=>h) (fun h=>h) (fun _ _ h=>h));have eG:=aa (dR.below U);have dF:=aa (nM fV U);have aE:w.heap.size<=j.heap.size:=dF.out.size;clear bj;have Py:j.cell? ⟨z,0,none⟩=some (.pointer (some ⟨q,0,none⟩)):=eG.out.cell 0;have j6:j.cell? ⟨q,0,none⟩=some (.int .i64 (T.2.2.at_:Nat)):=xV.out.blk.cell 0;have M9:=aa (iJ q (T.2.2.at_:Nat) j j6);have pX:=aa (QF F q p a0 K T.2.2 j (HS.up aE) xV Lm.1 Lm.2 hK);go_upto_region 25 with(go_at_call 136;go_loud (refine M9.mono ?_);rintro e V ⟨rfl,rfl⟩)
        go_upto_region 26 with(go_at_call 165;go_loud (refine pX.mono ?_);rintro e V ⟨rfl,hS,y⟩;rw [<-JR.out] at hS|-;have JD:=aa hS;have dV:=aa (jh dF y);have Vt:=aa y;clear y hS)
        have fT:=aa (eG.chg Vt (X.up aE).no);obtain⟨eE,TN⟩:∃e,e=E.2.1:=⟨_,rfl⟩;obtain⟨bE,a7⟩:∃b,b=E.1:=⟨_,rfl⟩;rw [<-TN,<-a7] at o|-;clear Py j6 TN a7
        by_cases h7:eE=0
        ·subst h7
         cases bE with
         |false=>
          go_wp2_with (go_at_call 91;go_loud (refine(bF z _ Y v2 _ _ _ 86 (T.2.2.at_:Nat) V fT).mono ?_);rintro e9 B ⟨rfl,f,g⟩;have t:=aa f;have u:=aa g;clear f g)
          rw [O.out]
          exact d r E.2.2 86 (T.2.2.at_:Nat) V _ B JD (by rw [o.out,if_neg (by simp),if_neg (by simp),if_neg (by simp),if_neg m.out,if_neg (by simp),if_neg gm.out,if_neg (by simp),if_pos (by simp)]) dV ⟨rfl,t,u⟩
         |true=>
          have z1:V.cell? ⟨z,1,none⟩=some Y:=fT.out.cell 1;have sW:=fT.out.frozen 1;go_wp2;rw [O.out];unfold O8;rw [o.out,if_neg (by simp),if_neg (by simp),if_neg (by simp),if_neg m.out,if_neg (by simp),if_neg gm.out,if_neg (by simp),if_neg (by simp)]
          exact⟨JD.own ((ag.refl (fun b=>b=z) V).setCell (p:=⟨z,1,none⟩) (fun _=>rfl) _) X.zp xU,rfl,fT.set_ 1 _,(dV.mono (fun b _ Q=> .inr Q)).setCell (p:=⟨z,1,none⟩) (fun _=> .inl rfl) _⟩
        ·have cq:(eE==0)=false:=by rw [beq_eq_false_iff_ne];exact h7
         have H7:=aa h7;go_wp2_with (go_at_call 91;go_loud (refine(bF z _ Y v2 _ _ _ eE (T.2.2.at_:Nat) V fT).mono ?_);rintro e9 B ⟨rfl,f,g⟩;have t:=aa f;have u:=aa g;clear f g)
         rw [O.out]
         exact d r E.2.2 eE (T.2.2.at_:Nat) V _ B JD (by rw [o.out,if_neg (by simp),if_neg (by simp),if_neg (by simp),if_neg m.out,if_neg (by simp),if_neg gm.out,if_pos H7.out]) dV ⟨rfl,t,u⟩
      ·have cp:(eT==0)=false:=by rw [beq_eq_false_iff_ne];exact h5
       have H5:=aa h5;go_wp2_with (go_at_call 91;go_loud (refine(bF z _ Y v2 _ _ _ eT (D.cur.at_:Nat) w4 dR).mono ?_);rintro e9 B ⟨rfl,f,g⟩;have t:=aa f;have u:=aa g;clear f g)
       rw [O.out]
       exact d r T.2.2 eT (D.cur.at_:Nat) w4 _ B ad.src (by rw [o.out,if_neg (by simp),if_neg (by simp),if_neg (by simp),if_neg m.out,if_pos H5.out]) fV ⟨rfl,t,u⟩
   ·have co:(eD==0)=false:=by rw [beq_eq_false_iff_ne];exact h3
    have H3:=aa h3;go_wp2_with (go_at_call 91;go_loud (refine(bF z _ Y v2 _ _ _ eD (D.place:Nat) w3 a2).mono ?_);rintro e9 B ⟨rfl,f,g⟩;have t:=aa f;have u:=aa g;clear f g)
    rw [O.out]
    exact d r D.cur eD (D.place:Nat) w3 _ B ac.src (by rw [o.out,if_neg (by simp),if_neg (by simp),if_pos H3.out]) eH ⟨rfl,t,u⟩
  ·have cn:((J:Int)==(fn:Int))=false:=by rw [beq_eq_false_iff_ne];omega
   have ck:¬((J:Int)=(fn:Int)):=by omega
   have H2:Hid (J≠fb.length):=aa (by rw [<-W.out];exact h2);go_wp2_with (go_at_call 91;go_loud (refine(bF z _ Y v2 _ _ _ 84 (c.at_:Nat) w2 L).mono ?_);rintro e9 B ⟨rfl,f,g⟩;have t:=aa f;have u:=aa g;clear f g)
   rw [O.out]
   exact d r N.2.2 84 (c.at_:Nat) w2 _ B M.src (by rw [o.out,if_neg (by simp),if_pos H2.out]) bB ⟨rfl,t,u⟩
 ·have cl:(e1==0)=false:=by rw [beq_eq_false_iff_ne];exact P
  have H1:=aa P;go_wp2_with (go_at_call 91;go_loud (refine(bF z _ Y v2 _ _ _ e1 (c.at_:Nat) w2 L).mono ?_);rintro e9 B ⟨rfl,f,g⟩;have t:=aa f;have u:=aa g;clear f g)
  rw [O.out];exact d r N.2.2 e1 (c.at_:Nat) w2 _ B M.src (by rw [o.out,if_pos H1.out]) bB ⟨rfl,t,u⟩
section
structure lz (w:World) (F:Nat->Prop) (q:Nat) (s:Src) (bA gA:Option Addr) (bn bc gn gc p:Nat) (B:List UInt8) (n7 n8 n9 n10 n11:Value):Prop where
 blk:aj w q 34 #[.slice bA bn bc,.slice gA gn gc,.int .i64 s.fail,.bool s.eager,.int .i64 s.calls,.int .i64 p,.bool false,n7,n8,n9,n10,n11]
 gv:Rd w F 1 gA gn (jw s.gives)
 sb:SB w F (.slice bA bn bc) B
 left:s.left=B.drop p
 le:p<=B.length
 bd:bn<=1152921504606
def dO (w:World) (F:Nat->Prop) (q:Nat) (s:Src):Prop:=∃bA gA bn bc gn gc p B n7 n8 n9 n10 n11,lz w F q s bA gA bn bc gn gc p B n7 n8 n9 n10 n11
section
variable {S:Nat->Prop} {w w':World} {F:Nat->Prop} {q:Nat} {s:Src} {bA gA:Option Addr} {bn bc gn gc p:Nat} {B:List UInt8} {n7 n8 n9 n10 n11:Value}
theorem lz.chg (h:lz w F q s bA gA bn bc gn gc p B n7 n8 n9 n10 n11) (y:ag S w w') (P:¬S q) (K:∀b,F b->¬S b):lz w' F q s bA gA bn bc gn gc p B n7 n8 n9 n10 n11:=
 ⟨h.blk.chg y P,h.gv.chg y K,h.sb.chg y K,h.left,h.le,h.bd⟩
theorem dO.chg (h:dO w F q s) (y:ag S w w') (P:¬S q) (K:∀b,F b->¬S b):dO w' F q s:=
 let⟨f,g,i,j,k,l,m,n,o,a,c,d,e,x⟩:=h;⟨f,g,i,j,k,l,m,n,o,a,c,d,e,x.chg y P K⟩
theorem dO.below (h:dO w F q s) (a:Below w.heap.size w w'):dO w' F q s:=h.chg (S:=Nil) (ag.of_below a) (fun h=>h) (fun _ _ h=>h)
theorem lz.gn_len (h:lz w F q s bA gA bn bc gn gc p B n7 n8 n9 n10 n11):gn=s.gives.length:=by
 have:=h.gv.1;simp [jw] at this;omega
end
theorem KG (F:Nat->Prop) (gA:Option Addr) (gn gc n:Nat) (s:Src) (w:World) (h:Rd w F 1 gA gn (jw s.gives)) (T:n<=1152921504606) (_A:gn<=1152921504606) (x:s.calls<4611686018427387904):
  Calls prog 201 #[.slice gA gn gc,.int .i64 ((s.calls:Int)+1),.int .i64 n] w fun e w'=>e= .returned (.int .i64 (s.most n:Nat))/\w=w':=by
 have v:=aa h;have r:Hid (gn=s.gives.length):=aa (by have:=h.1;simp [jw] at this;omega);obtain⟨d,c⟩:∃d,d=s.calls:=⟨_,rfl⟩;have q:=aa c;obtain⟨R,m⟩:∃R:Ending->World->Prop,R=fun e w'=>e= .returned (.int .i64 (s.most n:Nat))/\w=w':=⟨_,rfl⟩;have f:=aa m;rw [<-m,<-c];rw [<-c] at x;clear h c m
 by_cases k:d<gn
 ·obtain⟨b,o,u,rfl,_,p,j⟩:=v.out.at_ k
  obtain⟨g,i,rfl⟩:∃g,s.gives[d]? =some g/\u= .int .i64 g:=by
   simp only [jw,List.getElem?_map,Option.map_eq_some_iff] at p;obtain⟨g,a,e⟩:=p;exact⟨g,a,e.symm⟩
  have y:=aa i;have l:(d:Int)+1<=(gn:Int):=by omega
  clear p i;go_enter func201,ntmps201
  go_wp2;rw [f.out]
  refine⟨?_,rfl⟩;unfold Src.most;rw [<-q.out,y.out,show((min n g.toNat:Nat):Int)=max 0 (min (n:Int) g) by omega]
  rfl
 ·have l:¬((d:Int)+1<=(gn:Int)):=by omega
  have t:=aa k;clear k;go_enter func201,ntmps201
  go_wp2;rw [f.out]
  refine⟨?_,rfl⟩;unfold Src.most;rw [<-q.out,List.getElem?_eq_none (by have:=r.out;have:=t.out;omega)]
noncomputable def zN:Code:=aV (f184.body.bind (aJ 8))
noncomputable def z8:Code:=aV (f184.body.bind (fB 0))
theorem IR (F:Nat->Prop) (q pb n p bn bc gn gc cl m:Nat) (bA gA:Option Addr) (s:Src) (w:World) {J L H v u6 B r u9 M E I Z N U Y O f C u20 V P u23 D g T j W u A u31 x u33 u34 u35 h b u38 R u40 X u42 G u44 u45 u46 l u48 u49 z d o u53 eQ u55 fE fF u58 u59 u60 gJ gY u63 u64 gZ u66 iq u68 u69 u70 j4 u72 u73 jJ u75 jK:Value} {S:List Value} (Q:Exit->Act->World->Prop) (mQ:Hid (∀c t (a:Act) w,Q (.panic c) ⟨t,a.defers⟩ w->Q (.panic c) a w))
  (y:w.drew.cell? ⟨q,0,none⟩=some (.slice bA bn bc)/\w.drew.cell? ⟨q,1,none⟩=some (.slice gA gn gc)/\w.drew.cell? ⟨q,4,none⟩=some (.int .i64 ((cl:Int)+1))/\w.drew.cell? ⟨q,5,none⟩=some (.int .i64 p))
  (HR:Hid (Rd w F 1 gA gn (jw s.gives))) (fC:Hid (cl=s.calls)) (hc:cl<4611686018427387904) (hn:n<=1152921504606) (hg:gn<=1152921504606) (ba:bn<=1152921504606) (hp:p<=bn) (HM:Hid (m=min (s.most n) (bn-p)))
  (ax:∀(ab ac ad ae al am an ao ap aq ar aw aA aE a0 a1 a2 a3 a4 a5 a6 a7 a8 a9:Value) (w':World),ag Nil w w'->Q .normal ⟨(.pointer (some ⟨q,0,none⟩):: .slice (some ⟨pb,0,none⟩) n n::J::L::H::v:: .int .i64 m::B::r::u9::M::E::I::Z::N::U::Y::O::f::C::u20::V::P::u23::D::g::T::j::W::u::A::u31::x::u33::u34::u35::h::b::u38::R::u40::X::u42::G::u44::u45::u46::l::u48::u49::z::d::o::ab::ac::ad::ae::al::am::an::ao::ap::aq::ar::aw::aA::aE::a0::a1::a2::a3::a4::a5::a6::a7::a8::a9::S).toArray,[]⟩ w'):
  Code.wp prog zN Q ⟨(.pointer (some ⟨q,0,none⟩):: .slice (some ⟨pb,0,none⟩) n n::J::L::H::v::u6::B::r::u9::M::E::I::Z::N::U::Y::O::f::C::u20::V::P::u23::D::g::T::j::W::u::A::u31::x::u33::u34::u35::h::b::u38::R::u40::X::u42::G::u44::u45::u46::l::u48::u49::z::d::o::u53::eQ::u55::fE::fF::u58::u59::u60::gJ::gY::u63::u64::gZ::u66::iq::u68::u69::u70::j4::u72::u73::jJ::u75::jK::S).toArray,[]⟩ w:=by
 have dP:=aa ax;have HD:Hid (Below w.heap.size w w.drew):=aa (Below.refl _ _).drew;obtain⟨k,hk⟩:∃k,k=s.most n:=⟨_,rfl⟩;have HK:=aa hk;have bb:k<=n:=by rw [hk];exact s.most_le n
 have Hu:min (k:Int) ((bn:Int)-p)=(m:Int):=by have:=HM.out;rw [<-hk] at this;omega
 have be:IntKind.i64.wrap ((bn:Int)-p)=(bn:Int)-p:=IntWalk.i64_in _ (by omega);clear ax hk;conv=>arg 2;whnf
 refine aU (fun w'=>w'.cell? ⟨q,0,none⟩=some (.slice bA bn bc)/\w'.cell? ⟨q,1,none⟩=some (.slice gA gn gc)/\w'.cell? ⟨q,4,none⟩=some (.int .i64 ((cl:Int)+1))/\w'.cell? ⟨q,5,none⟩=some (.int .i64 p)) (by kernel_rfl) ?_;refine vT 0 y ?_;refine vT 1 y ?_;refine vT 2 y ?_;refine vT 3 y ?_;refine vT 5 y ?_;refine vT 6 y ?_;refine vT 7 y ?_;refine vT 9 y ?_;refine vT 10 y ?_;refine vT 12 y ?_;refine vT 13 y ?_;refine vT 14 y ?_;refine vT 15 y ?_;refine vT 18 y ?_;refine vT 19 y ?_;refine vT 20 y ?_;refine vT 4 y ?_;refine vT 8 y ?_;refine vT 16 y ?_;refine vT 17 y ?_;refine vT 21 y ?_;refine vT 22 y ?_;refine aO (i:=11) (by kernel_rfl) rfl (fun K hK=> ?_);go_simp
 go_loud (refine(by rw [fC.out];exact KG F gA gn gc n s _ (HR.below HD) hn hg (by rw [<-fC.out];exact hc):Calls _ _ _ _ _).mono ?_);rintro e w2 ⟨rfl,rfl⟩;rw [<-HK.out]
 refine hK.out _ _ y ?_;clear hK K;try simp only [aL,aN,aZ,aC]
 refine vT 23 y ?_;refine vT 24 y ?_;refine bG (by kernel_rfl) ?_ _;go_simp
 exact dP _ _ _ _ _ _ _ _ _ _ _ _ _ _ _ _ _ _ _ _ _ _ _ _ _ (ag.refl _ _).drew
end
theorem nZ:(prog.info? 100).map (fun i=>(i.zero,i.size,i.bytes))=some (some (.agg #[.slice none 0 0,.int .i64 0,.int .i64 0,.int .i64 0]),4,48):=by kernel_rfl
structure aX (w:World) (base:Nat) (D:Nat->Prop) (v:Value) (n:Nat) (l:List Row) (us:List Value):Prop where
 own:w.ownsRow base 100 4 v n us
 len:n=l.length
 at_:∀(i:Nat) (x:Row),l[i]? =some x->∃u,us[i*4]? =some u/\us[i*4+1]? =some (.int .i64 x.at_)/\us[i*4+2]? =some (.int .i64 x.len)/\us[i*4+3]? =some (.int .i64 x.ents)/\SB w (fun b=>D b/\v.ownBlock≠some b) u x.last
 lo:∀b,D b->base<=b
 dom:∀g,v.ownBlock=some g->D g
theorem aX.nil (w:World) (base:Nat):aX w base Nil (.slice none 0 0) 0 [] []:=⟨World.ownsRow_nil _ _ _ _,rfl,fun i x h=>by simp at h,fun _ h=>h.elim,fun g h=>by simp [Value.ownBlock] at h⟩
theorem aX.chgD (h:aX w base D v n l us) (y:ag S w w') (f:∀b,D b->b<w.heap.size->¬S b):aX w' base D v n l us:=
 ⟨aD h.own y (fun g e=>f g (h.dom g e) (ah h.own g e).2),h.len,fun i x j=>by
  obtain⟨u,a,b,c,d,s⟩:=h.at_ i x j;exact⟨u,a,b,c,d,(s.lt.chg y (fun g e=>f g e.1.1 e.2)).weak (fun g e=>e.1)⟩,h.lo,h.dom⟩
theorem aX.chg (h:aX w base D v n l us) (y:ag S w w') (c:∀b,base<=b->b<w.heap.size->¬S b):aX w' base D v n l us:=h.chgD y (fun b a=>c b (h.lo b a))
theorem aX.wider (h:aX w base D v n l us) (f:∀b,D b->D' b) (hl:∀b,D' b->base<=b):aX w base D' v n l us:=
 ⟨h.own,h.len,fun i x j=>by
  obtain⟨u,a,b,c,d,s⟩:=h.at_ i x j;exact⟨u,a,b,c,d,s.weak (fun g e=>⟨f g e.1,e.2⟩)⟩,hl,fun g e=>f g (h.dom g e)⟩
theorem aX.below (h:aX w base D v n l us) (a:Below w.heap.size w w'):aX w' base D v n l us:=h.chg (S:=Nil) (ag.of_below a) (fun _ _ _ h=>h)
theorem aX.sps {A:Option Addr} (h:aX w base D (.slice A n c) n l us):lF w (fun b=>base<=b/\b<w.heap.size) A n l:=
 ⟨h.len,us,(Rd.of_own h.own).lt (by omega),fun i x f=>by
  obtain⟨u,a,b,c,d,s⟩:=h.at_ i x f;exact⟨u,a,b,c,d,s.lt.weak (fun g e=>⟨h.lo g e.1.1,e.2⟩)⟩⟩
theorem aX.snoc {x:Row} (h:aX w base D v n l us) (q:w.grownBy w' v.ownBlock) (A:w'.ownsRow base 100 4 r (n+1) (us++ [u,.int .i64 x.at_,.int .i64 x.len,.int .i64 x.ents]))
  (hv:r.ownBlock=v.ownBlock\/r.ownBlock=some w.heap.size) (z:∀b,D b->D' b) (hl:∀b,D' b->base<=b) (C:w.heap.size<w'.heap.size->D' w.heap.size) (E:SB w (fun b=>D' b/\b<w.heap.size/\v.ownBlock≠some b) u x.last):aX w' base D' r (n+1) (l++ [x]) (us++ [u,.int .i64 x.at_,.int .i64 x.len,.int .i64 x.ents]):=by
 have m:us.length=l.length*4:=by rw [h.own.1,h.len]
 have k:∀(t:List UInt8) (y:Value),SB w (fun b=>D' b/\b<w.heap.size/\v.ownBlock≠some b) y t->SB w' (fun b=>D' b/\r.ownBlock≠some b) y t:=fun t y o=>
  (o.chg (ag.of_grown q) (fun b p e=>p.2.2 e)).weak (fun b p=>⟨p.1,fun e=>by
   rcases hv with hv|hv
   ·rw [hv] at e;exact p.2.2 e
   ·rw [hv] at e;injection e with e;have:=p.2.1;omega⟩)
 refine⟨A,by rw [List.length_append,h.len];rfl,fun i y o=> ?_,hl,fun g f=> ?_⟩
 ·by_cases hi:i<l.length
  ·rw [List.getElem?_append_left hi] at o;obtain⟨F,a,b,c,d,s⟩:=h.at_ i y o
   refine⟨F,?_,?_,?_,?_,k _ _ (s.lt.weak (fun g q=>⟨z g q.1.1,q.2,q.1.2⟩))⟩
   ·rw [List.getElem?_append_left (by omega)];exact a
   ·rw [List.getElem?_append_left (by omega)];exact b
   ·rw [List.getElem?_append_left (by omega)];exact c
   ·rw [List.getElem?_append_left (by omega)];exact d
  ·have j:i=l.length:=by
    have:=(List.getElem?_eq_some_iff.mp o).1;simp at this;omega
   rw [j,List.getElem?_append_right (Nat.le_refl _),Nat.sub_self] at o;simp at o;subst o
   refine⟨u,?_,?_,?_,?_,k _ _ E⟩
   ·rw [j,<-m,List.getElem?_append_right (by omega),Nat.sub_self];rfl
   ·rw [j,<-m,List.getElem?_append_right (by omega),show us.length+1-us.length=1 by omega];rfl
   ·rw [j,<-m,List.getElem?_append_right (by omega),show us.length+2-us.length=2 by omega];rfl
   ·rw [j,<-m,List.getElem?_append_right (by omega),show us.length+3-us.length=3 by omega];rfl
 ·rcases hv with hv|hv
  ·exact z g (h.dom g (hv▸f))
  ·have B:=(ah A g f).2;rw [hv] at f;injection f with f
   subst f;exact C B
end Go.Proofs.YtepgcjbhabnciaaGreat
