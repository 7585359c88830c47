/- Part 22. -/
import Derived.Test.YtbjgeidjmhialaaGreatDoorLa21
namespace Go.Proofs.YtbjgeidjmhialaaGreatDoor
set_option maxRecDepth 100000
set_option maxHeartbeats 8000000
section
open Go.Proofs.Tryz
open Go.RowKit
theorem mY {q p:Nat} {w w1 w2:World} (h:ag (Cs q p w.heap.size) w w1) (k:ag (Cs q p w1.heap.size) w1 w2):ag (Cs q p w.heap.size) w w2:=
 h.trans k (fun b hb e=>by rcases e with e|e|e;exact .inl e;exact .inr (.inl e);exact .inr (.inr (Nat.le_trans h.size e)))
theorem wo {q p:Nat} {w w1 w2:World} (h:ag (Cs q p w.heap.size) w w1) (k:Below w1.heap.size w1 w2):ag (Cs q p w.heap.size) w w2:=h.then k
structure Zs (z q p B:Nat):Prop where
 zq:z≠q
 zp:z≠p
 lt:z<B
theorem Zs.no {z q p B:Nat} (h:Zs z q p B):¬Cs q p B z:=fun e=>by rcases e with e|e|e;exact h.zq e;exact h.zp e;have:=h.lt;omega
theorem Zs.up {z q p B B':Nat} (h:Zs z q p B) (hb:B≤B'):Zs z q p B':=⟨h.zq,h.zp,Nat.lt_of_lt_of_le h.lt hb⟩
theorem QJ {q p:Nat} {F:Nat→Prop} {base:Nat} {w1 w2:World} {v:Value} {bs:List UInt8} (h:Ow w1 base v bs) (hs:Sit F q p base) (k:ag (Cs q p w1.heap.size) w1 w2):Ow w2 base v bs:=
 h.chg k (fun g hg e=>by
  obtain⟨h1,h2⟩:=ah h g hg;have h3:=hs.pB;have h4:=hs.qB
  rcases e with e|e|e
  ·omega
  ·omega
  ·omega)
theorem fU.nil {w w':World} {F:Nat→Prop} {q:Nat} {s:Src} (h:fU w F q s) (hc:ag Nil w w'):fU w' F q s:=h.chg hc (fun h=>h) (fun _ _ h=>h)
theorem fU.own {w w':World} {F:Nat→Prop} {z q:Nat} {s:Src} (h:fU w F q s) (hc:ag (fun b=>b=z) w w') (h1:z≠q) (h2:¬F z):fU w' F q s:=h.chg hc (fun e=>h1 e.symm) (fun b hb e=>h2 ((show b=z from e)▸hb))
def M9 (F:Nat→Prop) (z q p:Nat) (v2:Value) (A:Option Addr) (n cc:Nat) (x:aU) (w:World) (en:Ending) (w':World):Prop:=
 fU w' F p x.cur.src∧en= .returned (.tuple #[.slice none 0 0,.bool false])∧ai w' z 150 #[.pointer (some ⟨q,0,none⟩),.func (.func 99) #[.pointer (some ⟨z,0,none⟩)] #[],v2,.slice A n cc,.int .i64 x.err,.int .i64 (x.bad:Nat)]∧ag (fun b=>b=z∨Cs q p w.heap.size b) w w'
theorem ED (n:Nat):1≤(aG n).length:=by
 unfold aG;split<;>simp
theorem EE {l:List Row} (h:mO l):1≤(aT l).length∧(aT l).length≤872415300:=by
 have h1:=tQ h.bytes l.length;rw [List.take_length] at h1;have h2:=j3 h.ents l.length;rw [List.take_length] at h2;have h3:=h.many;have a1:=aJ (n:=l.length) (by omega);have a2:=aJ (n:=aW l) (by omega);have a3:=ED l.length;unfold aT;simp only [List.length_append];omega
theorem Jf (F G:Nat→Prop) (z q p hv K at_:Nat) (v1 v2:Value) (A:Option Addr) (n cc:Nat) (r:aU) (c:ax) (w:World) (s:Sit F q p w.heap.size) (zs:Zs z q p w.heap.size) (NC:¬F z)
  (hb:ai w z 150 #[.pointer (some ⟨q,0,none⟩),v1,v2,.slice A n cc,.int .i64 r.err,.int .i64 (r.bad:Nat)]) (hr:kz w G A n r.rows) (hG:∀b,G b→b<w.heap.size) (hnc:n≤cc) (hro:gu r.rows) (hra:∀x∈r.rows,x.at_≤1152921504606)
  (h:kP w F q p c hv) (ho:c.Ok K) (hh:c.held=none) (hK:K≤1152921504606846976) (hat:at_<9223372036854775808):
  Calls prog 102 #[.pointer (some ⟨z,0,none⟩),.int .i64 at_] w (M9 F z q p v2 A n cc (r.footR c at_) w):=by
 refine letter fun R HR=> ?_;have HS:=aa s;have HZ:=aa zs;have HB:=aa hb;have HI:=aa h;have kZ:=aa (EE (hro.few hra));have Vy:=aa (GV G A n cc r.rows w hr hnc hro hra hG);have hz0:w.cell? ⟨z,0,none⟩=some (.pointer (some ⟨q,0,none⟩)):=hb.cell 0;have hz3:w.cell? ⟨z,3,none⟩=some (.slice A n cc):=hb.cell 3;obtain⟨fb,NK⟩:∃fb,fb=aT r.rows:=⟨_,rfl⟩;obtain⟨N,hN⟩:∃N,N=c.number:=⟨_,rfl⟩;obtain⟨D,hD⟩:∃D,D=N.2.2.body fb.length:=⟨_,rfl⟩;obtain⟨T,hT⟩:∃T,T=D.cur.bytes 12:=⟨_,rfl⟩;obtain⟨E,hE⟩:∃E,E=T.2.2.end_:=⟨_,rfl⟩
 have HF:Hid (r.footR c at_=if N.2.1≠0 then r.fail N.2.2 N.2.1 c.at_ else if N.1≠fb.length then r.fail N.2.2 84 c.at_ else if D.err≠0 then r.fail D.cur D.err D.place
  else if comm D.body fb<fb.length then r.fail D.cur 84 (N.2.2.at_+comm D.body fb) else if T.2.1≠0 then r.fail T.2.2 T.2.1 D.cur.at_ else if T.1≠dX at_ then r.fail T.2.2 85 D.cur.at_
  else if E.2.1≠0 then r.fail E.2.2 E.2.1 T.2.2.at_ else if E.1=false then r.fail E.2.2 86 T.2.2.at_ else{r with cur:=E.2.2,st:=2}):=aa (by subst hE;subst hT;subst hD;subst hN;subst NK;rfl)
 have Tc:=ax.number_ok ho;rw [←hN] at Tc;have Dm:=aa Tc;have R7:=aa hN;have SC:=aa ho;have Up:=aa hD;have Qi:=aa hT;have Ub:=aa hE;have Td:=ax.number_step ho hh;rw [←hN] at Td;have HHN:=aa Td;rw [←NK] at kZ;have HFE:=aa NK
 have HBAD:Hid (∀(x:aU) (cu:ax) (e:Int) (a:Nat) (wk:World) (en:Ending) (w':World),fU wk F p cu.src→r.footR c at_=r.fail cu e a→ag (Cs q p w.heap.size) w wk→FU z (.pointer (some ⟨q,0,none⟩)) v2 (.slice A n cc) e a wk en w'→M9 F z q p v2 A n cc (r.footR c at_) w en w'):=aa (fun x cu e a wk en w' hs hx hc hf=>by
  rw [hx];exact⟨hs.own hf.2.2 zs.zp NC,hf.1,hf.2.1,(hc.mono (fun b _ hb=> .inr hb)).trans hf.2.2 (fun b hb e=> .inl e)⟩)
 have QK:=aa NC;clear s zs NC hb h ho NK hN hD hT hE hr hro hra hG Tc Td;go_enter func102,ntmps102
 go_upto_region 2 with(go_at_call 127;go_loud (refine Vy.mono ?_);rintro e w1 ⟨vB,rfl,hO,hB⟩;rw [←HFE.out] at hO;have HO:=aa hO;have HW1:=aa hB;clear hO hB)
 obtain⟨fA,fn,fc,rfl,_,_,hfn,_⟩:=HO.out.sb;have QL:=aa hfn;have ib:Hid (ag (Cs q p w.heap.size) w w1):=aa (ag.of_below HW1);have HB1:=aa (HB.below HW1);have HI1:Hid (kP w1 F q p c hv):=aa (HI.chg (S:=Nil) (ag.of_below HW1) (fun h=>h) (fun h=>h) (fun _ _ h=>h));have ad8:w1.cell? ⟨z,0,none⟩=some (.pointer (some ⟨q,0,none⟩)):=HB1.out.cell 0;have hc1:w1.cell? ⟨q,0,none⟩=some (.int .i64 (c.at_:Nat)):=HI1.out.blk.cell 0;have HA1:=aa (iF q (c.at_:Nat) w1 hc1);have F8:=aa (uV F q p hv K c w1 (HS.up HW1.size) HI1 SC hK);clear hz0 hz3 hfn;go_upto_region 3 with(go_at_call 100;go_loud (refine HA1.mono ?_);rintro e w2 ⟨rfl,rfl⟩)
 go_upto_region 4 with(go_at_call 103;go_loud (refine F8.mono ?_);rintro e w2 ⟨hv2,rfl,hI,hC⟩;rw [←R7.out] at hI⊢;have HI2:=aa hI;have bI:=aa (mY ib hC);have Wy:=aa hC;clear hI hC)
 have HB2:=aa (HB1.chg Wy (HZ.up HW1.size).no);have iV:=aa (QJ HO HS Wy);obtain⟨e1,he1⟩:∃e,e=N.2.1:=⟨_,rfl⟩;rw [←he1] at HF Dm HHN⊢;have zx:=aa he1;clear ad8 hc1 he1
 by_cases h1:e1=0
 ·subst h1;obtain⟨n1,hn1⟩:∃n1,n1=N.1:=⟨_,rfl⟩;rw [←hn1] at HF⊢;have F8:=aa hn1;have hfw:IntKind.u64.wrap (fn:Int)=(fn:Int):=IntWalk.u64_in _ (by have h9:=kZ.out;rw [←QL.out] at h9;omega);clear hn1
  by_cases h2:n1=fn
  ·subst h2;have HF1:=aa HF;have Wz:1≤n1:=by have h9:=kZ.out;rw [←QL.out] at h9;omega
   have WA:n1≤872415300:=by have h9:=kZ.out;rw [←QL.out] at h9;omega
   have WB:w2.cell? ⟨z,0,none⟩=some (.pointer (some ⟨q,0,none⟩)):=HB2.out.cell 0;have hc2:w2.cell? ⟨q,0,none⟩=some (.int .i64 (N.2.2.at_:Nat)):=HI2.out.blk.cell 0;have hs2:w.heap.size≤w2.heap.size:=bI.out.size;have HA2:=aa (iF q (N.2.2.at_:Nat) w2 hc2);have GD:=aa (xP F z q p hv2 n1 K N.2.2 w2 (HS.up hs2) WB (HZ.up hs2).lt HZ.zq HZ.zp HI2 Dm.1 HHN.1 hK (by omega) (by omega));have Te:=ax.body_ok Dm.1 HHN.1 n1 (by omega);rw [QL.out,←Up.out] at Te;have ND:=aa Te;clear Te;go_upto_region 9 with(go_at_call 100;go_loud (refine HA2.mono ?_);rintro e w3 ⟨rfl,rfl⟩)
   go_upto_region 10 with(go_at_call 104;go_loud (refine GD.mono ?_);rintro e w3 ⟨vD,hv3,rfl,hO,hI,hC⟩;rw [QL.out,←Up.out] at hO hI⊢;have nD:=aa hO;have HI3:=aa hI;have gN:=aa (mY bI hC);have Na:=aa hC;clear hO hI hC)
   have HB3:=aa (HB2.chg Na (HZ.up hs2).no);have Jg:=aa (QJ iV HS Na);obtain⟨ln,hln⟩:∃ln,ln=fb.length:=⟨_,rfl⟩;rw [QL.out] at Wz WA HF;rw [QL.out] at Jg;rw [←hln] at HF Wz WA Jg ND⊢;have jv:=aa hln;obtain⟨eD,Tf⟩:∃e,e=D.err:=⟨_,rfl⟩;rw [←Tf] at HF nD⊢;have Gg:=aa Tf;clear WB hc2 Tf hln
   by_cases h3:eD=0
   ·subst h3;obtain⟨dA,dn,dc,rfl,_,_,hdn,hdr⟩:=(nD.out rfl).sb;obtain⟨_,_,_,hfr⟩:=Jg.out.sb.parts;have hdl:dn=ln:=by rw [hdn];exact ND.len Gg.out.symm
    have zu:Hid (ln=D.body.length):=aa (by rw [←hdl];exact hdn);rw [hdl] at hdr⊢;have HDR:=aa hdr;have Dv:Hid (Rd w3 (From w.heap.size) 1 fA ln (aK fb)):=aa hfr;clear hdl hdn hdr hfr;go_upto_region 12 with fail
    go_wp2
    go_loopw [86] (fun iv wz=>∃i:Nat,i≤ln∧iv= .int .i64 i∧Hid (∀k,k<i→D.body[k]? =fb[k]?)∧Hid (ag Nil w3 wz)) (fun iv _=>ln-(intOf iv).toNat)
    case atStart=>exact⟨0,Nat.zero_le _,rfl,aa (fun k hk=>absurd hk (by omega)),aa (ag.refl Nil w3)⟩
    case round=>
     obtain⟨i,hi,rfl,tL,Tg⟩:=hrel;have HBr:=aa (HB3.chg Tg (fun h=>h));have HCr:Hid (ag (Cs q p w.heap.size) w wr):=aa (gN.out.trans Tg (fun _ _ h=>h.elim))
     by_cases hlt:i<ln
     ·have hlt':(i:Int)<(ln:Int):=by omega
      obtain⟨b1,o1,u1,rfl,_,hu1,hx1⟩:=((HDR).chg Tg (fun _ _ h=>h)).at_ hlt;obtain⟨b2,o2,u2,rfl,_,hu2,hx2⟩:=((Dv).chg Tg (fun _ _ h=>h)).at_ hlt;obtain⟨x1,hy1,rfl⟩:=gH hu1;obtain⟨x2,hy2,rfl⟩:=gH hu2;have wC:=aa hy1;have yL:=aa hy2;unfold bv at hx1 hx2;clear hu1 hu2 hy1 hy2;go_upto_region 15 with fail
      go_quiet (fail)
      by_cases jY:x1=x2
      ·subst jY;go_wp2
       go_roundw
       case rel=>
        refine⟨i+1,by omega,by go_num,aa (fun k hk=> ?_),aa (Tg.drewN nq)⟩
        by_cases hki:k=i
        ·rw [hki,wC.out,yL.out]
        ·exact tL k (by omega)
       case measure=>simp [intOf];omega
      ·have XU:¬((x1.toNat:Int)=(x2.toNat:Int)):=fun e=>jY (UInt8.toNat_inj.mp (by omega));have al2:((x1.toNat:Int)==(x2.toNat:Int))=false:=by rw [beq_eq_false_iff_ne];exact XU
       have HCM:Hid (i=comm D.body fb):=aa (jF _ _ i tL (by have h1:=zu.out;omega) (by have h1:=jv.out;omega) (.inr (.inr (by rw [wC.out,yL.out];intro e;exact jY (Option.some.inj e)))));have Qo:Hid (comm D.body fb<ln):=aa (by rw [←HCM.out];exact hlt)
       have hpl:IntKind.i64.wrap ((N.2.2.at_:Int)+(i:Int))=((N.2.2.at_+i:Nat):Int):=by
        rw [IntWalk.i64_in _ (by have h1:=Dm.out.1.sum;omega)];omega
       clear jY;have HBw:=aa (HBr.drewN nq);have HCw:=aa (HCr.drewN nq);go_wp2_with (go_at_call 74;go_loud (refine(bf z _ v1 v2 _ _ _ 84 ((N.2.2.at_+i:Nat)) (wr.drewN nq) HBw).mono ?_);rintro e9 w9 ⟨rfl,gY,gZ⟩;have lD:=aa gY;have lF:=aa gZ;clear gY gZ)
       rw [HR.out]
       exact HBAD r D.cur 84 ((N.2.2.at_+i:Nat)) (wr.drewN nq) _ w9 (HI3.src.nil (Tg.drewN nq)) (by rw [HF.out,if_neg (by simp),if_neg (by simp),if_neg (by simp),if_pos Qo.out,←HCM.out]) HCw ⟨rfl,lD,lF⟩
     ·have hlt':¬((i:Int)<(ln:Int)):=by omega
      have hie:i=ln:=by omega
      have HCM:Hid (¬comm D.body fb<ln):=aa (by
       have h9:=jF D.body fb i tL (by have h1:=zu.out;omega) (by have h1:=jv.out;omega) (.inl (by have h1:=zu.out;omega));omega)
      have HIr:Hid (kP wr F q p D.cur hv3):=aa (HI3.chg Tg (fun h=>h) (fun h=>h) (fun _ _ h=>h));have hzr:wr.cell? ⟨z,0,none⟩=some (.pointer (some ⟨q,0,none⟩)):=HBr.out.cell 0;have hcr:wr.cell? ⟨q,0,none⟩=some (.int .i64 (D.cur.at_:Nat)):=HIr.out.blk.cell 0;have Qj:w.heap.size≤wr.heap.size:=HCr.out.size;have HAr:=aa (iF q (D.cur.at_:Nat) wr hcr);have FD:=aa (j5 F q p hv3 12 K D.cur wr (HS.up Qj) HIr ND.ok hK (by omega) (by omega));clear hie;go_upto_region 19 with(go_at_call 100;go_loud (refine HAr.mono ?_);rintro e w4 ⟨rfl,rfl⟩)
      go_upto_region 20 with(go_at_call 73;go_loud (refine FD.mono ?_);rintro e w4 ⟨vT,hv4,rfl,hO,hI,hC⟩;rw [←Qi.out] at hO hI⊢;have lI:=aa hO;have HI4:=aa hI;have mP:=aa (mY HCr hC);have PQ:=aa hC;clear hO hI hC)
      have dN:=aa (HBr.chg PQ (HZ.up Qj).no);obtain⟨eT,heT⟩:∃e,e=T.2.1:=⟨_,rfl⟩;rw [←heT] at HF lI⊢;have HET:=aa heT;clear hzr hcr heT
      by_cases h5:eT=0
      ·subst h5;obtain⟨tA,tn,tc,rfl,_,_,htn,htr⟩:=(lI.out rfl).sb;have RB:=aa htn;have HTR:=aa htr;have hs4:w.heap.size≤w4.heap.size:=mP.out.size;have Jy:=aa (Jh at_ w4 hat);have PY:Hid (T.2.2.Ok K∧T.2.2.held=none):=aa ⟨by rw [Qi.out];exact ax.bytes_ok ND.ok 12,by rw [Qi.out];exact ax.bytes_held ND.ok 12 ND.held⟩;clear htn htr;obtain⟨bt,hbt⟩:∃b:Bool,b=decide (T.1=dX at_):=⟨_,rfl⟩;have Nl:=aa hbt
       have HQ:Hid (∀w5 A2 n2 c2,Below w4.heap.size w4 w5→Ow w5 w4.heap.size (.slice A2 n2 c2) (dX at_)→Calls prog 78 #[.slice tA tn tc,.slice A2 n2 c2] w5 fun e w'=>e= .returned (.bool bt)∧w5=w'):=aa (fun w5 A2 n2 c2 hb5 ho5=>by
        obtain⟨_,_,h7,h8⟩:=ho5.sb.parts;have h9:=Ji _ _ tA A2 tn tc n2 c2 T.1 (dX at_) w5 (HTR.below hb5) RB h8 h7;rw [hbt];exact h9)
       clear hbt
       cases bt with
       |false=>
        have zk:Hid (T.1≠dX at_):=aa (of_decide_eq_false Nl.out.symm);go_upto_region 23 with(first|(go_at_call 128;go_loud (refine Jy.mono ?_);rintro e w5 ⟨vU,rfl,hO,hB⟩;obtain⟨uA,un,uc,rfl,-,-,-,-⟩:=hO.sb;have AY:=aa hO;have xH:=aa hB;clear hO hB)|(go_at_call 78;go_loud (refine(HQ w5 _ _ _ xH AY).mono ?_);rintro e w6 ⟨rfl,rfl⟩))
        have Nb:Hid (kP w5 F q p T.2.2 hv4):=aa (HI4.chg (S:=Nil) (ag.of_below xH) (fun h=>h) (fun h=>h) (fun _ _ h=>h));have fO:=aa (dN.below xH);have fQ:=aa (wo mP xH);have hs5:w.heap.size≤w5.heap.size:=fQ.out.size;clear hs4;go_wp2_with (go_at_call 74;go_loud (refine(bf z _ v1 v2 _ _ _ 85 (D.cur.at_:Nat) w5 fO).mono ?_);rintro e9 w9 ⟨rfl,gY,gZ⟩;have lD:=aa gY;have lF:=aa gZ;clear gY gZ)
        rw [HR.out]
        exact HBAD r T.2.2 85 (D.cur.at_:Nat) w5 _ w9 Nb.src (by rw [HF.out,if_neg (by simp),if_neg (by simp),if_neg (by simp),if_neg HCM.out,if_neg (by simp),if_pos zk.out]) fQ ⟨rfl,lD,lF⟩
       |true=>
        have zk:Hid (¬T.1≠dX at_):=aa (fun h=>h (of_decide_eq_true Nl.out.symm));go_upto_region 24 with(first|(go_at_call 128;go_loud (refine Jy.mono ?_);rintro e w5 ⟨vU,rfl,hO,hB⟩;obtain⟨uA,un,uc,rfl,-,-,-,-⟩:=hO.sb;have AY:=aa hO;have xH:=aa hB;clear hO hB)|(go_at_call 78;go_loud (refine(HQ w5 _ _ _ xH AY).mono ?_);rintro e w6 ⟨rfl,rfl⟩))
        have Nb:Hid (kP w5 F q p T.2.2 hv4):=aa (HI4.chg (S:=Nil) (ag.of_below xH) (fun h=>h) (fun h=>h) (fun _ _ h=>h));have fO:=aa (dN.below xH);have fQ:=aa (wo mP xH);have hs5:w.heap.size≤w5.heap.size:=fQ.out.size;clear hs4;have Rw:w5.cell? ⟨z,0,none⟩=some (.pointer (some ⟨q,0,none⟩)):=fO.out.cell 0;have je:w5.cell? ⟨q,0,none⟩=some (.int .i64 (T.2.2.at_:Nat)):=Nb.out.blk.cell 0;have Y5:=aa (iF q (T.2.2.at_:Nat) w5 je);have wH:=aa (OX F q p hv4 K T.2.2 w5 (HS.up hs5) Nb PY.1 PY.2 hK);go_upto_region 25 with(go_at_call 100;go_loud (refine Y5.mono ?_);rintro e w6 ⟨rfl,rfl⟩)
        go_upto_region 26 with(go_at_call 129;go_loud (refine wH.mono ?_);rintro e w6 ⟨rfl,hS,hC⟩;rw [←Ub.out] at hS⊢;have OD:=aa hS;have iW:=aa (mY fQ hC);have ad9:=aa hC;clear hC hS)
        have lg:=aa (fO.chg ad9 (HZ.up hs5).no);obtain⟨eE,WC⟩:∃e,e=E.2.1:=⟨_,rfl⟩;obtain⟨bE,hbE⟩:∃b,b=E.1:=⟨_,rfl⟩;rw [←WC,←hbE] at HF⊢;clear Rw je WC hbE
        by_cases h7:eE=0
        ·subst h7
         cases bE with
         |false=>
          go_wp2_with (go_at_call 74;go_loud (refine(bf z _ v1 v2 _ _ _ 86 (T.2.2.at_:Nat) w6 lg).mono ?_);rintro e9 w9 ⟨rfl,gY,gZ⟩;have lD:=aa gY;have lF:=aa gZ;clear gY gZ)
          rw [HR.out]
          exact HBAD r E.2.2 86 (T.2.2.at_:Nat) w6 _ w9 OD (by rw [HF.out,if_neg (by simp),if_neg (by simp),if_neg (by simp),if_neg HCM.out,if_neg (by simp),if_neg zk.out,if_neg (by simp),if_pos (by simp)]) iW ⟨rfl,lD,lF⟩
         |true=>
          have z1:w6.cell? ⟨z,1,none⟩=some v1:=lg.out.cell 1;have Kt:=lg.out.frozen 1;go_wp2;rw [HR.out];unfold M9;rw [HF.out,if_neg (by simp),if_neg (by simp),if_neg (by simp),if_neg HCM.out,if_neg (by simp),if_neg zk.out,if_neg (by simp),if_neg (by simp)]
          exact⟨OD.own ((ag.refl (fun b=>b=z) w6).setCell (p:=⟨z,1,none⟩) (fun _=>rfl) _) HZ.zp QK,rfl,lg.set_ 1 _,(iW.mono (fun b _ hb=> .inr hb)).setCell (p:=⟨z,1,none⟩) (fun _=> .inl rfl) _⟩
        ·have h7':(eE==0)=false:=by rw [beq_eq_false_iff_ne];exact h7
         have H7:=aa h7;go_wp2_with (go_at_call 74;go_loud (refine(bf z _ v1 v2 _ _ _ eE (T.2.2.at_:Nat) w6 lg).mono ?_);rintro e9 w9 ⟨rfl,gY,gZ⟩;have lD:=aa gY;have lF:=aa gZ;clear gY gZ)
         rw [HR.out]
         exact HBAD r E.2.2 eE (T.2.2.at_:Nat) w6 _ w9 OD (by rw [HF.out,if_neg (by simp),if_neg (by simp),if_neg (by simp),if_neg HCM.out,if_neg (by simp),if_neg zk.out,if_pos H7.out]) iW ⟨rfl,lD,lF⟩
      ·have h5':(eT==0)=false:=by rw [beq_eq_false_iff_ne];exact h5
       have H5:=aa h5;go_wp2_with (go_at_call 74;go_loud (refine(bf z _ v1 v2 _ _ _ eT (D.cur.at_:Nat) w4 dN).mono ?_);rintro e9 w9 ⟨rfl,gY,gZ⟩;have lD:=aa gY;have lF:=aa gZ;clear gY gZ)
       rw [HR.out]
       exact HBAD r T.2.2 eT (D.cur.at_:Nat) w4 _ w9 HI4.src (by rw [HF.out,if_neg (by simp),if_neg (by simp),if_neg (by simp),if_neg HCM.out,if_pos H5.out]) mP ⟨rfl,lD,lF⟩
   ·have h3':(eD==0)=false:=by rw [beq_eq_false_iff_ne];exact h3
    have H3:=aa h3;go_wp2_with (go_at_call 74;go_loud (refine(bf z _ v1 v2 _ _ _ eD (D.place:Nat) w3 HB3).mono ?_);rintro e9 w9 ⟨rfl,gY,gZ⟩;have lD:=aa gY;have lF:=aa gZ;clear gY gZ)
    rw [HR.out]
    exact HBAD r D.cur eD (D.place:Nat) w3 _ w9 HI3.src (by rw [HF.out,if_neg (by simp),if_neg (by simp),if_pos H3.out]) gN ⟨rfl,lD,lF⟩
  ·have h2':((n1:Int)==(fn:Int))=false:=by rw [beq_eq_false_iff_ne];omega
   have al3:¬((n1:Int)=(fn:Int)):=by omega
   have H2:Hid (n1≠fb.length):=aa (by rw [←QL.out];exact h2);go_wp2_with (go_at_call 74;go_loud (refine(bf z _ v1 v2 _ _ _ 84 (c.at_:Nat) w2 HB2).mono ?_);rintro e9 w9 ⟨rfl,gY,gZ⟩;have lD:=aa gY;have lF:=aa gZ;clear gY gZ)
   rw [HR.out]
   exact HBAD r N.2.2 84 (c.at_:Nat) w2 _ w9 HI2.src (by rw [HF.out,if_neg (by simp),if_pos H2.out]) bI ⟨rfl,lD,lF⟩
 ·have h1':(e1==0)=false:=by rw [beq_eq_false_iff_ne];exact h1
  have H1:=aa h1;go_wp2_with (go_at_call 74;go_loud (refine(bf z _ v1 v2 _ _ _ e1 (c.at_:Nat) w2 HB2).mono ?_);rintro e9 w9 ⟨rfl,gY,gZ⟩;have lD:=aa gY;have lF:=aa gZ;clear gY gZ)
  rw [HR.out];exact HBAD r N.2.2 e1 (c.at_:Nat) w2 _ w9 HI2.src (by rw [HF.out,if_pos H1.out]) bI ⟨rfl,lD,lF⟩
end
section
open Go.Proofs.Tryz
open Go.RowKit
open Go.Lib (compareBytes)
theorem rz:(prog.info? 146).map (fun i=>(i.zero,i.size,i.bytes))=some (some (.agg #[.slice none 0 0,.int .i64 0,.int .i64 0,.int .i64 0]),4,48):=by kernel_rfl
structure bG (w:World) (base:Nat) (D:Nat→Prop) (v:Value) (n:Nat) (l:List Row) (us:List Value):Prop where
 own:w.ownsRow base 146 4 v n us
 len:n=l.length
 at_:∀(i:Nat) (x:Row),l[i]? =some x→∃u,us[i*4]? =some u∧us[i*4+1]? =some (.int .i64 x.at_)∧us[i*4+2]? =some (.int .i64 x.len)∧us[i*4+3]? =some (.int .i64 x.ents)∧SB w (fun b=>D b∧v.ownBlock≠some b) u x.last
 lo:∀b,D b→base≤b
 dom:∀g,v.ownBlock=some g→D g
theorem bG.nil (w:World) (base:Nat):bG w base Nil (.slice none 0 0) 0 [] []:=⟨World.ownsRow_nil _ _ _ _,rfl,fun i x h=>by simp at h,fun _ h=>h.elim,fun g h=>by simp [Value.ownBlock] at h⟩
theorem bG.chgD {S D:Nat→Prop} {w w':World} {base:Nat} {v:Value} {n:Nat} {l:List Row} {us:List Value} (h:bG w base D v n l us) (hc:ag S w w') (hs:∀b,D b→b<w.heap.size→¬S b):bG w' base D v n l us:=
 ⟨aF h.own hc (fun g hg=>hs g (h.dom g hg) (ah h.own g hg).2),h.len,fun i x hx=>by
  obtain⟨u,a,b,c,d,s⟩:=h.at_ i x hx;exact⟨u,a,b,c,d,(s.lt.chg hc (fun g hg=>hs g hg.1.1 hg.2)).weak (fun g hg=>hg.1)⟩,h.lo,h.dom⟩
theorem bG.chg {S D:Nat→Prop} {w w':World} {base:Nat} {v:Value} {n:Nat} {l:List Row} {us:List Value} (h:bG w base D v n l us) (hc:ag S w w') (hs:∀b,base≤b→b<w.heap.size→¬S b):bG w' base D v n l us:=h.chgD hc (fun b hb=>hs b (h.lo b hb))
theorem bG.wider {D D':Nat→Prop} {w:World} {base:Nat} {v:Value} {n:Nat} {l:List Row} {us:List Value} (h:bG w base D v n l us) (hd:∀b,D b→D' b) (hl:∀b,D' b→base≤b):bG w base D' v n l us:=
 ⟨h.own,h.len,fun i x hx=>by
  obtain⟨u,a,b,c,d,s⟩:=h.at_ i x hx;exact⟨u,a,b,c,d,s.weak (fun g hg=>⟨hd g hg.1,hg.2⟩)⟩,hl,fun g hg=>hd g (h.dom g hg)⟩
theorem bG.below {D:Nat→Prop} {w w':World} {base:Nat} {v:Value} {n:Nat} {l:List Row} {us:List Value} (h:bG w base D v n l us) (hb:Below w.heap.size w w'):bG w' base D v n l us:=h.chg (S:=Nil) (ag.of_below hb) (fun _ _ _ h=>h)
theorem bG.sps {D:Nat→Prop} {w:World} {base:Nat} {A:Option Addr} {n c:Nat} {l:List Row} {us:List Value} (h:bG w base D (.slice A n c) n l us):kz w (fun b=>base≤b∧b<w.heap.size) A n l:=
 ⟨h.len,us,(Rd.of_own h.own).lt (by omega),fun i x hx=>by
  obtain⟨u,a,b,c,d,s⟩:=h.at_ i x hx;exact⟨u,a,b,c,d,s.lt.weak (fun g hg=>⟨h.lo g hg.1.1,hg.2⟩)⟩⟩
theorem bG.snoc {D D':Nat→Prop} {w:World} {base:Nat} {v v':Value} {n:Nat} {l:List Row} {us:List Value} {x:Row} {u:Value} {w':World} (h:bG w base D v n l us) (hg:w.grownBy w' v.ownBlock) (ho:w'.ownsRow base 146 4 v' (n+1) (us++ [u,.int .i64 x.at_,.int .i64 x.len,.int .i64 x.ents]))
  (hv:v'.ownBlock=v.ownBlock∨v'.ownBlock=some w.heap.size) (hd:∀b,D b→D' b) (hl:∀b,D' b→base≤b) (hn:w.heap.size<w'.heap.size→D' w.heap.size) (hu:SB w (fun b=>D' b∧b<w.heap.size∧v.ownBlock≠some b) u x.last):bG w' base D' v' (n+1) (l++ [x]) (us++ [u,.int .i64 x.at_,.int .i64 x.len,.int .i64 x.ents]):=by
 have Nz:us.length=l.length*4:=by rw [h.own.1,h.len]
 have hkeep:∀(t:List UInt8) (y:Value),SB w (fun b=>D' b∧b<w.heap.size∧v.ownBlock≠some b) y t→SB w' (fun b=>D' b∧v'.ownBlock≠some b) y t:=fun t y hy=>
  (hy.chg (ag.of_grown hg) (fun b hb e=>hb.2.2 e)).weak (fun b hb=>⟨hb.1,fun e=>by
   rcases hv with hv|hv
   ·rw [hv] at e;exact hb.2.2 e
   ·rw [hv] at e;injection e with e;have:=hb.2.1;omega⟩)
 refine⟨ho,by rw [List.length_append,h.len];rfl,fun i y hy=> ?_,hl,fun g hgg=> ?_⟩
 ·by_cases hi:i<l.length
  ·rw [List.getElem?_append_left hi] at hy;obtain⟨u2,a,b,c,d,s⟩:=h.at_ i y hy
   refine⟨u2,?_,?_,?_,?_,hkeep _ _ (s.lt.weak (fun g hg=>⟨hd g hg.1.1,hg.2,hg.1.2⟩))⟩
   ·rw [List.getElem?_append_left (by omega)];exact a
   ·rw [List.getElem?_append_left (by omega)];exact b
   ·rw [List.getElem?_append_left (by omega)];exact c
   ·rw [List.getElem?_append_left (by omega)];exact d
  ·have hie:i=l.length:=by
    have:=(List.getElem?_eq_some_iff.mp hy).1;simp at this;omega
   rw [hie,List.getElem?_append_right (Nat.le_refl _),Nat.sub_self] at hy;simp at hy;subst hy
   refine⟨u,?_,?_,?_,?_,hkeep _ _ hu⟩
   ·rw [hie,←Nz,List.getElem?_append_right (by omega),Nat.sub_self];rfl
   ·rw [hie,←Nz,List.getElem?_append_right (by omega),show us.length+1-us.length=1 by omega];rfl
   ·rw [hie,←Nz,List.getElem?_append_right (by omega),show us.length+2-us.length=2 by omega];rfl
   ·rw [hie,←Nz,List.getElem?_append_right (by omega),show us.length+3-us.length=3 by omega];rfl
 ·rcases hv with hv|hv
  ·exact hd g (h.dom g (hv▸hgg))
  ·have h3:=(ah ho g hgg).2;rw [hv] at hgg;injection hgg with hgg
   subst hgg;exact hn h3
end
section
open Go.RowKit
end
section
open Go.Proofs.Tryz
open Go.RowKit
noncomputable def WL:Code:=aP (f75.body.bind (aA 26))
theorem Cr (G D:Nat→Prop) (base z q at_ P eb eo en ec:Nat) (A:Option Addr) (n cc:Nat) (l:List Row) (us:List Value) (es:List aH) (v1 v2 v4 v5:Value) (w:World) {u1 u2 u3 u5 u6 u7 u8 u9 u10 u12 u13 bN bq u16 u17 bC bD u20 u21 u22 u23 u24 u25 u26 u27 u28 u29 u30 u31 u32 u33 u34 u35 u36 u37 u38 dh u40 bX u42 bY u44 u45 u46 di u48 u49 bV u51 u52 u53 bW u55 dz dB u58 u59 u60 dH dG u63 u64 dO u66 dU u68 u69 u70 dV u72 u73 dP u75 eQ eU eX eY eZ fo fq fu fw fE iO jM jC jD lN lQ lS u93 qp qw qy qz qE qF ig ik il iq gQ u105 qG qH qI qJ qK qL qM qN qO qP qQ qR qT u119 qU qV qW qX u124 qY qZ u127 og oh ol u131 om oq ou ow oz oC u138 u139 oD oF oG oH oI oJ oK yc Iq Ir Iu Iv u152 Iw u154 WM WN WO WP WQ WR WS u162 WT u164 WU WV WW WX WY WZ W9 Xa Xb ae6 ae7 ae8 ae9 af0 af1 af2 af3 af4 af5 af6 af7 af8 af9 ag0 ag1 ag2 ag3 ag4 u193 u194 ag5 u196 ag6 u198 ag7 ag8 u201 ag9 ah0 Xc:Value} (Q:Exit→Act→World→Prop) (nC:Hid (∀c t (a:Act) w,Q (.panic c) ⟨t,a.defers⟩ w→Q (.panic c) a w))
  (HB:Hid (ai w z 150 #[.pointer (some ⟨q,0,none⟩),v1,v2,.slice A n cc,v4,v5])) (HM:Hid (bG w base D (.slice A n cc) n l us)) (HE:Hid (bO w G (some ⟨eb,eo,none⟩) en es)) (HQC:Hid (w.cell? ⟨q,0,none⟩=some (.int .i64 (P:Nat)))) (he:0<en) (he2:en≤64) (hk:∀e∈es,e.1.length≤64)
  (hap:at_≤P) (hP:P≤1152921504606846976) (hn:n≤8388608) (hbw:base≤w.heap.size) (hzb:z<base) (HG:Hid (∀b,G b→b<w.heap.size∧(Value.slice A n cc).ownBlock≠some b))
  (au:∀(Ti v175 Tj Tk Tm Tn Tp Tq v182 v183 Tt Tu Tv Tw Ty Tz TA TB TC v193 v194 TD v196 TE v198 TF TG v201 TH v203:Value) (A':Option Addr) (pu:Nat) (lh:List Value) (w':World),bG w' base (fun b=>D b∨(w.heap.size≤b∧b<w'.heap.size)) (.slice A' (n+1) pu) (n+1) (l++ [⟨aD es,at_,P-at_,es.length⟩]) lh→ai w' z 150 #[.pointer (some ⟨q,0,none⟩),v1,v2,.slice A' (n+1) pu,v4,v5]→ag (fun b=>b=z∨(Value.slice A n cc).ownBlock=some b) w w'→(∀g,(Value.slice A' (n+1) pu).ownBlock=some g→(Value.slice A n cc).ownBlock=some g∨w.heap.size≤g)→Q .normal ⟨(.pointer (some ⟨z,0,none⟩)::u1::u2::u3:: .int .i64 (at_:Nat)::u5::u6::u7::u8::u9::u10:: .slice (some ⟨eb,eo,none⟩) en ec::u12::u13::bN::bq::u16::u17::bC::bD::u20::u21::u22::u23::u24::u25::u26::u27::u28::u29::u30::u31::u32::u33::u34::u35::u36::u37::u38::dh::u40::bX::u42::bY::u44::u45::u46::di::u48::u49::bV::u51::u52::u53::bW::u55::dz::dB::u58::u59::u60::dH::dG::u63::u64::dO::u66::dU::u68::u69::u70::dV::u72::u73::dP::u75::eQ::eU::eX::eY::eZ::fo::fq::fu::fw::fE::iO::jM::jC::jD::lN::lQ::lS::u93::qp::qw::qy::qz::qE::qF::ig::ik::il::iq::gQ::u105::qG::qH::qI::qJ::qK::qL::qM::qN::qO::qP::qQ::qR::qT::u119::qU::qV::qW::qX::u124::qY::qZ::u127::og::oh::ol::u131::om::oq::ou::ow::oz::oC::u138::u139::oD::oF::oG::oH::oI::oJ::oK::yc::Iq::Ir::Iu::Iv::u152::Iw::u154::WM::WN::WO::WP::WQ::WR::WS::u162::WT::u164::WU::WV::WW::WX::WY::WZ::W9::Xa::Xb::Ti::v175::Tj::Tk::Tm::Tn::Tp::Tq::v182::v183::Tt::Tu::Tv::Tw::Ty::Tz::TA::TB::TC::v193::v194::TD::v196::TE::v198::TF::TG::v201::TH::v203::Xc:: []).toArray,[]⟩ w'):
  Code.wp prog WL Q ⟨(.pointer (some ⟨z,0,none⟩)::u1::u2::u3:: .int .i64 (at_:Nat)::u5::u6::u7::u8::u9::u10:: .slice (some ⟨eb,eo,none⟩) en ec::u12::u13::bN::bq::u16::u17::bC::bD::u20::u21::u22::u23::u24::u25::u26::u27::u28::u29::u30::u31::u32::u33::u34::u35::u36::u37::u38::dh::u40::bX::u42::bY::u44::u45::u46::di::u48::u49::bV::u51::u52::u53::bW::u55::dz::dB::u58::u59::u60::dH::dG::u63::u64::dO::u66::dU::u68::u69::u70::dV::u72::u73::dP::u75::eQ::eU::eX::eY::eZ::fo::fq::fu::fw::fE::iO::jM::jC::jD::lN::lQ::lS::u93::qp::qw::qy::qz::qE::qF::ig::ik::il::iq::gQ::u105::qG::qH::qI::qJ::qK::qL::qM::qN::qO::qP::qQ::qR::qT::u119::qU::qV::qW::qX::u124::qY::qZ::u127::og::oh::ol::u131::om::oq::ou::ow::oz::oC::u138::u139::oD::oF::oG::oH::oI::oJ::oK::yc::Iq::Ir::Iu::Iv::u152::Iw::u154::WM::WN::WO::WP::WQ::WR::WS::u162::WT::u164::WU::WV::WW::WX::WY::WZ::W9::Xa::Xb::ae6::ae7::ae8::ae9::af0::af1::af2::af3::af4::af5::af6::af7::af8::af9::ag0::ag1::ag2::ag3::ag4::u193::u194::ag5::u196::ag6::u198::ag7::ag8::u201::ag9::ah0::Xc:: []).toArray,[]⟩ w:=by
 obtain⟨i0,hi0,jO,jP,jQ⟩:=info_parts rz;have dF:=aa au;obtain⟨j,hj⟩:∃j,en=j+1:=⟨en-1,by omega⟩;obtain⟨b,o,Y,kn,kc,V,vn,vc,key,val,DL,YU,hel,hc0,_,hkc,zi,hkn,hkr,_⟩:=HE.out.at_ (k:=j) (by omega);injection DL with DL
 injection DL with e1 e2
 subst e1;subst e2;have U2:Hid (aD es=key):=aa (jq (e:=(key,val)) (by rw [←HE.out.len,show en-1=j by omega];exact hel));have hkl:kn≤64:=by have h1:key.length≤64:=hk _ (List.mem_of_getElem? hel);have h2:kn=key.length:=hkn;omega
 have wH:Hid (en=es.length):=HE.out.len;have PX:Hid (kn=key.length):=hkn;have RI:=aa hkr;have UQ:=aa (HG _ YU);have hj1:(en:Int)-1=(j:Int):=by omega
 have hj2:IntKind.i64.wrap ((en:Int)-1)=(j:Int):=by rw [IntWalk.i64_in _ (by omega)];omega
 have hj3:IntKind.i64.wrap (j:Int)=(j:Int):=IntWalk.i64_in _ (by omega);have hj0:(0:Int)≤(j:Int):=by omega
 have hp3:IntKind.i64.wrap ((P-at_:Nat):Int)=((P-at_:Nat):Int):=IntWalk.i64_in _ (by omega);have hjl:j<en:=by omega
 have GN:(j:Int)<(en:Int):=by omega
 have hp1:(P:Int)-(at_:Int)=((P-at_:Nat):Int):=by omega
 have hp2:IntKind.i64.wrap ((P:Int)-(at_:Int))=((P-at_:Nat):Int):=by rw [IntWalk.i64_in _ (by omega)];omega
 have hpl:=HB.out.lt;have HZO:Hid ((Value.slice A n cc).ownBlock≠some z):=aa (fun e=>by have:=(ah HM.own z e).1;omega);have jy:Hid (∀w1,Below w.heap.size w w1→Calls prog 23 #[.slice Y kn kc] w1 (Fv w1 key)):=aa (fun w1 hb1=>dm Y kn kc G key w1 (RI.below hb1) PX (by omega));have S0:w.drew.cell? ⟨z,3,none⟩=some (.slice A n cc)∧w.drew.cell? ⟨z,0,none⟩=some (.pointer (some ⟨q,0,none⟩))∧w.drew.cell? ⟨eb,eo+j*2,none⟩=some (.slice Y kn kc):=⟨(HB.cell 3).trans rfl,(HB.cell 0).trans rfl,hc0⟩;clear au hel hc0 hkc zi hkn hkr hk YU hj;conv=>arg 2;whnf
 refine aM (fun w'=>w'.cell? ⟨z,3,none⟩=some (.slice A n cc)∧w'.cell? ⟨z,0,none⟩=some (.pointer (some ⟨q,0,none⟩))∧w'.cell? ⟨eb,eo+j*2,none⟩=some (.slice Y kn kc)) 30 (by kernel_rfl) ?_;refine uF 0 (fun _=>S0) ?_;refine uF 1 (fun _=>S0) ?_;refine uF 2 (fun _=>S0) ?_;refine uF 3 (fun _=>S0) ?_;refine uF 5 (fun _=>S0) ?_;refine uF 6 (fun _=>S0) ?_;refine uF 7 (fun _=>S0) ?_;refine uF 8 (fun _=>S0) ?_;refine uF 9 (fun _=>S0) ?_;refine uF 10 (fun _=>S0) ?_;refine uF 13 (fun _=>S0) ?_;refine uF 14 (fun _=>S0) ?_;refine uF 15 (fun _=>S0) ?_;refine uF 16 (fun _=>S0) ?_;refine uF 21 (fun _=>S0) ?_;refine uF 23 (fun _=>S0) ?_;refine uF 24 (fun _=>S0) ?_;refine uT 4 S0 ?_;refine uT 11 S0 ?_;refine uT 17 S0 ?_;refine uF 18 (fun _=>S0) ?_;refine uF 19 (fun _=>S0) ?_;refine az (i:=12) (by kernel_rfl) rfl (fun K hK=> ?_);go_simp
 go_loud (refine(jy _ ((Below.refl _ _).drew)).mono ?_);rintro e w2 ⟨J,jn,jc,rfl,q1,q2,q3,q4,q5⟩;have HJ:Hid (SB w2 (From w.heap.size) (.slice J jn jc) key):=aa ⟨J,jn,jc,rfl,q1,q2,q3,q4.weak (fun b hb=>hb.1)⟩;have HB2:Hid (Below w.heap.size w w2):=aa ((Below.refl _ _).drew.trans q5);have S1:w2.cell? ⟨z,3,none⟩=some (.slice A n cc)∧w2.cell? ⟨z,0,none⟩=some (.pointer (some ⟨q,0,none⟩))∧w2.cell? ⟨eb,eo+j*2,none⟩=some (.slice Y kn kc):=⟨ak q5 S0.1,ak q5 S0.2.1,ak q5 S0.2.2⟩;have sS:Hid (w2.cell? ⟨q,0,none⟩=some (.int .i64 (P:Nat))):=aa (ak HB2 HQC);clear q1 q2 q3 q4 q5
 refine hK.out _ _ (fun _=>S1) ?_;clear hK K;try simp only [aL,aN,aZ,aC]
 refine az (i:=20) (by kernel_rfl) rfl (fun K hK=> ?_);go_simp
 go_loud (refine(iF q (P:Nat) w2 sS).mono ?_);rintro e w3 ⟨rfl,rfl⟩
 refine hK.out _ _ (fun _=>S1) ?_;clear hK K;try simp only [aL,aN,aZ,aC]
 refine uF 22 (fun _=>S1) ?_;refine uF 25 (fun _=>S1) ?_;refine az (i:=26) (by kernel_rfl) rfl (fun K hK=> ?_);go_simp
 obtain⟨w3,hw3⟩:∃W,W=w2.alloc (.cells #[.slice J jn jc,.int .i64 at_,.int .i64 ((P-at_:Nat):Int),.int .i64 en] 146):=⟨_,rfl⟩;rw [←hw3];have hb3:Below w2.heap.size w2 w3:=(by rw [hw3];exact(Below.refl _ _).alloc (Nat.le_refl _) _);have HB3:Hid (Below w.heap.size w w3):=aa (HB2.out.trans (hb3.mono HB2.size));have Y1:=aa (HJ.below hb3);have Dt:Hid (Rd w3 (From w2.heap.size) 4 (some ⟨w2.heap.size,0,none⟩) 1 [.slice J jn jc,.int .i64 at_,.int .i64 ((P-at_:Nat):Int),.int .i64 en]):=aa (by rw [hw3];exact⟨rfl,fun _=>⟨_,0,rfl,Nat.le_refl _,fun k u hk=>by rw [(ai.new w2 _ _).cell];simpa using hk⟩⟩);have Nq:=aa (HM.below HB3);have S3:w3.cell? ⟨z,3,none⟩=some (.slice A n cc)∧w3.cell? ⟨z,0,none⟩=some (.pointer (some ⟨q,0,none⟩))∧w3.cell? ⟨eb,eo+j*2,none⟩=some (.slice Y kn kc):=⟨ak hb3 S1.1,ak hb3 S1.2.1,ak hb3 S1.2.2⟩;clear hw3 hb3;refine hK.out _ _ (fun _=>S3) ?_;clear hK K;try simp only [aL,aN,aZ,aC]
 refine az (i:=27) (by kernel_rfl) rfl (fun K hK=> ?_);refine aV _ rfl (.tmp 178) (.tmp 200) _ rfl base 146 i0 _ 4 48 underlying143 hi0 jO jP jQ rfl (by omega) (.slice A n cc) n us rfl Nq.own (From w2.heap.size) (some ⟨w2.heap.size,0,none⟩) 1 1 _ rfl Dt (by intro u hu;simp at hu;rcases hu with rfl|rfl|rfl|rfl<;>rfl) (by simp only [maxLen];omega) (by omega) (Nat.le_trans hbw HB3.size) ?_;intro x w4 eu hg4 jd;obtain⟨K4,P5,hv4,_,_⟩:=ay eu;subst hv4;have lI:=aa eu;have F4:=aa hg4;have F5:=aa jd;have Jp:w4.cell? ⟨z,3,none⟩=some (.slice A n cc):=(ag.of_grown hg4).cell HZO S3.1;have dN:Hid (ai w4 z 150 #[.pointer (some ⟨q,0,none⟩),v1,v2,.slice A n cc,v4,v5]):=aa ((HB.below HB3).chg (ag.of_grown hg4) HZO);have Uv:∀o,w4.frozen? ⟨z,o,none⟩=false:=dN.out.frozen;have S4:w4.cell? ⟨z,3,none⟩=some (.slice A n cc)∧w4.cell? ⟨z,0,none⟩=some (.pointer (some ⟨q,0,none⟩))∧w4.cell? ⟨eb,eo+j*2,none⟩=some (.slice Y kn kc):=⟨Jp,(ag.of_grown hg4).cell HZO S3.2.1,(ag.of_grown hg4).cell UQ.2 S3.2.2⟩;clear eu hg4 jd;refine hK.out _ _ (fun _=>S4) ?_;clear hK K;try simp only [aL,aN,aZ,aC]
 refine uF 28 (fun _=>S4) ?_;refine uF 29 (fun _=>S4) ?_;refine az (i:=30) (by kernel_rfl) rfl (fun K hK=> ?_);go_simp
 refine hK.out _ _ (fun h=>absurd h (by decide)) ?_;clear hK K;try simp only [aL,aN,aZ,aC]
 refine bL (by kernel_rfl) ?_ _
 have hrm:bG w4 base (fun b=>D b∨(w.heap.size≤b∧b<w4.heap.size)) (.slice K4 (n+1) P5) (n+1) (l++ [⟨aD es,at_,P-at_,es.length⟩]) _:=Nq.out.snoc (x:=⟨aD es,at_,P-at_,es.length⟩) (u:= .slice J jn jc) F4 (by have h9:=lI.out;rw [←wH.out];exact h9) F5 (fun b hb=> .inl hb) (fun b hb=>hb.elim (HM.lo b) (fun h=>Nat.le_trans hbw h.1)) (fun h=> .inr ⟨HB3.size,h⟩) (by rw [U2.out];exact Y1.lt.weak (fun b hb=>by
   have h1:w.heap.size≤b:=hb.1;exact⟨.inr ⟨h1,Nat.lt_of_lt_of_le hb.2 (ag.of_grown F4).size⟩,hb.2,fun e=>by have h2:=(ah HM.own b e).2;omega⟩))
 have hcs:=(ag.refl (fun b=>b=z) w4).setCell (p:=⟨z,3,none⟩) (fun _=>rfl) (.slice K4 (n+1) P5)
 refine dF _ _ _ _ _ _ _ _ _ _ _ _ _ _ _ _ _ _ _ _ _ _ _ _ _ _ _ _ _ _ K4 P5 _ _ ((hrm.chg (S:=fun b=>b=z) hcs (fun b hb _ e=>by have e:b=z:=e;omega)).wider (fun b hb=>hb.imp id (fun h=>⟨h.1,Nat.lt_of_lt_of_le h.2 hcs.size⟩)) (fun b hb=>hb.elim (HM.lo b) (fun h=>Nat.le_trans hbw h.1))) (dN.set_ 3 _) ?_ (fun g hg=>by
  rcases F5.out with h|h
  ·exact .inl (h▸hg)
  ·rw [h] at hg;injection hg with hg;have h2:=HB3.out.size;exact .inr (by omega))
 exact((ag.of_below HB3).trans (T:=fun b=>(Value.slice A n cc).ownBlock=some b) (ag.of_grown F4) (fun b _ e=> .inr e)).setCell (p:=⟨z,3,none⟩) (fun _=> .inl rfl) _
end
section
open Go.RowKit
open Go.Lib (compareBytes)
theorem nQ {prev b:List UInt8} {p:Nat} (hp:p≤b.length):(pread prev b p).next≤b.length:=by
 have h1:=(fV b p hp).2;have h2:=(fV b _ h1).2;have h3:=(fV b _ h2).2
 by_cases h0:(pread prev b p).err=0
 ·exact(lY hp h0).next
 ·unfold pread at h0⊢
  split
  ·exact h1
  ·rename_i k1;rw [if_neg k1] at h0
   split
   ·exact h2
   ·rename_i k2;rw [if_neg k2] at h0
    split
    ·exact h3
    ·rename_i k3;rw [if_neg k3] at h0;unfold cZ at h0⊢;repeat' split
     all_goals first
      |exact hp
      |exact Nat.le_refl _
      |(rename_i a1 a2 a3 a4 a5;exact absurd (by rw [if_neg a1,if_neg a2,if_neg a3,if_neg a4,if_neg a5]) h0)
theorem mr (b:List UInt8):∀(m:Nat) (l:List aH) (ats:List Nat) (p:Nat),p≤b.length→(bM b m l ats p).place≤b.length
 |0,l,ats,p,hp=>Nat.zero_le _
 |m+1,l,ats,p,hp=>by
  unfold bM
  split
  ·exact nQ hp
  ·rename_i h1
   split
   ·exact hp
   ·exact mr b m _ _ _ (nQ hp)
theorem FP:∀(l:List Nat),(l.flatMap two).length=2*l.length
 | []=>rfl
 |a::l=>by rw [List.flatMap_cons,List.length_append,FP l,List.length_cons];simp [two];omega
theorem vY (b:List UInt8):(aB b).2.2≤b.length+128:=by
 have hv:=(fV b 0 (Nat.zero_le _)).2;unfold aB
 split
 ·exact Nat.le_trans hv (Nat.le_add_right _ _)
 ·split
  ·exact Nat.zero_le _
  ·rename_i h2;have hk:=vX b (aj b 0).1 [] [] (aj b 0).2.1 hv lX rfl
   split
   ·exact Nat.le_trans (mr b _ _ _ _ hv) (Nat.le_add_right _ _)
   ·rename_i h3
    split
    ·rename_i h4;have h5:=hk.le
     have h6:((eighth (bM b (aj b 0).1 [] [] (aj b 0).2.1).ats).flatMap two).length≤128:=by
      have h7:=kJ (bM b (aj b 0).1 [] [] (aj b 0).2.1).ats _ (Nat.le_refl _);have h8:=hk.ats;have h9:=hk.most;rw [FP];simp only [List.length_nil] at h9;omega
     show(bM b (aj b 0).1 [] [] (aj b 0).2.1).at_+stand b _ _≤_;have h10:=uy b ((eighth (bM b (aj b 0).1 [] [] (aj b 0).2.1).ats).flatMap two) (bM b (aj b 0).1 [] [] (aj b 0).2.1).at_
     omega
    ·split
     ·rename_i h5;show(bM b (aj b 0).1 [] [] (aj b 0).2.1).at_+_≤_
      omega
     ·exact Nat.zero_le _
end
end Go.Proofs.YtbjgeidjmhialaaGreatDoor
