/- Part 26. -/
import Derived.Test.YtepgcjbhabnciaaGreatLe25
namespace Go.Proofs.YtepgcjbhabnciaaGreat
set_option maxRecDepth 100000
set_option maxHeartbeats 8000000
open Go.RowKit Go.Proofs.Tryz
open Go.Lib (compareBytes)
variable {v u kv vv v2 u0 u1 u2 u3 u4 u5 u6 u7 u8 u9 M I bX N U u16 O C u20 u21 u22 u23 u24 u28 u29 u30 u31 u32 u33 u34 u35 u36 u37 u38 dK u40 X u42 dN u44 u45 u46 ed u48 u49 u51 eO u53 u55 a t u58 u59 u60 gY u63 u64 J u66 R u68 u69 u70 H u72 u73 jJ u75 E mG mH mI mJ mV mW mX Z e rM T:Value} {p q B base n j i z s m:Nat} {us nR iQ K vs:List Value} {w w' w2:World} {D F Dr:Nat->Prop} {l:List aK}
theorem oW {prev b:List UInt8} (c:p<=b.length):(pread prev b p).next<=b.length:=by
 have d:=(fe b p c).2;have e:=(fe b _ d).2;have k:=(fe b _ e).2
 by_cases a:(pread prev b p).err=0
 ·exact(jq c a).next
 ·unfold pread at a|-
  split
  ·exact d
  ·rename_i k1;rw [if_neg k1] at a
   split
   ·exact e
   ·rename_i k2;rw [if_neg k2] at a
    split
    ·exact k
    ·rename_i l;rw [if_neg l] at a;unfold bI at a|-;repeat' split
     all_goals first
      |exact c
      |exact Nat.le_refl _
      |(rename_i f g h i j;exact absurd (by rw [if_neg f,if_neg g,if_neg h,if_neg i,if_neg j]) a)
theorem nP (b:List UInt8):∀(m:Nat) (l:List aK) (ats:List Nat) (p:Nat),p<=b.length->(bq b m l ats p).place<=b.length
 |0,l,ats,p,a=>Nat.zero_le _
 |m+1,l,ats,p,a=>by
  unfold bq
  split
  ·exact oW a
  ·rename_i c
   split
   ·exact a
   ·exact nP b m _ _ _ (oW a)
theorem IX:∀(l:List Nat),(l.flatMap two).length=2*l.length
 | []=>rfl
 |a::l=>by rw [List.flatMap_cons,List.length_append,IX l,List.length_cons];simp [two];omega
theorem nO (b:List UInt8):(aB b).2.2<=b.length+128:=by
 have hv:=(fe b 0 (Nat.zero_le _)).2;unfold aB
 split
 ·exact Nat.le_trans hv (Nat.le_add_right _ _)
 ·split
  ·exact Nat.zero_le _
  ·rename_i f;have a:=ry b (ai b 0).1 [] [] (ai b 0).2.1 hv fH rfl
   split
   ·exact Nat.le_trans (nP b _ _ _ _ hv) (Nat.le_add_right _ _)
   ·rename_i g
    split
    ·rename_i h;have d:=a.le
     have i:((eighth (bq b (ai b 0).1 [] [] (ai b 0).2.1).ats).flatMap two).length<=128:=by
      have j:=lS (bq b (ai b 0).1 [] [] (ai b 0).2.1).ats _ (Nat.le_refl _);have k:=a.ats;have e:=a.most;rw [IX];simp only [List.length_nil] at e;omega
     show(bq b (ai b 0).1 [] [] (ai b 0).2.1).at_+stand b _ _<=_;have c:=qa b ((eighth (bq b (ai b 0).1 [] [] (ai b 0).2.1).ats).flatMap two) (bq b (ai b 0).1 [] [] (ai b 0).2.1).at_
     omega
    ·split
     ·rename_i d;show(bq b (ai b 0).1 [] [] (ai b 0).2.1).at_+_<=_
      omega
     ·exact Nat.zero_le _
theorem wX {l:List Row} (h:gD l):∀(i:Nat) (x:Row),l[i]? =some x->x.at_<=bV l:=by
 have key:∀k i (x:Row),i<k->k<=l.length->l[i]? =some x->x.at_<=bV (l.take k):=by
  intro k
  induction k with
  |zero=>intro i x hi;omega
  |succ k e=>
   intro i x hi g b;obtain⟨y,a⟩:∃y,l[k]? =some y:=⟨_,List.getElem?_eq_getElem (by omega)⟩;rw [rz a]
   by_cases c:i=k
   ·subst c;rw [b] at a;injection a with a
    subst a
    omega
   ·have d:=e i x (by omega) (by omega) b;have f:=h.place k y a;omega
 intro i x b;have d:=key l.length i x ((List.getElem?_eq_some_iff.mp b).1) (Nat.le_refl _) b;rwa [List.take_length] at d
def Fs (z q p B:Nat) (v:Value):Nat->Prop:=fun b=>b=z\/b=q\/b=p\/v.ownBlock=some b\/B<=b
structure nG (F:Nat->Prop) (z q p base:Nat) (Dr:Nat->Prop) (v1 v2:Value) (A:Option Addr) (n cc:Nat) (us:List Value) (o:Option (List aK)) (r:bg) (w:World) (e:Ending) (w':World):Prop where
 chg:ag (Fs z q p w.heap.size (.slice A n cc)) w w'
 no:o=none->e= .returned (.tuple #[.slice none 0 0,.bool false])/\aX w' base Dr (.slice A n cc) n r.rows us/\
  aj w' z 140 #[.pointer (some ⟨q,0,none⟩),.func (.func 135) #[.pointer (some ⟨z,0,none⟩)] #[],v2,.slice A n cc,.int .i64 r.err,.int .i64 (r.bad:Nat)]/\fo w' F p r.cur.src
 yes:∀es,o=some es->∃eA en ec A' n' iW kF hv,e= .returned (.tuple #[.slice eA en ec,.bool true])/\en<=ec/\ec<=maxLen/\bz w' (fun b=>w.heap.size<=b/\(Value.slice A' n' iW).ownBlock≠some b) eA en es/\
  aX w' base (fun b=>Dr b\/(w.heap.size<=b/\b<w'.heap.size)) (.slice A' n' iW) n' r.rows kF/\lW w' F q p r.cur hv/\
  aj w' z 140 #[.pointer (some ⟨q,0,none⟩),v1,v2,.slice A' n' iW,.int .i64 r.err,.int .i64 (r.bad:Nat)]/\(∀g,(Value.slice A' n' iW).ownBlock=some g->(Value.slice A n cc).ownBlock=some g\/w.heap.size<=g)
theorem zI (h:ag (Cs q p B) w w'):ag (Fs z q p B v) w w':=h.mono (fun b _ a=>by
 rcases a with a|a|a
 ·exact .inr (.inl a)
 ·exact .inr (.inr (.inl a))
 ·exact .inr (.inr (.inr (.inr a))))
theorem aX.cs {l:List Row} (h:aX w base Dr v n l us) (a:Sit F q p base) (g:w.heap.size<=B) (c:ag (Cs q p B) w w'):aX w' base Dr v n l us:=
 h.chg c (fun b i hl e=>by
  have d:=a.pB;have f:=a.qB
  rcases e with e|e|e
  ·omega
  ·omega
  ·omega)
theorem IV {A:Option Addr} (h:bz w (From base) A n l):bz w (fun b=>base<=b/\b<w.heap.size) A n l:=by
 obtain⟨f,vs,g,j⟩:=h;refine⟨f,vs,g.lt (by omega),fun i e k=> ?_⟩;obtain⟨u,v,a,b,c,d⟩:=j i e k;exact⟨u,v,a,b,c.lt,d.lt⟩
theorem Hf (r:bg) (c:ay) (a:Nat):(r.footR c a).rows=r.rows:=by
 unfold bg.footR;repeat' split
 all_goals rfl
theorem rR (F Dr:Nat->Prop) (z q p base hv K:Nat) (Y v2:Value) (A:Option Addr) (n cc:Nat) (us:List Value) (r:bg) (w:World) (s:Sit F q p base) (zs:Zs z q p base) (v:¬F z) (G:base<=w.heap.size)
  (c:aj w z 140 #[.pointer (some ⟨q,0,none⟩),Y,v2,.slice A n cc,.int .i64 r.err,.int .i64 (r.bad:Nat)]) (hm:aX w base Dr (.slice A n cc) n r.rows us)
  (h:lW w F q p r.cur hv) (u:r.Ok K) (cq:r.st=1) (hK:K<=1152921504606846976):
  Calls prog 92 #[.pointer (some ⟨z,0,none⟩)] w (nG F z q p base Dr Y v2 A n cc us r.frame.1 r.frame.2 w):=by
 refine letter fun R HR=> ?_;have X:=aa s;have U:=aa zs;have HB:=aa c;have HM:=aa hm;have HI:=aa h;have Z:=aa G;have xU:=aa v;have ac:=u.cur (by omega);have bN:=u.held (by omega);have cv:w.cell? ⟨z,0,none⟩=some (.pointer (some ⟨q,0,none⟩)):=c.cell 0;have bx:w.cell? ⟨q,0,none⟩=some (.int .i64 (r.cur.at_:Nat)):=h.blk.cell 0;have cd:=aa (iJ q (r.cur.at_:Nat) w bx);have pE:=aa (Dm F q p hv K r.cur w (s.up G) h ac hK);obtain⟨L,hL⟩:∃L,L=r.cur.bytes 1:=⟨_,rfl⟩;obtain⟨kd,a3⟩:∃k,k=L.1.headD 0:=⟨_,rfl⟩;have E:Hid (r.frame=if L.2.1≠0 then(none,r.fail L.2.2 L.2.1 r.cur.at_) else if kd=70 then(none,r.footR L.2.2 r.cur.at_) else if kd≠66 then(none,r.fail L.2.2 82 r.cur.at_) else r.block L.2.2 r.cur.at_):=aa (by subst a3;subst hL;rfl);have xG:=aa hL;have Yl:=aa a3;have wV:=aa u;have ug:Hid (L.2.2.Ok K/\L.2.2.held=none/\(L.2.1=0->L.2.2.at_=r.cur.at_+1)):=aa ⟨by rw [hL];exact ay.bytes_ok ac 1,by rw [hL];exact ay.bytes_held ac 1 bN,by rw [hL];exact ay.bytes_step ac 1⟩;have a9:Hid (r.cur.at_<=1152921504606/\r.cur.at_=bV r.rows):=aa ⟨by have:=ac.sum;omega,u.one cq⟩
 have d:Hid (∀(cu:ay) (e:Int) (a:Nat) (wk:World) (en:Ending) (w':World),fo wk F p cu.src->r.frame=(none,r.fail cu e a)->ag (Cs q p w.heap.size) w wk->I4 z (.pointer (some ⟨q,0,none⟩)) v2 (.slice A n cc) e a wk en w'->nG F z q p base Dr Y v2 A n cc us r.frame.1 r.frame.2 w en w'):=aa (fun cu e a wk en w' cp hx hc hf=>by
  rw [hx];refine⟨(zI hc).trans hf.2.2 (fun b _ e=> .inl e),fun _=>⟨hf.1,?_,hf.2.1,cp.own hf.2.2 zs.zp v⟩,fun es h=>by cases h⟩;exact(hm.cs s (Nat.le_refl _) hc).chg hf.2.2 (fun b c _ e=>by have e:b=z:=e;have:=zs.lt;omega))
 clear s zs c hm h ac bN hL a3 u G;go_enter func92,ntmps92
 go_upto_region 2 with(go_at_call 136;go_loud (refine cd.mono ?_);rintro e w2 ⟨rfl,rfl⟩)
 go_upto_region 3 with(go_at_call 137;go_loud (refine pE.mono ?_);rintro e w2 ⟨bZ,rfl,hI,hC⟩;rw [<-xG.out] at hI|-;rw [<-Yl.out];have ab:=aa hI;have bB:=aa hC;clear hI hC)
 have aA:w.heap.size<=w2.heap.size:=bB.out.size;have V:=aa (HB.chg bB (U.up Z).no);have qj:=aa (HM.cs X (Nat.le_refl _) bB);obtain⟨e1,bX⟩:∃e,e=L.2.1:=⟨_,rfl⟩;rw [<-bX] at E ug|-;clear bX cv bx
 by_cases h1:e1=0
 ·subst h1
  have cl:n<=cc:=by
   obtain⟨_,_,hv,H,_⟩:=au HM.own;injection hv with _ C ar
   omega
  have a5:n=r.rows.length:=HM.out.len;have yX:=aa a5;have X5:n<=8388608:=by rw [a5];exact wV.rows.many
  clear a5
  by_cases LJ:kd=70
  ·have P6:=aa (Lb F (fun b=>base<=b/\b<w2.heap.size) z q p bZ K r.cur.at_ Y v2 A n cc r L.2.2 w2 (X.up (Nat.le_trans Z aA)) (U.up (Nat.le_trans Z aA)) xU V qj.sps (fun b c=>c.2) cl wV.rows
    (fun x hx=>by
     obtain⟨i,hi,ct⟩:=List.mem_iff_getElem.mp hx;have C:=wX wV.rows i x (by rw [List.getElem?_eq_getElem hi,ct]);have ar:=a9.out;omega) ab ug.1 ug.2.1 hK (by have ar:=a9.out;omega))
   have SF:=aa LJ;subst LJ;go_wp2_with (go_at_call 138;go_loud (refine P6.mono ?_);rintro e w3 ⟨bh,rfl,bj,bk⟩;have cb:=aa bh;have Z8:=aa bj;have a8:=aa bk;clear bh bj bk)
   rw [HR.out,E.out,if_neg (by simp),if_pos SF.out]
   refine⟨(zI bB).trans a8 (fun b c e=>by
    rcases e with e|e|e|e
    ·exact .inl e
    ·exact .inr (.inl e)
    ·exact .inr (.inr (.inl e))
    ·exact .inr (.inr (.inr (.inr (Nat.le_trans bB.size e))))),fun _=>⟨rfl,?_,Z8,cb⟩,fun es h=>by cases h⟩
   show aX w3 base Dr _ n (r.footR L.2.2 r.cur.at_).rows us;rw [Hf]
   exact qj.chg a8 (fun b c hl e=>by
    have h3:=X.out.pB;have h4:=X.out.qB;have h5:=U.out.lt
    rcases e with e|e|e|e
    ·omega
    ·omega
    ·omega
    ·omega)
  ·have SI:¬((kd.toNat:Int)=70):=fun e=>LJ (UInt8.toNat_inj.mp (by rw [show(70:UInt8).toNat=70 from rfl];omega));have cx:((kd.toNat:Int)==70)=false:=by rw [beq_eq_false_iff_ne];exact SI
   have SF:=aa LJ
   by_cases SK:kd=66
   ·have WQ:=aa SK;subst SK;obtain⟨N,hN⟩:∃N,N=L.2.2.number:=⟨_,rfl⟩;obtain⟨D,hD⟩:∃D,D=N.2.2.body N.1:=⟨_,rfl⟩;obtain⟨B,hB⟩:∃B,B=aB D.body:=⟨_,rfl⟩
    have Jw:Hid (r.frame=if n=8388608 then(none,r.fail L.2.2 71 r.cur.at_) else if N.2.1≠0 then(none,r.fail N.2.2 N.2.1 L.2.2.at_) else if N.1<1\/65535<N.1 then(none,r.fail N.2.2 83 L.2.2.at_) else if D.err≠0 then(none,r.fail D.cur D.err D.place)
     else if B.2.1≠0 then(none,r.fail D.cur B.2.1 (N.2.2.at_+B.2.2)) else if 0<n/\0<=compareBytes (r.rows.getLast?.getD ⟨[],0,0,0⟩).last ((B.1.headD ([],[])).1) then(none,r.fail D.cur 51 N.2.2.at_)
     else(some B.1,{r with cur:=D.cur,rows:=r.rows++ [⟨az B.1,r.cur.at_,D.cur.at_-r.cur.at_,B.1.length⟩]})):=aa (by
     rw [E.out,if_neg (by simp),if_neg SF.out,if_neg (fun h=>h WQ.out),yX.out];subst hB;subst hD;subst hN;rfl)
    clear E;have E:Hid (r.frame=_):=Jw;clear Jw;have OW:=ay.number_ok ug.1;have OX:=ay.number_step ug.1 ug.2.1;rw [<-hN] at OW OX;have mM:=aa OW;have BO:=aa OX;have OY:=aa hN;have Yo:=aa hD;have oG:=aa hB;have cw:w2.cell? ⟨z,0,none⟩=some (.pointer (some ⟨q,0,none⟩)):=V.out.cell 0;have aE:w2.cell? ⟨z,3,none⟩=some (.slice A n cc):=V.out.cell 3;have bE:w2.cell? ⟨q,0,none⟩=some (.int .i64 (L.2.2.at_:Nat)):=ab.out.blk.cell 0;have cf:=aa (iJ q (L.2.2.at_:Nat) w2 bE);have ck:=aa (vI F q p bZ K L.2.2 w2 (X.up (Nat.le_trans Z aA)) ab ug.1 hK);clear OW OX hN hD hB
    by_cases Pz:n=8388608
    ·have ui:=aa Pz;have WR:((n:Int)==8388608)=true:=by rw [Pz];rfl
     go_wp2_with (go_at_call 91;go_loud (refine(bF z _ Y v2 _ _ _ 71 (r.cur.at_:Nat) w2 V).mono ?_);rintro e9 T ⟨rfl,f,l⟩;have J:=aa f;have O:=aa l;clear f l)
     rw [HR.out]
     exact d L.2.2 71 (r.cur.at_:Nat) w2 _ T ab.src (by rw [E.out,if_pos ui.out]) bB ⟨rfl,J,O⟩
    ·have ui:=aa Pz;have WR:((n:Int)==8388608)=false:=by rw [beq_eq_false_iff_ne];omega
     have cy:¬((n:Int)=8388608):=by omega
     go_upto_region 12 with(go_at_call 136;go_loud (refine cf.mono ?_);rintro e w3 ⟨rfl,rfl⟩)
     go_upto_region 13 with(go_at_call 139;go_loud (refine ck.mono ?_);rintro e w3 ⟨cr,rfl,hI,hC⟩;rw [<-OY.out] at hI|-;have al:=aa hI;have eH:=aa (jh bB hC);have wZ:=aa hC;clear hI hC)
     have a6:w.heap.size<=w3.heap.size:=eH.out.size;have ae:=aa (V.chg wZ (U.up (Nat.le_trans Z aA)).no);have D7:=aa (qj.cs X (Nat.le_refl _) wZ);obtain⟨e2,a2⟩:∃e,e=N.2.1:=⟨_,rfl⟩;obtain⟨I,a4⟩:∃e,e=N.1:=⟨_,rfl⟩;rw [<-a2,<-a4] at E|-;rw [<-a2] at mM BO;rw [<-a4] at Yo;clear a2 a4 cw aE bE
     by_cases h2:e2=0
     ·subst h2
      by_cases O0:I<1\/65535<I
      ·have Bu:=aa O0
       by_cases cD:I<1
       ·have O1:decide ((I:Int)<1)=true:=decide_eq_true (by omega);have O3:(I:Int)<1:=by omega
        clear O0;go_wp2_with (go_at_call 91;go_loud (refine(bF z _ Y v2 _ _ _ 83 (L.2.2.at_:Nat) w3 ae).mono ?_);rintro e9 T ⟨rfl,f,l⟩;have J:=aa f;have O:=aa l;clear f l)
        rw [HR.out]
        exact d N.2.2 83 (L.2.2.at_:Nat) w3 _ T al.src (by rw [E.out,if_neg ui.out,if_neg (by simp),if_pos Bu.out]) eH ⟨rfl,J,O⟩
       ·have O1:¬((I:Int)<1):=by omega
        have O3:(65535:Int)<(I:Int):=by omega
        clear O0;go_wp2_with (go_at_call 91;go_loud (refine(bF z _ Y v2 _ _ _ 83 (L.2.2.at_:Nat) w3 ae).mono ?_);rintro e9 T ⟨rfl,f,l⟩;have J:=aa f;have O:=aa l;clear f l)
        rw [HR.out]
        exact d N.2.2 83 (L.2.2.at_:Nat) w3 _ T al.src (by rw [E.out,if_neg ui.out,if_neg (by simp),if_pos Bu.out]) eH ⟨rfl,J,O⟩
      ·have Bu:=aa O0;have O1:¬((I:Int)<1):=by omega
       have O3:¬((65535:Int)<(I:Int)):=by omega
       have cN:1<=I:=by omega
       have cP:I<=65535:=by omega
       have cS:IntKind.i64.wrap (I:Int)=(I:Int):=IntWalk.i64_in _ (by omega);have aE:w3.cell? ⟨z,0,none⟩=some (.pointer (some ⟨q,0,none⟩)):=ae.out.cell 0;have bM:w3.cell? ⟨q,0,none⟩=some (.int .i64 (N.2.2.at_:Nat)):=al.out.blk.cell 0;have Yr:=aa (iJ q (N.2.2.at_:Nat) w3 bM);have CW:=aa (zH F z q p cr I K N.2.2 w3 (X.up (Nat.le_trans Z a6)) aE (U.up (Nat.le_trans Z a6)).lt U.zq U.zp al mM.1 BO.1 hK (by omega) (by omega));have Xh:=ay.body_ok mM.1 BO.1 I (by omega);rw [<-Yo.out] at Xh;have PD:=aa Xh;clear Xh O0;go_upto_region 18 with(go_at_call 136;go_loud (refine Yr.mono ?_);rintro e w4 ⟨rfl,rfl⟩)
       go_upto_region 19 with(go_at_call 140;go_loud (refine CW.mono ?_);rintro e w4 ⟨vD,a7,rfl,hO,hI,hC⟩;rw [<-Yo.out] at hO hI|-;have iV:=aa hO;have bb:=aa hI;have fV:=aa (jh eH hC);have sK:=aa hC;clear hO hI hC)
       have cR:w.heap.size<=w4.heap.size:=fV.out.size;have dR:=aa (ae.chg sK (U.up (Nat.le_trans Z a6)).no);have mO:=aa (D7.cs X (Nat.le_refl _) sK);obtain⟨eD,Xi⟩:∃e,e=D.err:=⟨_,rfl⟩;rw [<-Xi] at E iV|-;have Je:=aa Xi;clear Xi aE bM
       by_cases h3:eD=0
       ·subst h3;obtain⟨dA,dn,dc,rfl,bO,_,ax,bQ⟩:=(iV.out rfl).sb;have bP:dn=I:=by rw [ax];exact PD.len Je.out.symm
        have KL:Hid (D.body.length=I):=aa (by rw [<-bP];exact ax.symm);have uf:=aa (Ji (fun b=>b<w4.heap.size) dA dn dc D.body w4 ((bQ.lt (by omega)).weak (fun b c=>c.2)) ax bO (by omega) (fun _ h=>h));have sU:=aa (nO D.body);rw [<-oG.out] at sU;have co:B.2.2<=I+128:=by have H:=sU.out;rw [KL.out] at H;exact H
        have Vk:N.2.2.at_<=1152921504606:=by have C:=mM.out.1.sum;omega
        have be:Hid (B.2.1=0->bH B.1/\1<=B.1.length/\B.1.length<=64):=aa (by rw [oG.out];exact xg);have xF:Hid (B.2.1≠0->True):=aa (fun _=>trivial);clear ax bQ bO bP;go_upto_region 22 with(go_at_call 141;go_loud (refine uf.mono ?_);rintro e m ⟨eA,en,ec,rfl,bm,bo,WS,bp⟩;rw [<-oG.out] at WS|-;have xA:=aa bm;have ba:=aa bo;have Fa:=aa WS;have pN:=aa bp;clear bm bo WS bp)
        have eG:=aa (dR.below pN);have vK:=aa (mO.below pN);have dF:=aa (nM fV pN);have xV:Hid (lW m F q p D.cur a7):=aa (bb.chg (S:=Nil) (ag.of_below pN) (fun h=>h) (fun h=>h) (fun _ _ h=>h));obtain⟨eB,WT⟩:∃e,e=B.2.1:=⟨_,rfl⟩;obtain⟨pB,WU⟩:∃e,e=B.2.2:=⟨_,rfl⟩;rw [<-WT,<-WU] at E|-;rw [<-WT] at be;rw [<-WU] at co;clear WT WU
        by_cases h4:eB=0
        ·subst h4;obtain⟨Nf,WV,KV⟩:=be.out rfl;obtain⟨eb,eo,K1,F8,b1,V1,cU,cT,key,val,vC,_,ad,W,_,_,_,bY,O4,_⟩:=Fa.out.at_ (k:=0) (by rw [Fa.out.len];omega);subst vC;have Lu:=aa Nf;have O5:0<en:=by rw [Fa.out.len];omega
         have za:en<=64:=by rw [Fa.out.len];omega
         have ci:Hid ((B.1.headD ([],[])).1=key):=aa (by
          cases hb1:B.1 with
          |nil=>rw [hb1] at ad;simp at ad
          |cons y t=>rw [hb1] at ad;simp at ad;rw [ad];rfl)
         rw [ci.out] at E;have xB:Hid (F8=key.length):=bY;have WW:=aa O4;have cA:(0:Int)<(en:Int):=by omega
         simp only [Nat.zero_mul,Nat.add_zero] at W;clear Nf WV KV ad bY O4;have Pq:Hid (bz m (fun b=>w4.heap.size<=b/\b<m.heap.size) (some ⟨eb,eo,none⟩) en B.1):=aa (IV Fa)
         have SL:Hid (r.cur.at_<=D.cur.at_/\D.cur.at_<=1152921504606846976):=aa ⟨by
          have h7:=PD.out.at_ Je.out.symm;have H:=ug.out.2.2 (by trivial);have C:=BO.out.2 (by trivial);omega,by have C:=PD.out.ok.sum;omega⟩
         have Py:m.cell? ⟨z,3,none⟩=some (.slice A n cc):=eG.out.cell 3
         by_cases n0:n=0
         ·have hd:decide (0<n)=false:=decide_eq_false (by omega);have aw:decide ((0:Int)<(n:Int))=false:=decide_eq_false (by omega);have xh:Hid (¬(0<n/\0<=compareBytes (r.rows.getLast?.getD ⟨[],0,0,0⟩).last key)):=aa (fun h=>by omega);clear n0;go_upto_region 24 with fail
          go_quiet (fail);have kG:Hid (ag Nil m (m.drewN nq)):=aa ((ag.refl Nil m).drewN nq);clear hd aw Py W;go_upto_region 26 with fail
          refine El (fun b=>w4.heap.size<=b/\b<m.heap.size) Dr base z q r.cur.at_ D.cur.at_ eb eo en ec A n cc r.rows us B.1 Y v2 _ _ (m.drewN nq) _ (aa (fun _ _ _ _ h=>h)) (aa (eG.drewN nq)) (aa (vK.chg kG (fun _ _ _ h=>h))) (aa (Pq.chg kG (fun _ _ h=>h))) (aa ((xV.blk.drewN nq).cell 0)) O5 za (fun e he=>(cK Lu he).2.1) SL.1 SL.2 X5 (by have H:=Z.out;have C:=dF.out.size;show base<=(m.drewN nq).heap.size;exact Nat.le_trans H C) U.lt (aa (fun b c=>⟨c.2,fun e=>by have H:=(ah mO.own b e).2;have C:=c.1;omega⟩)) ?_;intro Xj b2 Xk Xl Xm Xn Xo Xp b3 b4 Xq Xr Xt Xv Xw Xx Xy Xz XA b5 b6 XB b7 XC b8 XD XE b9 XF ca A' iW kF w6 am an ao ap;have Hg:Hid (∀P,(Value.slice A' (n+1) iW).ownBlock=some P->(Value.slice A n cc).ownBlock=some P\/m.heap.size<=P):=aa ap;have a0:=aa am;have a1:=aa an;have XG:=aa ao;clear am an ao ap;go_wp2;rw [HR.out,E.out,if_neg ui.out,if_neg (by simp),if_neg Bu.out,if_neg (by simp),if_neg (by simp),if_neg xh.out]
          refine⟨((zI dF).drewN nq).trans XG (fun b _ e=>by
           rcases e with e|e
           ·exact .inl e
           ·exact .inr (.inr (.inr (.inl e)))),fun h=>(by cases h),fun es h=> ?_⟩
          injection h with h
          subst h;have XH:w.heap.size<=w4.heap.size:=fV.out.size;have Q:∀P,(Value.slice A n cc).ownBlock=some P->P<w4.heap.size:=fun P hg=>(ah mO.own P hg).2
          refine⟨_,en,ec,A',n+1,iW,kF,a7,rfl,xA,ba,?_,a0.wider (fun b c=>c.imp id (fun h=>⟨Nat.le_trans dF.size h.1,h.2⟩)) (fun b c=>c.elim (HM.lo b) (fun h=>Nat.le_trans Z h.1)),?_,a1,fun g hg=>(Hg g hg).imp id (fun h=>Nat.le_trans dF.size h)⟩
          ·refine((Pq.chg kG (fun _ _ h=>h)).chg XG (fun b c e=> ?_)).weak (fun b c=>⟨Nat.le_trans XH c.1,fun e=> ?_⟩)
           ·rcases e with e|e
            ·have H:=U.out.lt;have C:=Z.out;have ar:=c.1;omega
            ·have H:=Q b e;have C:=c.1;omega
           ·rcases Hg.out b e with e|e
            ·have H:=Q b e;have C:=c.1;omega
            ·have C:=c.2;omega
          ·refine(xV.chg kG (fun h=>h) (fun h=>h) (fun _ _ h=>h)).chg XG (fun e=> ?_) (fun e=> ?_) (fun b c e=> ?_)
           ·rcases e with e|e
            ·exact U.zq e.symm
            ·have H:=(ah mO.own q e).1;have C:=X.out.qB;omega
           ·rcases e with e|e
            ·exact U.zp e.symm
            ·have H:=(ah mO.own p e).1;have C:=X.out.pB;omega
           ·rcases e with e|e
            ·exact xU (e▸c)
            ·have H:=(ah mO.own b e).1;have C:=X.out.lt b c;omega
         ·obtain⟨j,hj⟩:∃j,n=j+1:=⟨n-1,by omega⟩;obtain⟨g,o,M,mn,mc,y,vC,_,b0,d0,_,_,_,sy⟩:=vK.out.sps.at_ (k:=j) (by omega);have aq:r.rows.getLast?.getD ⟨[],0,0,0⟩=y:=by rw [List.getLast?_eq_getElem?,<-yX.out,show n-1=j by omega,b0];rfl
          rw [aq] at E;have zW:Hid (∀k,Calls prog 56 #[.slice M mn mc,.slice K1 F8 b1] (m.drewN k) fun e w'=>e= .returned (.int .i64 (compareBytes y.last key))/\m.drewN k=w'):=aa (fun k=>dE M K1 mn F8 mc b1 _ _ y.last key (m.drewN k) (sy.parts.2.2.2.drewN k) sy.parts.2.2.1 (WW.drewN k) xB);obtain⟨ce,W⟩:∃ce,ce=compareBytes y.last key:=⟨_,rfl⟩;rw [<-W] at zW E;have hd:decide (0<n)=true:=decide_eq_true (by omega);have aw:decide ((0:Int)<(n:Int))=true:=decide_eq_true (by omega);have cJ:IntKind.i64.wrap ((n:Int)-1)=(j:Int):=by rw [IntWalk.i64_in _ (by omega)];omega
          have cL:IntKind.i64.wrap (j:Int)=(j:Int):=IntWalk.i64_in _ (by omega);have cI:(0:Int)<=(j:Int):=by omega
          have cM:j<n:=by omega
          have xI:(j:Int)<(n:Int):=by omega
          have cj:Hid (0<n):=aa (by omega);subst vC;clear n0 hj b0 aq W sy;go_upto_region 24 with fail
          by_cases Bw:0<=ce
          ·have xh:Hid (0<n/\0<=ce):=aa ⟨cj,Bw⟩;have cn:decide (0<=ce)=true:=decide_eq_true Bw;go_quiet ((go_at_call 56;exact eU (zW _)));have cg:=aa (eG.drewN nq);have ch:=aa (dF.drewN nq);clear hd aw Py W d0;go_wp2_with (go_at_call 91;go_loud (refine(bF z _ Y v2 _ _ _ 51 (N.2.2.at_:Nat) (m.drewN nq) cg).mono ?_);rintro e9 T ⟨rfl,f,l⟩;have J:=aa f;have O:=aa l;clear f l)
           rw [HR.out]
           exact d D.cur 51 (N.2.2.at_:Nat) (m.drewN nq) _ T (xV.src.nil ((ag.refl Nil m).drewN nq)) (by rw [E.out,if_neg ui.out,if_neg (by simp),if_neg Bu.out,if_neg (by simp),if_neg (by simp),if_pos xh.out]) ch ⟨rfl,J,O⟩
          ·have xh:Hid (¬(0<n/\0<=ce)):=aa (fun h=>Bw h.2);have cn:decide (0<=ce)=false:=decide_eq_false Bw;go_quiet ((go_at_call 56;exact eU (zW _)));have kG:Hid (ag Nil m (m.drewN nq)):=aa ((ag.refl Nil m).drewN nq);clear hd aw Py W d0;go_upto_region 26 with fail
           refine El (fun b=>w4.heap.size<=b/\b<m.heap.size) Dr base z q r.cur.at_ D.cur.at_ eb eo en ec (some ⟨g,o,none⟩) n cc r.rows us B.1 Y v2 _ _ (m.drewN nq) _ (aa (fun _ _ _ _ h=>h)) (aa (eG.drewN nq)) (aa (vK.chg kG (fun _ _ _ h=>h))) (aa (Pq.chg kG (fun _ _ h=>h))) (aa ((xV.blk.drewN nq).cell 0)) O5 za (fun e he=>(cK Lu he).2.1) SL.1 SL.2 X5 (by have H:=Z.out;have C:=dF.out.size;show base<=(m.drewN nq).heap.size;exact Nat.le_trans H C) U.lt (aa (fun b c=>⟨c.2,fun e=>by have H:=(ah mO.own b e).2;have C:=c.1;omega⟩)) ?_;intro Xj b2 Xk Xl Xm Xn Xo Xp b3 b4 Xq Xr Xt Xv Xw Xx Xy Xz XA b5 b6 XB b7 XC b8 XD XE b9 XF ca A' iW kF w6 am an ao ap;have Hg:Hid (∀P,(Value.slice A' (n+1) iW).ownBlock=some P->(Value.slice (some ⟨g,o,none⟩) n cc).ownBlock=some P\/m.heap.size<=P):=aa ap;have a0:=aa am;have a1:=aa an;have XG:=aa ao;clear am an ao ap;go_wp2;rw [HR.out,E.out,if_neg ui.out,if_neg (by simp),if_neg Bu.out,if_neg (by simp),if_neg (by simp),if_neg xh.out]
           refine⟨((zI dF).drewN nq).trans XG (fun b _ e=>by
            rcases e with e|e
            ·exact .inl e
            ·exact .inr (.inr (.inr (.inl e)))),fun h=>(by cases h),fun es h=> ?_⟩
           injection h with h
           subst h;have XH:w.heap.size<=w4.heap.size:=fV.out.size;have Q:∀P,(Value.slice (some ⟨g,o,none⟩) n cc).ownBlock=some P->P<w4.heap.size:=fun P hg=>(ah mO.own P hg).2
           refine⟨_,en,ec,A',n+1,iW,kF,a7,rfl,xA,ba,?_,a0.wider (fun b c=>c.imp id (fun h=>⟨Nat.le_trans dF.size h.1,h.2⟩)) (fun b c=>c.elim (HM.lo b) (fun h=>Nat.le_trans Z h.1)),?_,a1,fun g hg=>(Hg g hg).imp id (fun h=>Nat.le_trans dF.size h)⟩
           ·refine((Pq.chg kG (fun _ _ h=>h)).chg XG (fun b c e=> ?_)).weak (fun b c=>⟨Nat.le_trans XH c.1,fun e=> ?_⟩)
            ·rcases e with e|e
             ·have H:=U.out.lt;have C:=Z.out;have ar:=c.1;omega
             ·have H:=Q b e;have C:=c.1;omega
            ·rcases Hg.out b e with e|e
             ·have H:=Q b e;have C:=c.1;omega
             ·have C:=c.2;omega
           ·refine(xV.chg kG (fun h=>h) (fun h=>h) (fun _ _ h=>h)).chg XG (fun e=> ?_) (fun e=> ?_) (fun b c e=> ?_)
            ·rcases e with e|e
             ·exact U.zq e.symm
             ·have H:=(ah mO.own q e).1;have C:=X.out.qB;omega
            ·rcases e with e|e
             ·exact U.zp e.symm
             ·have H:=(ah mO.own p e).1;have C:=X.out.pB;omega
            ·rcases e with e|e
             ·exact xU (e▸c)
             ·have H:=(ah mO.own b e).1;have C:=X.out.lt b c;omega
        ·have cH:(eB==0)=false:=by rw [beq_eq_false_iff_ne];exact h4
         have H4:=aa h4;have cQ:IntKind.i64.wrap ((N.2.2.at_:Int)+(pB:Int))=((N.2.2.at_+pB:Nat):Int):=by rw [IntWalk.i64_in _ (by omega)];omega
         go_wp2_with (go_at_call 91;go_loud (refine(bF z _ Y v2 _ _ _ eB ((N.2.2.at_+pB:Nat)) m eG).mono ?_);rintro e9 T ⟨rfl,f,l⟩;have J:=aa f;have O:=aa l;clear f l)
         rw [HR.out]
         exact d D.cur eB ((N.2.2.at_+pB:Nat)) m _ T xV.src (by rw [E.out,if_neg ui.out,if_neg (by simp),if_neg Bu.out,if_neg (by simp),if_pos H4.out]) dF ⟨rfl,J,O⟩
       ·have cG:(eD==0)=false:=by rw [beq_eq_false_iff_ne];exact h3
        have H3:=aa h3;go_wp2_with (go_at_call 91;go_loud (refine(bF z _ Y v2 _ _ _ eD (D.place:Nat) w4 dR).mono ?_);rintro e9 T ⟨rfl,f,l⟩;have J:=aa f;have O:=aa l;clear f l)
        rw [HR.out]
        exact d D.cur eD (D.place:Nat) w4 _ T bb.src (by rw [E.out,if_neg ui.out,if_neg (by simp),if_neg Bu.out,if_pos H3.out]) fV ⟨rfl,J,O⟩
     ·have cF:(e2==0)=false:=by rw [beq_eq_false_iff_ne];exact h2
      have H2:=aa h2;go_wp2_with (go_at_call 91;go_loud (refine(bF z _ Y v2 _ _ _ e2 (L.2.2.at_:Nat) w3 ae).mono ?_);rintro e9 T ⟨rfl,f,l⟩;have J:=aa f;have O:=aa l;clear f l)
      rw [HR.out]
      exact d N.2.2 e2 (L.2.2.at_:Nat) w3 _ T al.src (by rw [E.out,if_neg ui.out,if_pos H2.out]) eH ⟨rfl,J,O⟩
   ·have SQ:¬((kd.toNat:Int)=66):=fun e=>SK (UInt8.toNat_inj.mp (by rw [show(66:UInt8).toNat=66 from rfl];omega));have cC:((kd.toNat:Int)==66)=false:=by rw [beq_eq_false_iff_ne];exact SQ
    have WQ:=aa SK;go_wp2_with (go_at_call 91;go_loud (refine(bF z _ Y v2 _ _ _ 82 (r.cur.at_:Nat) w2 V).mono ?_);rintro e9 T ⟨rfl,f,l⟩;have J:=aa f;have O:=aa l;clear f l)
    rw [HR.out]
    exact d L.2.2 82 (r.cur.at_:Nat) w2 _ T ab.src (by rw [E.out,if_neg (by simp),if_neg SF.out,if_pos WQ.out]) bB ⟨rfl,J,O⟩
 ·have cE:(e1==0)=false:=by rw [beq_eq_false_iff_ne];exact h1
  have H1:=aa h1;go_wp2_with (go_at_call 91;go_loud (refine(bF z _ Y v2 _ _ _ e1 (r.cur.at_:Nat) w2 V).mono ?_);rintro e9 T ⟨rfl,f,l⟩;have J:=aa f;have O:=aa l;clear f l)
  rw [HR.out];exact d L.2.2 e1 (r.cur.at_:Nat) w2 _ T ab.src (by rw [E.out,if_pos H1.out]) bB ⟨rfl,J,O⟩
structure ik (w:World) (base:Nat) (nR:List Value) (j i:Nat) (kv vv:Value) (iQ uj:List Value):Prop where
 k:w.ownsRow base 24 1 kv j iQ
 v:w.ownsRow base 24 1 vv i uj
 dis:∀g,kv.ownBlock=some g->vv.ownBlock≠some g
 ku:∀a,a<j->iQ[a]? =nR[2*a]?
 vu:∀a,a<i->uj[a]? =nR[2*a+1]?
theorem ik.nil (w:World) (base:Nat) (nR:List Value):ik w base nR 0 0 (.slice none 0 0) (.slice none 0 0) [] []:=
 ⟨World.ownsRow_nil _ _ _ _,World.ownsRow_nil _ _ _ _,fun g h=>by simp [Value.ownBlock] at h,fun a b=>absurd b (by omega),fun a b=>absurd b (by omega)⟩
theorem pY {b:List Value} {f:Nat->Nat} (h:∀a,a<j->us[a]? =b[f a]?) (hl:us.length=j) (d:b[f j]? =some u):∀a,a<j+1->(us++ [u])[a]? =b[f a]? :=by
 intro a e
 rcases Nat.lt_or_ge a j with c|c
 ·rw [List.getElem?_append_left (by omega)];exact h a c
 ·obtain rfl:a=j:=by omega
  rw [List.getElem?_append_right (by omega),hl,d];simp
theorem ik.below (h:ik w base nR j i kv vv iQ K) (a:Below w.heap.size w w'):ik w' base nR j i kv vv iQ K:=
 ⟨own_below h.k a,own_below h.v a,h.dis,h.ku,h.vu⟩
theorem ik.far (h:ik w base nR j i kv vv iQ K) {b:Nat} (o:Nat) (u:Value) (c:b<base):ik (w.setCell ⟨b,o,none⟩ u) base nR j i kv vv iQ K:=
 ⟨aD h.k (ag.set1 w b o u) (fun g a e=>by have:=(ah h.k g a).1;have e:g=b:=e;omega),aD h.v (ag.set1 w b o u) (fun g a e=>by have:=(ah h.v g a).1;have e:g=b:=e;omega),h.dis,h.ku,h.vu⟩
theorem ik.key (h:ik w base nR j i kv vv iQ K) (l:w2.ownsRow base 24 1 v2 (j+1) (iQ++ [u])) (d:w.grownBy w2 kv.ownBlock) (c:v2.ownBlock=kv.ownBlock\/v2.ownBlock=some w.heap.size)
  (m:nR[2*j]? =some u):ik w2 base nR (j+1) i v2 vv (iQ++ [u]) K:=
 ⟨l,aD h.v (ag.of_grown d) (fun g hv b=>h.dis g b hv),fun g b hv=>c.elim (fun e=>h.dis g (e▸b) hv) (fun e=>by rw [e] at b;injection b with b;have:=(ah h.v g hv).2;omega),pY (f:=fun a=>2*a) h.ku (by have:=h.k.1;omega) m,h.vu⟩
theorem ik.val (h:ik w base nR j i kv vv iQ K) (l:w2.ownsRow base 24 1 v2 (i+1) (K++ [u])) (d:w.grownBy w2 vv.ownBlock) (c:v2.ownBlock=vv.ownBlock\/v2.ownBlock=some w.heap.size)
  (m:nR[2*i+1]? =some u):ik w2 base nR j (i+1) kv v2 iQ (K++ [u]):=
 ⟨aD h.k (ag.of_grown d) (fun g b hv=>h.dis g b hv),l,fun g b hv=>c.elim (fun e=>h.dis g b (e▸hv)) (fun e=>by rw [e] at hv;injection hv with hv;have:=(ah h.k g b).2;omega),h.ku,pY (f:=fun a=>2*a+1) h.vu (by have:=h.v.1;omega) m⟩
def iX (fill:Nat) (l:List aK) (i:Nat):List UInt8:=if(i+1)*fill<l.length then(oz (l.getD ((i+1)*fill-1) ([],[])).1 (l.getD ((i+1)*fill) ([],[])).1).1 else []
def kT (fill:Nat) (l:List aK) (M i:Nat):bR:=(2,⟨0,iX fill l i,if i+1<M then(i:Int)+1+1 else 0,((l.drop (i*fill)).take fill).map Prod.fst,((l.drop (i*fill)).take fill).map Prod.snd,[]⟩)
def FL (w:World) (D:Nat->Prop) (vs:List Value) (l:List aK):Prop:=∀(i:Nat) (e:aK),l[i]? =some e->∃u v,vs[2*i]? =some u/\vs[2*i+1]? =some v/\SB w D u e.1/\SB w D v e.2
theorem FL.chg {S D:Nat->Prop} {w w':World} {vs:List Value} {l:List aK} (h:FL w D vs l) (y:ag S w w') (o:∀b,D b->¬S b):FL w' D vs l:=fun i e f=>let⟨u,v,a,b,c,d⟩:=h i e f;⟨u,v,a,b,c.chg y o,d.chg y o⟩
theorem FL.below (h:FL w D vs l) (a:Below w.heap.size w w'):FL w' D vs l:=h.chg (S:=Nil) (ag.of_below a) (fun _ _ b=>b)
theorem Am {B:Option Addr} (z:Rd w D 2 B m ((vs.drop (s*2)).take (m*2))) (A:FL w D vs l) (H:s+m<=l.length) (y:j<m):
  ∃b o a g d c h f,B=some ⟨b,o,none⟩/\D b/\((vs.drop (s*2)).take (m*2))[2*j]? =some (.slice a g d)/\((vs.drop (s*2)).take (m*2))[2*j+1]? =some (.slice c h f)/\w.cell? ⟨b,o+j*2,none⟩=some (.slice a g d)/\w.cell? ⟨b,o+j*2+1,none⟩=some (.slice c h f)/\∃e:aK,l[s+j]? =some e/\SB w D (.slice a g d) e.1/\SB w D (.slice c h f) e.2:=by
 obtain⟨b,o,u,v,e,x,p,q,c1,n⟩:=z.at2 y;have hl:s+j<l.length:=by omega
 obtain⟨I,J,r,t,C,E⟩:=A (s+j) _ (List.getElem?_eq_getElem hl);have i:=p;have k:=q;rw [List.getElem?_take,if_pos (by omega),List.getElem?_drop,show s*2+2*j=2*(s+j) by omega,r] at i;rw [List.getElem?_take,if_pos (by omega),List.getElem?_drop,show s*2+(2*j+1)=2*(s+j)+1 by omega,t] at k;injection i with i
 injection k with k
 subst i;subst k;obtain⟨a,g,d,rfl,F⟩:=C;obtain⟨c,h,f,rfl,G⟩:=E;rw [Nat.mul_comm 2 j] at c1 n;rw [<-Nat.add_assoc] at n;exact⟨b,o,a,g,d,c,h,f,e,x,p,q,c1,n,_,List.getElem?_eq_getElem hl,⟨_,_,_,rfl,F⟩,⟨_,_,_,rfl,G⟩⟩
noncomputable def NY:Code:=aV (f94.body.bind (fB 2))
theorem J6 (D:Nat->Prop) (vs:List Value) (l:List aK) (B:Option Addr) (F d k fill:Nat) (G:World) (hb:F<=1152921504606) (hd:F<=d) {f z n w A s:Value} (Q:Exit->Act->World->Prop)
  (al:Rd G D 2 B F ((vs.drop (k*fill*2)).take (F*2))) (an:FL G D vs l) (ut:k*fill+F<=l.length)
  (ax:∀(aA aE a0 a1 a2 a3 a4 a5 a6 a7 a8 a9 ba bb be bh bj bk bm bo bp bx bB:Value) (kv vv:Value) (iQ uj:List Value) (W:World),aj W G.heap.size 132 #[.int .i64 0,.slice none 0 0,.int .i64 0,kv,vv,.slice none 0 0]->ik W (G.heap.size+1) ((vs.drop (k*fill*2)).take (F*2)) F F kv vv iQ uj->Below G.heap.size G W->Q (.exit 2) ⟨(u0::u1::u2::u3::u4::u5::u6::u7::u8::u9::M:: .pointer (some ⟨G.heap.size,0,none⟩)::I::aA::N::U::u16::O::f::C::u20::u21::u22::u23::u24:: .slice B F d:: .int .i64 F:: .int .i64 F::aE::a0::a1::a2::a3::a4::a5::a6::a7::a8::a9::ba::bb::be::bh::bj::bk::bm::bo::bp::bx::bB::z::u51::eO::u53::n::u55::a::t::u58::u59::u60::w::gY::u63::u64::J::u66::R::u68::u69::u70::H::u72::u73::jJ::u75::A::E::mG::mH::mI::mJ::mV::mW::mX::Z::e::rM::T::s:: []).toArray,[]⟩ W):
  Code.wp prog NY Q ⟨(u0::u1::u2::u3::u4::u5::u6::u7::u8::u9::M:: .pointer (some ⟨G.heap.size,0,none⟩)::I::bX::N::U::u16::O::f::C::u20::u21::u22::u23::u24:: .slice B F d:: .int .i64 F:: .int .i64 0::u28::u29::u30::u31::u32::u33::u34::u35::u36::u37::u38::dK::u40::X::u42::dN::u44::u45::u46::ed::u48::u49::z::u51::eO::u53::n::u55::a::t::u58::u59::u60::w::gY::u63::u64::J::u66::R::u68::u69::u70::H::u72::u73::jJ::u75::A::E::mG::mH::mI::mJ::mV::mW::mX::Z::e::rM::T::s:: []).toArray,[]⟩ (G.alloc (.cells #[.int .i64 0,.slice none 0 0,.int .i64 0,.slice none 0 0,.slice none 0 0,.slice none 0 0] 132)):=by
 obtain⟨i0,ae,kH,kI,kJ⟩:=info_parts lH;have dP:=aa ax;have uE:=aa al;have zL:=aa an;have Ep:=aa ut;clear ax al an ut;conv=>arg 2;whnf
 go_loopg [27] F (fun g' i W=>∃(j:Nat) (kv vv:Value) (iQ uj:List Value),g'=F-j/\j<=F/\i= .int .i64 j/\aj W G.heap.size 132 #[.int .i64 0,.slice none 0 0,.int .i64 0,kv,vv,.slice none 0 0]/\ik W (G.heap.size+1) ((vs.drop (k*fill*2)).take (F*2)) j j kv vv iQ uj/\Below G.heap.size G W)
 case atStart=>exact⟨0,_,_,[],[],by omega,by omega,rfl,aj.new _ _ _,ik.nil _ _ _,(Below.refl _ _).alloc (Nat.le_refl _) _⟩
 case round=>
  obtain⟨j,kv,vv,iQ,uj,c,hj,rfl,x,am,y⟩:=hrel;have xD:=aa c;have gK:=aa x;have r:=aa am;have bE:=x.lt;have x3:=(x.cell 3).trans rfl;have x4:=(x.cell 4).trans rfl;have xf:=x.frozen;have mY:=aa y
  rename World=>wr
  clear c x am
  by_cases TX:j<F
  ·obtain⟨b,o,Y,nk,ck,K,V,P,rfl,XO,e1,e2,ac,ad,_⟩:=Am uE.out zL Ep TX;have c1:=ak y ac;have c2:=ak y ad;have xA:=aa e1;have aq:=aa e2;clear e1 e2 ac ad;go_wp2_with (first|(at_builtin;go_loud (refine af _ rfl (.tmp 33) (.tmp 36) _ rfl (G.heap.size+1) 24 i0 _ 1 24 underlying128 ae kH kI kJ rfl (by omega) kv j iQ rfl (own_below r.k (((Below.refl _ _).alloc (Nat.le_refl _) _).alloc (by simp) _)) (From (wr.heap.size+1)) (some ⟨wr.heap.size+1,0,none⟩) 1 1 [.slice Y nk ck] rfl (by have:=Rd.one (wr.alloc (.cells #[.slice Y nk ck,.slice K V P] 69)) (.slice Y nk ck) 24;simpa using this) (by intro u hu;simp at hu;subst hu;rfl) (by simp only [maxLen];omega) (by omega) (by simp;omega) ?_;intro v2 w2 g c iK);obtain⟨K2,XN,ar,_,_⟩:=au g;subst ar;have R2:=aa ((r.below (((Below.refl _ _).alloc (Nat.le_refl _) _).alloc (by simp) _)).key g c iK xA);have C2:=ag.of_grown c;have L:=aa (((gK.alloc _).alloc _).chg C2 (fun h=>by have:=(ah r.k _ h).1;omega));have ao:=aa (((aj.new wr 69 #[.slice Y nk ck,.slice K V P]).alloc (.cells #[.slice Y nk ck] 24)).chg C2 (fun h=>by have:=(ah r.k _ h).2;omega));have z2:=c.size;have y3:w2.cell? ⟨G.heap.size,3,none⟩=some kv:=(L.out.cell 3).trans rfl;have y4:w2.cell? ⟨G.heap.size,4,none⟩=some vv:=(L.out.cell 4).trans rfl;have yf:=L.out.frozen;have bK:w2.cell? ⟨wr.heap.size,1,none⟩=some (.slice K V P):=(ao.out.cell 1).trans rfl;clear g iK)|(at_builtin;go_loud (refine af _ rfl (.tmp 42) (.tmp 45) _ rfl (G.heap.size+1) 24 i0 _ 1 24 underlying128 ae kH kI kJ rfl (by omega) vv j uj rfl (own_below (R2.out.far 3 (.slice K2 (j+1) XN) (by omega)).v ((Below.refl _ _).alloc (Nat.le_refl _) _)) (From w2.heap.size) (some ⟨w2.heap.size,0,none⟩) 1 1 [.slice K V P] rfl (by have:=Rd.one (w2.setCell ⟨G.heap.size,3,none⟩ (.slice K2 (j+1) XN)) (.slice K V P) 24;simpa using this) (by intro u hu;simp at hu;subst hu;rfl) (by simp only [maxLen];omega) (by omega) (by simp;simp at z2;omega) ?_;intro v3 w3 m S xE;obtain⟨K3,Tc,aw,_,_⟩:=au m;subst aw;have R3:=aa (((R2.out.far 3 (.slice K2 (j+1) XN) (by omega)).below ((Below.refl _ _).alloc (Nat.le_refl _) (.cells #[.slice K V P] 24))).val m S xE aq);have C3:=ag.of_grown S;have ab:=aa (((L.out.set_ 3 (.slice K2 (j+1) XN)).alloc (.cells #[.slice K V P] 24)).chg C3 (fun h=>by have:=(ah R2.out.v _ h).1;omega));have z3:=S.size;have bL:w3.cell? ⟨G.heap.size,4,none⟩=some vv:=(ab.out.cell 4).trans rfl;have bZ:=ab.out.frozen;clear m xE)))
   have ap:=aa (((((y.alloc (by omega) (.cells #[.slice Y nk ck,.slice K V P] 69)).alloc (by simp;omega) (.cells #[.slice Y nk ck] 24)).grown c (by simp;omega) (fun q hq=>by have:=(ah r.k q hq).1;omega)).setCell (p:=⟨G.heap.size,3,none⟩) (Nat.le_refl _) (.slice K2 (j+1) XN)).alloc (by simp at z2|-;omega) (.cells #[.slice K V P] 24)|>.grown S (by simp at z2|-;omega) (fun q hq=>by have:=(ah R2.out.v q hq).1;omega))
   go_roundg (F-(j+1))
   case measure=>have:=xD.out;omega
   case rel=>exact⟨j+1,_,_,_,_,rfl,by omega,by go_num,ab.out.set_ 4 _,R3.out.far 4 _ (by omega),ap.setCell (p:=⟨G.heap.size,4,none⟩) (Nat.le_refl _) _⟩
  ·obtain rfl:j=F:=by omega
   clear y;go_wp2;exact dP _ _ _ _ _ _ _ _ _ _ _ _ _ _ _ _ _ _ _ _ _ _ _ _ _ _ _ _ gK r mY
end Go.Proofs.YtepgcjbhabnciaaGreat
