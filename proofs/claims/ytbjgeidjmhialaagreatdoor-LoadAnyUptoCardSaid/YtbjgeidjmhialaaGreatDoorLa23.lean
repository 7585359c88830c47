/- Part 23. -/
import Derived.Test.YtbjgeidjmhialaaGreatDoorLa22
namespace Go.Proofs.YtbjgeidjmhialaaGreatDoor
set_option maxRecDepth 100000
set_option maxHeartbeats 8000000
section
open Go.Proofs.Tryz
open Go.RowKit
open Go.Lib (compareBytes)
theorem EF {l:List Row} (h:gu l):∀(i:Nat) (x:Row),l[i]? =some x→x.at_≤bK l:=by
 have key:∀k i (x:Row),i<k→k≤l.length→l[i]? =some x→x.at_≤bK (l.take k):=by
  intro k
  induction k with
  |zero=>intro i x hi;omega
  |succ k ih=>
   intro i x hi hk hx;obtain⟨y,hy⟩:∃y,l[k]? =some y:=⟨_,List.getElem?_eq_getElem (by omega)⟩;rw [qg hy]
   by_cases hik:i=k
   ·subst hik;rw [hx] at hy;injection hy with hy
    subst hy
    omega
   ·have h1:=ih i x (by omega) (by omega) hx;have h2:=h.place k y hy;omega
 intro i x hx;have h1:=key l.length i x ((List.getElem?_eq_some_iff.mp hx).1) (Nat.le_refl _) hx;rwa [List.take_length] at h1
def Fs (z q p B:Nat) (v:Value):Nat→Prop:=fun b=>b=z∨b=q∨b=p∨v.ownBlock=some b∨B≤b
structure l8 (F:Nat→Prop) (z q p base:Nat) (Dr:Nat→Prop) (v1 v2:Value) (A:Option Addr) (n cc:Nat) (us:List Value) (o:Option (List aH)) (r:aU) (w:World) (e:Ending) (w':World):Prop where
 chg:ag (Fs z q p w.heap.size (.slice A n cc)) w w'
 no:o=none→e= .returned (.tuple #[.slice none 0 0,.bool false])∧bG w' base Dr (.slice A n cc) n r.rows us∧
  ai w' z 150 #[.pointer (some ⟨q,0,none⟩),.func (.func 99) #[.pointer (some ⟨z,0,none⟩)] #[],v2,.slice A n cc,.int .i64 r.err,.int .i64 (r.bad:Nat)]∧fU w' F p r.cur.src
 yes:∀es,o=some es→∃eA en ec A' n' pu lh hv,e= .returned (.tuple #[.slice eA en ec,.bool true])∧en≤ec∧ec≤maxLen∧bO w' (fun b=>w.heap.size≤b∧(Value.slice A' n' pu).ownBlock≠some b) eA en es∧
  bG w' base (fun b=>Dr b∨(w.heap.size≤b∧b<w'.heap.size)) (.slice A' n' pu) n' r.rows lh∧kP w' F q p r.cur hv∧
  ai w' z 150 #[.pointer (some ⟨q,0,none⟩),v1,v2,.slice A' n' pu,.int .i64 r.err,.int .i64 (r.bad:Nat)]∧(∀g,(Value.slice A' n' pu).ownBlock=some g→(Value.slice A n cc).ownBlock=some g∨w.heap.size≤g)
theorem xQ {z q p B:Nat} {v:Value} {w w':World} (h:ag (Cs q p B) w w'):ag (Fs z q p B v) w w':=h.mono (fun b _ hb=>by
 rcases hb with hb|hb|hb
 ·exact .inr (.inl hb)
 ·exact .inr (.inr (.inl hb))
 ·exact .inr (.inr (.inr (.inr hb))))
theorem bG.cs {q p base:Nat} {F Dr:Nat→Prop} {w w':World} {v:Value} {n:Nat} {l:List Row} {us:List Value} (h:bG w base Dr v n l us) (hs:Sit F q p base) {B:Nat} (hB:w.heap.size≤B) (hc:ag (Cs q p B) w w'):bG w' base Dr v n l us:=
 h.chg hc (fun b hb hl e=>by
  have h3:=hs.pB;have h4:=hs.qB
  rcases e with e|e|e
  ·omega
  ·omega
  ·omega)
theorem PS {w:World} {base:Nat} {A:Option Addr} {n:Nat} {l:List aH} (h:bO w (From base) A n l):bO w (fun b=>base≤b∧b<w.heap.size) A n l:=by
 obtain⟨h1,vs,h2,h3⟩:=h;refine⟨h1,vs,h2.lt (by omega),fun i e he=> ?_⟩;obtain⟨u,v,a,b,c,d⟩:=h3 i e he;exact⟨u,v,a,b,c.lt,d.lt⟩
theorem EG (r:aU) (c:ax) (a:Nat):(r.footR c a).rows=r.rows:=by
 unfold aU.footR;repeat' split
 all_goals rfl
theorem rq (F Dr:Nat→Prop) (z q p base hv K:Nat) (v1 v2:Value) (A:Option Addr) (n cc:Nat) (us:List Value) (r:aU) (w:World) (s:Sit F q p base) (zs:Zs z q p base) (NC:¬F z) (hbw:base≤w.heap.size)
  (hb:ai w z 150 #[.pointer (some ⟨q,0,none⟩),v1,v2,.slice A n cc,.int .i64 r.err,.int .i64 (r.bad:Nat)]) (hm:bG w base Dr (.slice A n cc) n r.rows us)
  (h:kP w F q p r.cur hv) (ho:r.Ok K) (hst:r.st=1) (hK:K≤1152921504606846976):
  Calls prog 75 #[.pointer (some ⟨z,0,none⟩)] w (l8 F z q p base Dr v1 v2 A n cc us r.frame.1 r.frame.2 w):=by
 refine letter fun R HR=> ?_;have HS:=aa s;have HZ:=aa zs;have HB:=aa hb;have HM:=aa hm;have HI:=aa h;have ek:=aa hbw;have QK:=aa NC;have hco:=ho.cur (by omega);have hch:=ho.held (by omega);have hz0:w.cell? ⟨z,0,none⟩=some (.pointer (some ⟨q,0,none⟩)):=hb.cell 0;have hc0:w.cell? ⟨q,0,none⟩=some (.int .i64 (r.cur.at_:Nat)):=h.blk.cell 0;have Zx:=aa (iF q (r.cur.at_:Nat) w hc0);have FD:=aa (Bq F q p hv K r.cur w (s.up hbw) h hco hK);obtain⟨L,hL⟩:∃L,L=r.cur.bytes 1:=⟨_,rfl⟩;obtain⟨kd,hkd⟩:∃k,k=L.1.headD 0:=⟨_,rfl⟩;have HF:Hid (r.frame=if L.2.1≠0 then(none,r.fail L.2.2 L.2.1 r.cur.at_) else if kd=70 then(none,r.footR L.2.2 r.cur.at_) else if kd≠66 then(none,r.fail L.2.2 82 r.cur.at_) else r.block L.2.2 r.cur.at_):=aa (by subst hkd;subst hL;rfl);have Rn:=aa hL;have MZ:=aa hkd;have PK:=aa ho;have xu:Hid (L.2.2.Ok K∧L.2.2.held=none∧(L.2.1=0→L.2.2.at_=r.cur.at_+1)):=aa ⟨by rw [hL];exact ax.bytes_ok hco 1,by rw [hL];exact ax.bytes_held hco 1 hch,by rw [hL];exact ax.bytes_step hco 1⟩;have HAT:Hid (r.cur.at_≤1152921504606∧r.cur.at_=bK r.rows):=aa ⟨by have:=hco.sum;omega,ho.one hst⟩
 have HBAD:Hid (∀(cu:ax) (e:Int) (a:Nat) (wk:World) (en:Ending) (w':World),fU wk F p cu.src→r.frame=(none,r.fail cu e a)→ag (Cs q p w.heap.size) w wk→FU z (.pointer (some ⟨q,0,none⟩)) v2 (.slice A n cc) e a wk en w'→l8 F z q p base Dr v1 v2 A n cc us r.frame.1 r.frame.2 w en w'):=aa (fun cu e a wk en w' hsi hx hc hf=>by
  rw [hx];refine⟨(xQ hc).trans hf.2.2 (fun b _ e=> .inl e),fun _=>⟨hf.1,?_,hf.2.1,hsi.own hf.2.2 zs.zp NC⟩,fun es h=>by cases h⟩;exact(hm.cs s (Nat.le_refl _) hc).chg hf.2.2 (fun b hb _ e=>by have e:b=z:=e;have:=zs.lt;omega))
 clear s zs hb hm h hco hch hL hkd ho hbw;go_enter func75,ntmps75
 go_upto_region 2 with(go_at_call 100;go_loud (refine Zx.mono ?_);rintro e w2 ⟨rfl,rfl⟩)
 go_upto_region 3 with(go_at_call 101;go_loud (refine FD.mono ?_);rintro e w2 ⟨hv2,rfl,hI,hC⟩;rw [←Rn.out] at hI⊢;rw [←MZ.out];have HI2:=aa hI;have bI:=aa hC;clear hI hC)
 have hs2:w.heap.size≤w2.heap.size:=bI.out.size;have HB2:=aa (HB.chg bI (HZ.up ek).no);have pz:=aa (HM.cs HS (Nat.le_refl _) bI);obtain⟨e1,he1⟩:∃e,e=L.2.1:=⟨_,rfl⟩;rw [←he1] at HF xu⊢;clear he1 hz0 hc0
 by_cases h1:e1=0
 ·subst h1
  have ae0:n≤cc:=by
   obtain⟨_,_,hv,h8,_⟩:=ay HM.own;injection hv with _ h9 h10
   omega
  have hnl:n=r.rows.length:=HM.out.len;have Lx:=aa hnl;have ZC:n≤8388608:=by rw [hnl];exact PK.rows.many
  clear hnl
  by_cases X5:kd=70
  ·have zK:=aa (Jf F (fun b=>base≤b∧b<w2.heap.size) z q p hv2 K r.cur.at_ v1 v2 A n cc r L.2.2 w2 (HS.up (Nat.le_trans ek hs2)) (HZ.up (Nat.le_trans ek hs2)) QK HB2 pz.sps (fun b hb=>hb.2) ae0 PK.rows
    (fun x hx=>by
     obtain⟨i,hi,hx2⟩:=List.mem_iff_getElem.mp hx;have h9:=EF PK.rows i x (by rw [List.getElem?_eq_getElem hi,hx2]);have h10:=HAT.out;omega) HI2 xu.1 xu.2.1 hK (by have h10:=HAT.out;omega))
   have X6:=aa X5;subst X5;go_wp2_with (go_at_call 102;go_loud (refine zK.mono ?_);rintro e w3 ⟨h30,rfl,h31,h32⟩;have H30:=aa h30;have H31:=aa h31;have H32:=aa h32;clear h30 h31 h32)
   rw [HR.out,HF.out,if_neg (by simp),if_pos X6.out]
   refine⟨(xQ bI).trans H32 (fun b hb e=>by
    rcases e with e|e|e|e
    ·exact .inl e
    ·exact .inr (.inl e)
    ·exact .inr (.inr (.inl e))
    ·exact .inr (.inr (.inr (.inr (Nat.le_trans bI.size e))))),fun _=>⟨rfl,?_,H31,H30⟩,fun es h=>by cases h⟩
   show bG w3 base Dr _ n (r.footR L.2.2 r.cur.at_).rows us;rw [EG]
   exact pz.chg H32 (fun b hb hl e=>by
    have h3:=HS.out.pB;have h4:=HS.out.qB;have h5:=HZ.out.lt
    rcases e with e|e|e|e
    ·omega
    ·omega
    ·omega
    ·omega)
  ·have ae1:¬((kd.toNat:Int)=70):=fun e=>X5 (UInt8.toNat_inj.mp (by rw [show(70:UInt8).toNat=70 from rfl];omega));have ah7:((kd.toNat:Int)==70)=false:=by rw [beq_eq_false_iff_ne];exact ae1
   have X6:=aa X5
   by_cases X7:kd=66
   ·have H66:=aa X7;subst X7;obtain⟨N,hN⟩:∃N,N=L.2.2.number:=⟨_,rfl⟩;obtain⟨D,hD⟩:∃D,D=N.2.2.body N.1:=⟨_,rfl⟩;obtain⟨B,hB⟩:∃B,B=aB D.body:=⟨_,rfl⟩
    have QA:Hid (r.frame=if n=8388608 then(none,r.fail L.2.2 71 r.cur.at_) else if N.2.1≠0 then(none,r.fail N.2.2 N.2.1 L.2.2.at_) else if N.1<1∨65535<N.1 then(none,r.fail N.2.2 83 L.2.2.at_) else if D.err≠0 then(none,r.fail D.cur D.err D.place)
     else if B.2.1≠0 then(none,r.fail D.cur B.2.1 (N.2.2.at_+B.2.2)) else if 0<n∧0≤compareBytes (r.rows.getLast?.getD ⟨[],0,0,0⟩).last ((B.1.headD ([],[])).1) then(none,r.fail D.cur 51 N.2.2.at_)
     else(some B.1,{r with cur:=D.cur,rows:=r.rows++ [⟨aD B.1,r.cur.at_,D.cur.at_-r.cur.at_,B.1.length⟩]})):=aa (by
     rw [HF.out,if_neg (by simp),if_neg X6.out,if_neg (fun h=>h H66.out),Lx.out];subst hB;subst hD;subst hN;rfl)
    clear HF;have HF:Hid (r.frame=_):=QA;clear QA;have Tc:=ax.number_ok xu.1;have Td:=ax.number_step xu.1 xu.2.1;rw [←hN] at Tc Td;have Dm:=aa Tc;have tK:=aa Td;have R7:=aa hN;have Up:=aa hD;have ER:=aa hB;have hz2:w2.cell? ⟨z,0,none⟩=some (.pointer (some ⟨q,0,none⟩)):=HB2.out.cell 0;have hz3:w2.cell? ⟨z,3,none⟩=some (.slice A n cc):=HB2.out.cell 3;have hc2:w2.cell? ⟨q,0,none⟩=some (.int .i64 (L.2.2.at_:Nat)):=HI2.out.blk.cell 0;have HA2:=aa (iF q (L.2.2.at_:Nat) w2 hc2);have HNU:=aa (uV F q p hv2 K L.2.2 w2 (HS.up (Nat.le_trans ek hs2)) HI2 xu.1 hK);clear Tc Td hN hD hB
    by_cases Jt:n=8388608
    ·have JB:=aa Jt;have ae2:((n:Int)==8388608)=true:=by rw [Jt];rfl
     go_wp2_with (go_at_call 74;go_loud (refine(bf z _ v1 v2 _ _ _ 71 (r.cur.at_:Nat) w2 HB2).mono ?_);rintro e9 w9 ⟨rfl,gY,gZ⟩;have lD:=aa gY;have lF:=aa gZ;clear gY gZ)
     rw [HR.out]
     exact HBAD L.2.2 71 (r.cur.at_:Nat) w2 _ w9 HI2.src (by rw [HF.out,if_pos JB.out]) bI ⟨rfl,lD,lF⟩
    ·have JB:=aa Jt;have ae2:((n:Int)==8388608)=false:=by rw [beq_eq_false_iff_ne];omega
     have ah8:¬((n:Int)=8388608):=by omega
     go_upto_region 12 with(go_at_call 100;go_loud (refine HA2.mono ?_);rintro e w3 ⟨rfl,rfl⟩)
     go_upto_region 13 with(go_at_call 103;go_loud (refine HNU.mono ?_);rintro e w3 ⟨hv3,rfl,hI,hC⟩;rw [←R7.out] at hI⊢;have HI3:=aa hI;have gN:=aa (mY bI hC);have Na:=aa hC;clear hI hC)
     have hs3:w.heap.size≤w3.heap.size:=gN.out.size;have HB3:=aa (HB2.chg Na (HZ.up (Nat.le_trans ek hs2)).no);have Nq:=aa (pz.cs HS (Nat.le_refl _) Na);obtain⟨e2,he2⟩:∃e,e=N.2.1:=⟨_,rfl⟩;obtain⟨n1,hn1⟩:∃e,e=N.1:=⟨_,rfl⟩;rw [←he2,←hn1] at HF⊢;rw [←he2] at Dm tK;rw [←hn1] at Up;clear he2 hn1 hz2 hz3 hc2
     by_cases h2:e2=0
     ·subst h2
      by_cases WE:n1<1∨65535<n1
      ·have QM:=aa WE
       by_cases al4:n1<1
       ·have WF:decide ((n1:Int)<1)=true:=decide_eq_true (by omega);have WG:(n1:Int)<1:=by omega
        clear WE;go_wp2_with (go_at_call 74;go_loud (refine(bf z _ v1 v2 _ _ _ 83 (L.2.2.at_:Nat) w3 HB3).mono ?_);rintro e9 w9 ⟨rfl,gY,gZ⟩;have lD:=aa gY;have lF:=aa gZ;clear gY gZ)
        rw [HR.out]
        exact HBAD N.2.2 83 (L.2.2.at_:Nat) w3 _ w9 HI3.src (by rw [HF.out,if_neg JB.out,if_neg (by simp),if_pos QM.out]) gN ⟨rfl,lD,lF⟩
       ·have WF:¬((n1:Int)<1):=by omega
        have WG:(65535:Int)<(n1:Int):=by omega
        clear WE;go_wp2_with (go_at_call 74;go_loud (refine(bf z _ v1 v2 _ _ _ 83 (L.2.2.at_:Nat) w3 HB3).mono ?_);rintro e9 w9 ⟨rfl,gY,gZ⟩;have lD:=aa gY;have lF:=aa gZ;clear gY gZ)
        rw [HR.out]
        exact HBAD N.2.2 83 (L.2.2.at_:Nat) w3 _ w9 HI3.src (by rw [HF.out,if_neg JB.out,if_neg (by simp),if_pos QM.out]) gN ⟨rfl,lD,lF⟩
      ·have QM:=aa WE;have WF:¬((n1:Int)<1):=by omega
       have WG:¬((65535:Int)<(n1:Int)):=by omega
       have hl1:1≤n1:=by omega
       have hl2:n1≤65535:=by omega
       have hwn:IntKind.i64.wrap (n1:Int)=(n1:Int):=IntWalk.i64_in _ (by omega);have hz3:w3.cell? ⟨z,0,none⟩=some (.pointer (some ⟨q,0,none⟩)):=HB3.out.cell 0;have hc3:w3.cell? ⟨q,0,none⟩=some (.int .i64 (N.2.2.at_:Nat)):=HI3.out.blk.cell 0;have PW:=aa (iF q (N.2.2.at_:Nat) w3 hc3);have GD:=aa (xP F z q p hv3 n1 K N.2.2 w3 (HS.up (Nat.le_trans ek hs3)) hz3 (HZ.up (Nat.le_trans ek hs3)).lt HZ.zq HZ.zp HI3 Dm.1 tK.1 hK (by omega) (by omega));have Te:=ax.body_ok Dm.1 tK.1 n1 (by omega);rw [←Up.out] at Te;have ND:=aa Te;clear Te WE;go_upto_region 18 with(go_at_call 100;go_loud (refine PW.mono ?_);rintro e w4 ⟨rfl,rfl⟩)
       go_upto_region 19 with(go_at_call 104;go_loud (refine GD.mono ?_);rintro e w4 ⟨vD,hv4,rfl,hO,hI,hC⟩;rw [←Up.out] at hO hI⊢;have lI:=aa hO;have HI4:=aa hI;have mP:=aa (mY gN hC);have PQ:=aa hC;clear hO hI hC)
       have hs4:w.heap.size≤w4.heap.size:=mP.out.size;have dN:=aa (HB3.chg PQ (HZ.up (Nat.le_trans ek hs3)).no);have mM:=aa (Nq.cs HS (Nat.le_refl _) PQ);obtain⟨eD,Tf⟩:∃e,e=D.err:=⟨_,rfl⟩;rw [←Tf] at HF lI⊢;have Gg:=aa Tf;clear Tf hz3 hc3
       by_cases h3:eD=0
       ·subst h3;obtain⟨dA,dn,dc,rfl,hdc,_,hdn,hdr⟩:=(lI.out rfl).sb;have hdl:dn=n1:=by rw [hdn];exact ND.len Gg.out.symm
        have NA:Hid (D.body.length=n1):=aa (by rw [←hdl];exact hdn.symm);have Dt:=aa (Gi (fun b=>b<w4.heap.size) dA dn dc D.body w4 ((hdr.lt (by omega)).weak (fun b hb=>hb.2)) hdn hdc (by omega) (fun _ h=>h));have wE:=aa (vY D.body);rw [←ER.out] at wE;have hpb:B.2.2≤n1+128:=by have h8:=wE.out;rw [NA.out] at h8;exact h8
        have Wp:N.2.2.at_≤1152921504606:=by have h9:=Dm.out.1.sum;omega
        have HRG:Hid (B.2.1=0→bu B.1∧1≤B.1.length∧B.1.length≤64):=aa (by rw [ER.out];exact Cg);have E7:Hid (B.2.1≠0→True):=aa (fun _=>trivial);clear hdn hdr hdc hdl;go_upto_region 22 with(go_at_call 105;go_loud (refine Dt.mono ?_);rintro e w5 ⟨eA,en,ec,rfl,h51,h52,h53,h54⟩;rw [←ER.out] at h53⊢;have zx:=aa h51;have HE2:=aa h52;have Ox:=aa h53;have xH:=aa h54;clear h51 h52 h53 h54)
        have fO:=aa (dN.below xH);have sU:=aa (mM.below xH);have fQ:=aa (wo mP xH);have Nb:Hid (kP w5 F q p D.cur hv4):=aa (HI4.chg (S:=Nil) (ag.of_below xH) (fun h=>h) (fun h=>h) (fun _ _ h=>h));obtain⟨eB,heB⟩:∃e,e=B.2.1:=⟨_,rfl⟩;obtain⟨pB,hpB⟩:∃e,e=B.2.2:=⟨_,rfl⟩;rw [←heB,←hpB] at HF⊢;rw [←heB] at HRG;rw [←hpB] at hpb;clear heB hpB
        by_cases h4:eB=0
        ·subst h4;obtain⟨Qp,ae3,PM⟩:=HRG.out rfl;obtain⟨eb,eo,K1,Su,k1c,V1,v1n,v1c,key,val,DL,_,hel,hce,_,_,_,hk1,WH,_⟩:=Ox.out.at_ (k:=0) (by rw [Ox.out.len];omega);subst DL;have Fa:=aa Qp;have WI:0<en:=by rw [Ox.out.len];omega
         have LM:en≤64:=by rw [Ox.out.len];omega
         have HHD:Hid ((B.1.headD ([],[])).1=key):=aa (by
          cases hb1:B.1 with
          |nil=>rw [hb1] at hel;simp at hel
          |cons y t=>rw [hb1] at hel;simp at hel;rw [hel];rfl)
         rw [HHD.out] at HF;have lL:Hid (Su=key.length):=hk1;have ae4:=aa WH;have ah9:(0:Int)<(en:Int):=by omega
         simp only [Nat.zero_mul,Nat.add_zero] at hce;clear Qp ae3 PM hel hk1 WH;have JV:Hid (bO w5 (fun b=>w4.heap.size≤b∧b<w5.heap.size) (some ⟨eb,eo,none⟩) en B.1):=aa (PS Ox)
         have X8:Hid (r.cur.at_≤D.cur.at_∧D.cur.at_≤1152921504606846976):=aa ⟨by
          have h7:=ND.out.at_ Gg.out.symm;have h8:=xu.out.2.2 (by trivial);have h9:=tK.out.2 (by trivial);omega,by have h9:=ND.out.ok.sum;omega⟩
         have Rw:w5.cell? ⟨z,3,none⟩=some (.slice A n cc):=fO.out.cell 3
         by_cases n0:n=0
         ·have hd:decide (0<n)=false:=decide_eq_false (by omega);have hd':decide ((0:Int)<(n:Int))=false:=decide_eq_false (by omega);have Nc:Hid (¬(0<n∧0≤compareBytes (r.rows.getLast?.getD ⟨[],0,0,0⟩).last key)):=aa (fun h=>by omega);clear n0;go_upto_region 24 with fail
          go_quiet (fail);have zu:Hid (ag Nil w5 (w5.drewN nq)):=aa ((ag.refl Nil w5).drewN nq);clear hd hd' Rw hce;go_upto_region 26 with fail
          refine Cr (fun b=>w4.heap.size≤b∧b<w5.heap.size) Dr base z q r.cur.at_ D.cur.at_ eb eo en ec A n cc r.rows us B.1 v1 v2 _ _ (w5.drewN nq) _ (aa (fun _ _ _ _ h=>h)) (aa (fO.drewN nq)) (aa (sU.chg zu (fun _ _ _ h=>h))) (aa (JV.chg zu (fun _ _ h=>h))) (aa ((Nb.blk.drewN nq).cell 0)) WI LM (fun e he=>(dC Fa he).2.1) X8.1 X8.2 ZC (by have h8:=ek.out;have h9:=fQ.out.size;show base≤(w5.drewN nq).heap.size;exact Nat.le_trans h8 h9) HZ.lt (aa (fun b hb=>⟨hb.2,fun e=>by have h8:=(ah mM.own b e).2;have h9:=hb.1;omega⟩)) ?_;intro Ti v175 Tj Tk Tm Tn Tp Tq v182 v183 Tt Tu Tv Tw Ty Tz TA TB TC v193 v194 TD v196 TE v198 TF TG v201 TH v203 A' pu lh w6 WJ WK h63 h64;have EH:Hid (∀gg,(Value.slice A' (n+1) pu).ownBlock=some gg→(Value.slice A n cc).ownBlock=some gg∨w5.heap.size≤gg):=aa h64;have H61:=aa WJ;have H62:=aa WK;have TI:=aa h63;clear WJ WK h63 h64;go_wp2;rw [HR.out,HF.out,if_neg JB.out,if_neg (by simp),if_neg QM.out,if_neg (by simp),if_neg (by simp),if_neg Nc.out]
          refine⟨((xQ fQ).drewN nq).trans TI (fun b _ e=>by
           rcases e with e|e
           ·exact .inl e
           ·exact .inr (.inr (.inr (.inl e)))),fun h=>(by cases h),fun es h=> ?_⟩
          injection h with h
          subst h;have TJ:w.heap.size≤w4.heap.size:=mP.out.size;have hown:∀gg,(Value.slice A n cc).ownBlock=some gg→gg<w4.heap.size:=fun gg hg=>(ah mM.own gg hg).2
          refine⟨_,en,ec,A',n+1,pu,lh,hv4,rfl,zx,HE2,?_,H61.wider (fun b hb=>hb.imp id (fun h=>⟨Nat.le_trans fQ.size h.1,h.2⟩)) (fun b hb=>hb.elim (HM.lo b) (fun h=>Nat.le_trans ek h.1)),?_,H62,fun g hg=>(EH g hg).imp id (fun h=>Nat.le_trans fQ.size h)⟩
          ·refine((JV.chg zu (fun _ _ h=>h)).chg TI (fun b hb e=> ?_)).weak (fun b hb=>⟨Nat.le_trans TJ hb.1,fun e=> ?_⟩)
           ·rcases e with e|e
            ·have h8:=HZ.out.lt;have h9:=ek.out;have h10:=hb.1;omega
            ·have h8:=hown b e;have h9:=hb.1;omega
           ·rcases EH.out b e with e|e
            ·have h8:=hown b e;have h9:=hb.1;omega
            ·have h9:=hb.2;omega
          ·refine(Nb.chg zu (fun h=>h) (fun h=>h) (fun _ _ h=>h)).chg TI (fun e=> ?_) (fun e=> ?_) (fun b hb e=> ?_)
           ·rcases e with e|e
            ·exact HZ.zq e.symm
            ·have h8:=(ah mM.own q e).1;have h9:=HS.out.qB;omega
           ·rcases e with e|e
            ·exact HZ.zp e.symm
            ·have h8:=(ah mM.own p e).1;have h9:=HS.out.pB;omega
           ·rcases e with e|e
            ·exact QK (e▸hb)
            ·have h8:=(ah mM.own b e).1;have h9:=HS.out.lt b hb;omega
         ·obtain⟨j,hj⟩:∃j,n=j+1:=⟨n-1,by omega⟩;obtain⟨g,o,M,mn,mc,y,DL,_,hyj,d0,_,_,_,sy⟩:=sU.out.sps.at_ (k:=j) (by omega);have hlast:r.rows.getLast?.getD ⟨[],0,0,0⟩=y:=by rw [List.getLast?_eq_getElem?,←Lx.out,show n-1=j by omega,hyj];rfl
          rw [hlast] at HF;have Jv:Hid (∀k,Calls prog 70 #[.slice M mn mc,.slice K1 Su k1c] (w5.drewN k) fun e w'=>e= .returned (.int .i64 (compareBytes y.last key))∧w5.drewN k=w'):=aa (fun k=>bi M K1 mn Su mc k1c _ _ y.last key (w5.drewN k) (sy.parts.2.2.2.drewN k) sy.parts.2.2.1 (ae4.drewN k) lL);obtain⟨ce,hce⟩:∃ce,ce=compareBytes y.last key:=⟨_,rfl⟩;rw [←hce] at Jv HF;have hd:decide (0<n)=true:=decide_eq_true (by omega);have hd':decide ((0:Int)<(n:Int))=true:=decide_eq_true (by omega);have hj2:IntKind.i64.wrap ((n:Int)-1)=(j:Int):=by rw [IntWalk.i64_in _ (by omega)];omega
          have hj3:IntKind.i64.wrap (j:Int)=(j:Int):=IntWalk.i64_in _ (by omega);have hj0:(0:Int)≤(j:Int):=by omega
          have hjl:j<n:=by omega
          have GN:(j:Int)<(n:Int):=by omega
          have HN0:Hid (0<n):=aa (by omega);subst DL;clear n0 hj hyj hlast hce sy;go_upto_region 24 with fail
          by_cases PT:0≤ce
          ·have Nc:Hid (0<n∧0≤ce):=aa ⟨HN0,PT⟩;have hcd:decide (0≤ce)=true:=decide_eq_true PT;go_quiet ((go_at_call 70;exact dZ (Jv _)));have HBq:=aa (fO.drewN nq);have HCq:=aa (fQ.drewN nq);clear hd hd' Rw hce d0;go_wp2_with (go_at_call 74;go_loud (refine(bf z _ v1 v2 _ _ _ 51 (N.2.2.at_:Nat) (w5.drewN nq) HBq).mono ?_);rintro e9 w9 ⟨rfl,gY,gZ⟩;have lD:=aa gY;have lF:=aa gZ;clear gY gZ)
           rw [HR.out]
           exact HBAD D.cur 51 (N.2.2.at_:Nat) (w5.drewN nq) _ w9 (Nb.src.nil ((ag.refl Nil w5).drewN nq)) (by rw [HF.out,if_neg JB.out,if_neg (by simp),if_neg QM.out,if_neg (by simp),if_neg (by simp),if_pos Nc.out]) HCq ⟨rfl,lD,lF⟩
          ·have Nc:Hid (¬(0<n∧0≤ce)):=aa (fun h=>PT h.2);have hcd:decide (0≤ce)=false:=decide_eq_false PT;go_quiet ((go_at_call 70;exact dZ (Jv _)));have zu:Hid (ag Nil w5 (w5.drewN nq)):=aa ((ag.refl Nil w5).drewN nq);clear hd hd' Rw hce d0;go_upto_region 26 with fail
           refine Cr (fun b=>w4.heap.size≤b∧b<w5.heap.size) Dr base z q r.cur.at_ D.cur.at_ eb eo en ec (some ⟨g,o,none⟩) n cc r.rows us B.1 v1 v2 _ _ (w5.drewN nq) _ (aa (fun _ _ _ _ h=>h)) (aa (fO.drewN nq)) (aa (sU.chg zu (fun _ _ _ h=>h))) (aa (JV.chg zu (fun _ _ h=>h))) (aa ((Nb.blk.drewN nq).cell 0)) WI LM (fun e he=>(dC Fa he).2.1) X8.1 X8.2 ZC (by have h8:=ek.out;have h9:=fQ.out.size;show base≤(w5.drewN nq).heap.size;exact Nat.le_trans h8 h9) HZ.lt (aa (fun b hb=>⟨hb.2,fun e=>by have h8:=(ah mM.own b e).2;have h9:=hb.1;omega⟩)) ?_;intro Ti v175 Tj Tk Tm Tn Tp Tq v182 v183 Tt Tu Tv Tw Ty Tz TA TB TC v193 v194 TD v196 TE v198 TF TG v201 TH v203 A' pu lh w6 WJ WK h63 h64;have EH:Hid (∀gg,(Value.slice A' (n+1) pu).ownBlock=some gg→(Value.slice (some ⟨g,o,none⟩) n cc).ownBlock=some gg∨w5.heap.size≤gg):=aa h64;have H61:=aa WJ;have H62:=aa WK;have TI:=aa h63;clear WJ WK h63 h64;go_wp2;rw [HR.out,HF.out,if_neg JB.out,if_neg (by simp),if_neg QM.out,if_neg (by simp),if_neg (by simp),if_neg Nc.out]
           refine⟨((xQ fQ).drewN nq).trans TI (fun b _ e=>by
            rcases e with e|e
            ·exact .inl e
            ·exact .inr (.inr (.inr (.inl e)))),fun h=>(by cases h),fun es h=> ?_⟩
           injection h with h
           subst h;have TJ:w.heap.size≤w4.heap.size:=mP.out.size;have hown:∀gg,(Value.slice (some ⟨g,o,none⟩) n cc).ownBlock=some gg→gg<w4.heap.size:=fun gg hg=>(ah mM.own gg hg).2
           refine⟨_,en,ec,A',n+1,pu,lh,hv4,rfl,zx,HE2,?_,H61.wider (fun b hb=>hb.imp id (fun h=>⟨Nat.le_trans fQ.size h.1,h.2⟩)) (fun b hb=>hb.elim (HM.lo b) (fun h=>Nat.le_trans ek h.1)),?_,H62,fun g hg=>(EH g hg).imp id (fun h=>Nat.le_trans fQ.size h)⟩
           ·refine((JV.chg zu (fun _ _ h=>h)).chg TI (fun b hb e=> ?_)).weak (fun b hb=>⟨Nat.le_trans TJ hb.1,fun e=> ?_⟩)
            ·rcases e with e|e
             ·have h8:=HZ.out.lt;have h9:=ek.out;have h10:=hb.1;omega
             ·have h8:=hown b e;have h9:=hb.1;omega
            ·rcases EH.out b e with e|e
             ·have h8:=hown b e;have h9:=hb.1;omega
             ·have h9:=hb.2;omega
           ·refine(Nb.chg zu (fun h=>h) (fun h=>h) (fun _ _ h=>h)).chg TI (fun e=> ?_) (fun e=> ?_) (fun b hb e=> ?_)
            ·rcases e with e|e
             ·exact HZ.zq e.symm
             ·have h8:=(ah mM.own q e).1;have h9:=HS.out.qB;omega
            ·rcases e with e|e
             ·exact HZ.zp e.symm
             ·have h8:=(ah mM.own p e).1;have h9:=HS.out.pB;omega
            ·rcases e with e|e
             ·exact QK (e▸hb)
             ·have h8:=(ah mM.own b e).1;have h9:=HS.out.lt b hb;omega
        ·have h4':(eB==0)=false:=by rw [beq_eq_false_iff_ne];exact h4
         have H4:=aa h4;have hpl:IntKind.i64.wrap ((N.2.2.at_:Int)+(pB:Int))=((N.2.2.at_+pB:Nat):Int):=by rw [IntWalk.i64_in _ (by omega)];omega
         go_wp2_with (go_at_call 74;go_loud (refine(bf z _ v1 v2 _ _ _ eB ((N.2.2.at_+pB:Nat)) w5 fO).mono ?_);rintro e9 w9 ⟨rfl,gY,gZ⟩;have lD:=aa gY;have lF:=aa gZ;clear gY gZ)
         rw [HR.out]
         exact HBAD D.cur eB ((N.2.2.at_+pB:Nat)) w5 _ w9 Nb.src (by rw [HF.out,if_neg JB.out,if_neg (by simp),if_neg QM.out,if_neg (by simp),if_pos H4.out]) fQ ⟨rfl,lD,lF⟩
       ·have h3':(eD==0)=false:=by rw [beq_eq_false_iff_ne];exact h3
        have H3:=aa h3;go_wp2_with (go_at_call 74;go_loud (refine(bf z _ v1 v2 _ _ _ eD (D.place:Nat) w4 dN).mono ?_);rintro e9 w9 ⟨rfl,gY,gZ⟩;have lD:=aa gY;have lF:=aa gZ;clear gY gZ)
        rw [HR.out]
        exact HBAD D.cur eD (D.place:Nat) w4 _ w9 HI4.src (by rw [HF.out,if_neg JB.out,if_neg (by simp),if_neg QM.out,if_pos H3.out]) mP ⟨rfl,lD,lF⟩
     ·have h2':(e2==0)=false:=by rw [beq_eq_false_iff_ne];exact h2
      have H2:=aa h2;go_wp2_with (go_at_call 74;go_loud (refine(bf z _ v1 v2 _ _ _ e2 (L.2.2.at_:Nat) w3 HB3).mono ?_);rintro e9 w9 ⟨rfl,gY,gZ⟩;have lD:=aa gY;have lF:=aa gZ;clear gY gZ)
      rw [HR.out]
      exact HBAD N.2.2 e2 (L.2.2.at_:Nat) w3 _ w9 HI3.src (by rw [HF.out,if_neg JB.out,if_pos H2.out]) gN ⟨rfl,lD,lF⟩
   ·have ae5:¬((kd.toNat:Int)=66):=fun e=>X7 (UInt8.toNat_inj.mp (by rw [show(66:UInt8).toNat=66 from rfl];omega));have ai0:((kd.toNat:Int)==66)=false:=by rw [beq_eq_false_iff_ne];exact ae5
    have H66:=aa X7;go_wp2_with (go_at_call 74;go_loud (refine(bf z _ v1 v2 _ _ _ 82 (r.cur.at_:Nat) w2 HB2).mono ?_);rintro e9 w9 ⟨rfl,gY,gZ⟩;have lD:=aa gY;have lF:=aa gZ;clear gY gZ)
    rw [HR.out]
    exact HBAD L.2.2 82 (r.cur.at_:Nat) w2 _ w9 HI2.src (by rw [HF.out,if_neg (by simp),if_neg X6.out,if_pos H66.out]) bI ⟨rfl,lD,lF⟩
 ·have h1':(e1==0)=false:=by rw [beq_eq_false_iff_ne];exact h1
  have H1:=aa h1;go_wp2_with (go_at_call 74;go_loud (refine(bf z _ v1 v2 _ _ _ e1 (r.cur.at_:Nat) w2 HB2).mono ?_);rintro e9 w9 ⟨rfl,gY,gZ⟩;have lD:=aa gY;have lF:=aa gZ;clear gY gZ)
  rw [HR.out];exact HBAD L.2.2 e1 (r.cur.at_:Nat) w2 _ w9 HI2.src (by rw [HF.out,if_pos H1.out]) bI ⟨rfl,lD,lF⟩
end
section
open Go.Proofs.Tryz
open Go.RowKit
theorem AP (F D:Nat→Prop) (z q p base hv K:Nat) (v1 v2:Value) (A:Option Addr) (n cc:Nat) (us:List Value) (r:aU) (w:World) (s:Sit F q p base) (zs:Zs z q p base) (NC:¬F z) (hbw:base≤w.heap.size)
  (hb:ai w z 150 #[.pointer (some ⟨q,0,none⟩),v1,v2,.slice A n cc,.int .i64 r.err,.int .i64 (r.bad:Nat)]) (hm:bG w base D (.slice A n cc) n r.rows us)
  (h:kP w F q p r.cur hv) (ho:r.Ok K) (hst:r.st=0) (hK:K≤1152921504606846976):
  Calls prog 46 #[.pointer (some ⟨z,0,none⟩)] w (l8 F z q p base D (.func (.func 75) #[.pointer (some ⟨z,0,none⟩)] #[]) v2 A n cc us r.next.1 r.next.2 w):=by
 refine letter fun R HR=> ?_;have HS:=aa s;have HZ:=aa zs;have HB:=aa hb;have HM:=aa hm;have ek:=aa hbw;have hco:=ho.cur (by omega);have hch:=ho.held (by omega);have hz0:w.cell? ⟨z,0,none⟩=some (.pointer (some ⟨q,0,none⟩)):=hb.cell 0;have FD:=aa (j5 F q p hv 8 K r.cur w (s.up hbw) h hco hK (by omega) (by omega));obtain⟨L,hL⟩:∃L,L=r.cur.bytes 8:=⟨_,rfl⟩
 have HF:Hid (r.next=if L.2.1≠0 then(none,r.fail L.2.2 L.2.1 0) else if L.1≠gX then(none,r.fail L.2.2 81 0) else({r with cur:=L.2.2,st:=1}:aU).frame):=aa (by
  subst hL;unfold aU.next;rw [if_neg (by omega),if_neg (by omega)])
 have Rn:=aa hL
 have xu:Hid (L.2.1=0→L.2.2.at_=8∧L.2.2.Ok K∧L.2.2.held=none):=aa (fun h0=>by
  rw [hL] at h0⊢;exact⟨by rw [ax.bytes_step hco 8 h0,(ho.zero hst).1],ax.bytes_ok hco 8,ax.bytes_held hco 8 hch⟩)
 have PK:=aa ho;have QK:=aa NC;have HST:=aa hst
 have HBAD:Hid (∀(cu:ax) (e:Int) (a:Nat) (wk:World) (en:Ending) (w':World),fU wk F p cu.src→r.next=(none,r.fail cu e a)→ag (Cs q p w.heap.size) w wk→FU z (.pointer (some ⟨q,0,none⟩)) v2 (.slice A n cc) e a wk en w'→l8 F z q p base D (.func (.func 75) #[.pointer (some ⟨z,0,none⟩)] #[]) v2 A n cc us r.next.1 r.next.2 w en w'):=aa (fun cu e a wk en w' hsi hx hc hf=>by
  rw [hx];refine⟨(xQ hc).trans hf.2.2 (fun b _ e=> .inl e),fun _=>⟨hf.1,?_,hf.2.1,hsi.own hf.2.2 zs.zp NC⟩,fun es h=>by cases h⟩;exact(hm.cs s (Nat.le_refl _) hc).chg hf.2.2 (fun b hb _ e=>by have e:b=z:=e;have:=zs.lt;omega))
 clear s zs hb hm h hco hch hL ho hbw NC hst;go_enter func46,ntmps46
 go_upto_region 2 with(go_at_call 73;go_loud (refine FD.mono ?_);rintro e w2 ⟨vD,hv2,rfl,hO,hI,hC⟩;rw [←Rn.out] at hO hI⊢;have iV:=aa hO;have HI2:=aa hI;have bI:=aa hC;clear hO hI hC)
 have HB2:=aa (HB.chg bI (HZ.up ek).no);obtain⟨e1,he1⟩:∃e,e=L.2.1:=⟨_,rfl⟩;rw [←he1] at HF iV xu⊢;clear he1 hz0
 by_cases h1:e1=0
 ·subst h1;obtain⟨dA,dn,dc,rfl,_,_,hdn,hdr⟩:=(iV.out rfl).sb;have hcv:=dR w2 _ dA dn dc L.1 hdr hdn;clear hdr hdn;go_upto_region 4 with fail
  by_cases hh:L.1=gX
  ·have HHH:=aa hh;rw [hh,show wN gX=⟨#[99,111,112,112,105,99,101,1]⟩ from rfl] at hcv;have z1:w2.cell? ⟨z,1,none⟩=some v1:=HB2.out.cell 1;have Kt:=HB2.out.frozen 1;have PR:Hid ((L.2.2.at_=8∧L.2.2.Ok K∧L.2.2.held=none)∧r.rows= []):=aa ⟨xu (by trivial),(PK.zero HST).2⟩;clear hh;go_upto_region 7 with fail
   clear hcv;obtain⟨w3,hw3⟩:∃W,W=w2.setCell ⟨z,1,none⟩ (.func (.func 75) #[.pointer (some ⟨z,0,none⟩)] #[]):=⟨_,rfl⟩;rw [←hw3];have gN:Hid (ag (fun b=>b=z) w2 w3):=aa (by rw [hw3];exact(ag.refl (fun b=>b=z) w2).setCell (p:=⟨z,1,none⟩) (fun _=>rfl) _);have HB3:Hid (ai w3 z 150 #[.pointer (some ⟨q,0,none⟩),.func (.func 75) #[.pointer (some ⟨z,0,none⟩)] #[],v2,.slice A n cc,.int .i64 r.err,.int .i64 (r.bad:Nat)]):=aa (by rw [hw3];exact HB2.set_ 1 _);have Nq:Hid (bG w3 base D (.slice A n cc) n r.rows us):=aa ((HM.cs HS (Nat.le_refl _) bI).chg gN (fun b hb _ e=>by have e:b=z:=e;have:=HZ.out.lt;omega));have HI3:Hid (kP w3 F q p L.2.2 hv2):=aa (HI2.chg gN (fun e=>HZ.zq e.symm) (fun e=>HZ.zp e.symm) (fun b hb e=>QK (e▸hb)))
   have Dv:=aa (rq F D z q p base hv2 K (.func (.func 75) #[.pointer (some ⟨z,0,none⟩)] #[]) v2 A n cc us {r with cur:=L.2.2,st:=1} w3 HS HZ QK (by have h8:=ek.out;have h9:=bI.out.size;have h10:=gN.out.size;omega) HB3 Nq HI3
    ⟨fun _=>PR.1.2.1,fun _=>PR.1.2.2,PK.rows,fun e=>absurd e (show¬((1:Nat)=0) by decide),fun _=>(by show L.2.2.at_=bK r.rows;rw [PR.out.2,PR.out.1.1];rfl),(by show(1:Nat)≤2;omega),fun _=>PK.err (by rw [HST.out];decide)⟩ rfl hK)
   clear z1 Kt hw3
   have oL:Hid (∀w',ag (Fs z q p w3.heap.size (.slice A n cc)) w3 w'→ag (Fs z q p w.heap.size (.slice A n cc)) w w'):=aa (fun w' hc=>((xQ bI).trans gN (fun b _ e=> .inl e)).trans hc (fun b _ e=>by
    rcases e with e|e|e|e|e
    ·exact .inl e
    ·exact .inr (.inl e)
    ·exact .inr (.inr (.inl e))
    ·exact .inr (.inr (.inr (.inl e)))
    ·exact .inr (.inr (.inr (.inr (Nat.le_trans (Nat.le_trans bI.size gN.size) e))))))
   have xW:Hid (w.heap.size≤w3.heap.size):=aa (Nat.le_trans bI.size gN.size);have QA:Hid (r.next=({r with cur:=L.2.2,st:=1}:aU).frame):=aa (by rw [HF.out,if_neg (by simp),if_neg (fun h=>h HHH.out)]);clear HF;obtain⟨X,hX⟩:∃X,X=({r with cur:=L.2.2,st:=1}:aU).frame:=⟨_,rfl⟩;rw [←hX] at Dv QA;obtain⟨X1,X2⟩:=X;clear hX
   cases X1 with
   |none=>
    go_wp2_with (go_at_call 75;go_loud (refine Dv.mono ?_);intro e w4 hf;have ny:=aa hf;obtain⟨rfl,_,_⟩:=hf.no rfl;clear hf)
    rw [HR.out,QA.out]
    exact⟨oL _ ny.chg,ny.no,fun es h=>by cases h⟩
   |some es=>
    go_wp2_with (go_at_call 75;go_loud (refine Dv.mono ?_);intro e w4 hf;have ny:=aa hf;obtain⟨eA,en,ec,A',n',pu,lh,hv',rfl,g1,g2,g3,g4,g5,g6,g7⟩:=hf.yes es rfl;have G7:=aa g7;have G1:=aa g1;have G2:=aa g2;have G3:=aa g3;have G4:=aa g4;have G5:=aa g5;have G6:=aa g6;clear hf g1 g2 g3 g4 g5 g6 g7)
    rw [HR.out,QA.out];refine⟨oL _ ny.chg,fun h=>(by cases h),fun es' h=> ?_⟩;injection h with h
    subst h
    exact⟨eA,en,ec,A',n',pu,lh,hv',rfl,G1.out,G2.out,G3.out.weak (fun b hb=>⟨Nat.le_trans xW hb.1,hb.2⟩),G4.out.wider (fun b hb=>hb.imp id (fun h=>⟨Nat.le_trans xW h.1,h.2⟩)) (fun b hb=>hb.elim (HM.lo b) (fun h=>Nat.le_trans ek h.1)),G5.out,G6.out,fun g hg=>(G7.out g hg).imp id (fun h=>Nat.le_trans xW h)⟩
  ·have HHH:=aa hh;have hq:((wN L.1).toList==(wN gX).toList)=false:=by rw [Du];exact decide_eq_false hh
   rw [show wN gX=⟨#[99,111,112,112,105,99,101,1]⟩ from rfl] at hq
   have hq2:¬(wN L.1=⟨#[99,111,112,112,105,99,101,1]⟩):=fun e=>hh (by
    have e2:L.1.toArray= #[99,111,112,112,105,99,101,1]:=congrArg ByteArray.data e;have e3:=congrArg Array.toList e2;exact e3)
   have hq4:decide (wN L.1=⟨#[99,111,112,112,105,99,101,1]⟩)=false:=decide_eq_false hq2;have Xt:((wN L.1).toList==(⟨#[99,111,112,112,105,99,101,1]⟩:ByteArray).toList)=false:=hq;have hl:(⟨#[99,111,112,112,105,99,101,1]⟩:ByteArray).toList= [99,111,112,112,105,99,101,1]:=by kernel_rfl
   have TW:((wN L.1).toList== [99,111,112,112,105,99,101,1])=false:=by rw [←hl];exact hq
   have hq7:¬((wN L.1).toList= [99,111,112,112,105,99,101,1]):=fun e=>by rw [beq_eq_false_iff_ne] at TW;exact TW e
   clear hq hq4 Xt;go_wp2_with (go_at_call 74;go_loud (refine(bf z _ v1 v2 _ _ _ 81 (0:Nat) w2 HB2).mono ?_);rintro e9 w9 ⟨rfl,gY,gZ⟩;have lD:=aa gY;have lF:=aa gZ;clear gY gZ)
   rw [HR.out]
   exact HBAD L.2.2 81 0 w2 _ w9 HI2.src (by rw [HF.out,if_neg (by simp),if_pos HHH.out]) bI ⟨rfl,lD,lF⟩
 ·have h1':(e1==0)=false:=by rw [beq_eq_false_iff_ne];exact h1
  have H1:=aa h1;go_wp2_with (go_at_call 74;go_loud (refine(bf z _ v1 v2 _ _ _ e1 (0:Nat) w2 HB2).mono ?_);rintro e9 w9 ⟨rfl,gY,gZ⟩;have lD:=aa gY;have lF:=aa gZ;clear gY gZ)
  rw [HR.out];exact HBAD L.2.2 e1 0 w2 _ w9 HI2.src (by rw [HF.out,if_pos H1.out]) bI ⟨rfl,lD,lF⟩
end
section
open Go.RowKit
end
section
open Go.RowKit
end
section
open Go.RowKit
section
variable {S:Nat→Prop} {w w':World} {F:Nat→Prop} {q:Nat} {s:Src} {bA gA:Option Addr} {bn bc gn gc p:Nat} {B:List UInt8} {n7 n8 n9 n10 n11:Value}
end
end
section
open Go.RowKit
end
section
open Go.RowKit
end
section
open Go.RowKit
end
section
open Go.RowKit
end
section
open Go.RowKit
end
section
open Go.RowKit
section
variable {b:List UInt8} {p i v:Nat} {c:UInt8}
end
end
section
open Go.RowKit
end
section
open Go.RowKit
end
section
open Go.RowKit
end
section
open Go.Lib (compareBytes)
end
section
open Go.RowKit
end
section
open Go.RowKit
end
section
open Go.RowKit
open Go.Lib (compareBytes)
section
variable {S Z Z':Nat→Prop} {w w':World} {base:Nat} {out:Value} {us:List Value} {l:List aH}
end
end
section
open Go.RowKit
open Go.Lib (compareBytes)
end
section
open Go.RowKit
end
section
open Go.RowKit
end
section
open Go.RowKit
open Go.Lib (compareBytes)
end
section
open Go.RowKit
open Go.Lib (compareBytes)
end
section
open Go.Proofs.Tryz
open Go.RowKit
theorem rC (z:Nat) (v0 v1 v2 v3:Value) (e a:Int) (w:World) (h:ai w z 150 #[v0,v1,v2,v3,.int .i64 e,.int .i64 a]):
  Calls prog 26 #[.pointer (some ⟨z,0,none⟩)] w fun en w'=>en= .returned (.tuple #[.int .i64 e,.int .i64 a])∧∃k,w'=w.drewN k:=by
 refine letter fun R HR=> ?_;have z4:w.cell? ⟨z,4,none⟩=some (.int .i64 e):=h.cell 4;have z5:w.cell? ⟨z,5,none⟩=some (.int .i64 a):=h.cell 5;clear h;go_enter func26,ntmps26
 go_upto_region 1 with fail
 go_quiet (fail);go_wp2;rw [HR.out];exact⟨rfl,nq,rfl⟩
theorem nN (p:Nat) (w:World):Calls prog 24 #[.iface 35 (.pointer (some ⟨p,0,none⟩))] w fun e w'=>∃z,e= .returned (.pointer (some ⟨z,0,none⟩))∧w.heap.size<z∧
  ai w' w.heap.size 194 #[.int .i64 0,.int .i64 0,.int .i64 0,.iface 35 (.pointer (some ⟨p,0,none⟩)),.int .i64 9223372036854775807,.int .u8 0,.bool false]∧
  ai w' z 150 #[.pointer (some ⟨w.heap.size,0,none⟩),.func (.func 46) #[.pointer (some ⟨z,0,none⟩)] #[],.slice none 0 0,.slice none 0 0,.int .i64 0,.int .i64 0]∧Below w.heap.size w w':=by
 obtain⟨R,hR⟩:∃R:Ending→World→Prop,R=fun e w'=>∃z,e= .returned (.pointer (some ⟨z,0,none⟩))∧w.heap.size<z∧
  ai w' w.heap.size 194 #[.int .i64 0,.int .i64 0,.int .i64 0,.iface 35 (.pointer (some ⟨p,0,none⟩)),.int .i64 9223372036854775807,.int .u8 0,.bool false]∧
  ai w' z 150 #[.pointer (some ⟨w.heap.size,0,none⟩),.func (.func 46) #[.pointer (some ⟨z,0,none⟩)] #[],.slice none 0 0,.slice none 0 0,.int .i64 0,.int .i64 0]∧Below w.heap.size w w':=⟨_,rfl⟩
 have HR:=aa hR;rw [←hR];clear hR;go_enter func24,ntmps24
 go_upto_region 4 with(go_at_call 45;go_loud (refine(Ho p w).mono ?_);rintro e w1 ⟨rfl,h1,h2⟩;have H1:=aa h1;have H2:=aa h2;clear h1 h2)
 obtain⟨z,hz⟩:∃z,z=w1.heap.size:=⟨_,rfl⟩;obtain⟨w2,hw2⟩:∃W,W=w1.alloc (.cells #[.pointer (some ⟨w.heap.size,0,none⟩),.nilFunc,.slice none 0 0,.slice none 0 0,.int .i64 0,.int .i64 0] 150):=⟨_,rfl⟩;have HB2:Hid (Below w1.heap.size w1 w2):=aa (by rw [hw2];exact(Below.refl _ _).alloc (Nat.le_refl _) _);have iH:Hid (ai w2 z 150 #[.pointer (some ⟨w.heap.size,0,none⟩),.nilFunc,.slice none 0 0,.slice none 0 0,.int .i64 0,.int .i64 0]):=aa (by rw [hw2,hz];exact ai.new _ _ _);have HZ:Hid (w.heap.size<z):=aa (by rw [hz];exact H1.lt);have HZ1:Hid (z=w1.heap.size):=aa hz;have y1:w2.cell? ⟨z,1,none⟩=some .nilFunc:=iH.out.cell 1;have yf:=iH.out.frozen 1;rw [←hw2,←hz];clear hw2 hz;go_wp2;rw [HR.out];refine⟨z,rfl,HZ,(H1.below HB2).far (p:=⟨z,1,none⟩) (Nat.ne_of_lt HZ) _,iH.set_ 1 _,?_⟩;exact(H2.out.trans (HB2.mono H2.size)).setCell (p:=⟨z,1,none⟩) (Nat.le_of_lt HZ) _
end
end Go.Proofs.YtbjgeidjmhialaaGreatDoor
