/- Part 34. -/
import Derived.Test.YtbjgeidjmhialaaGreatDoorLa33
namespace Go.Proofs.YtbjgeidjmhialaaGreatDoor
set_option maxRecDepth 100000
set_option maxHeartbeats 8000000
section
open Go.RowKit
section
variable (fill inn:Nat) (l:List aH)
def nL:Nat→Nat
 |0=>pn l.length fill
 |k+1=>pn (nL k) inn
def dL:Nat→Nat
 |0=>0
 |k+1=>dL k+nL fill inn l k
def hL:Nat→Nat→List UInt8
 |0=>iU fill l
 |k+1=>Cx inn (tu (dL fill inn l k) (nL fill inn l k) (hL k))
def sL:Nat→Nat→bB
 |0=>j6 fill l (nL fill inn l 0)
 |k+1=>iQ inn ((k:Int)+1) (tu (dL fill inn l k) (nL fill inn l k) (hL fill inn l k)) (dL fill inn l (k+1)) (nL fill inn l (k+1))
def flat:Nat→List bB
 |0=> []
 |k+1=>flat k++(List.range (nL fill inn l k)).map (sL fill inn l k)
end
section
variable {fill inn:Nat} {l:List aH}
theorem ma (k:Nat):(flat fill inn l k).length=dL fill inn l k:=by
 induction k with
 |zero=>rfl
 |succ k ih=>rw [flat,List.length_append,ih,List.length_map,List.length_range,dL]
theorem fG (hf:1≤fill) (hi:1≤inn) (k:Nat):1≤nL fill inn l k:=by
 cases k with
 |zero=>exact o6 _ _ hf
 |succ k=>exact o6 _ _ hi
theorem yF {j k:Nat} (h:j≤k):dL fill inn l j≤dL fill inn l k:=by
 induction k with
 |zero=>
  have:j=0:=by omega
  subst this;exact Nat.le_refl _
 |succ k ih=>
  rcases Nat.lt_or_ge k j with h2|h2
  ·have:j=k+1:=by omega
   subst this;exact Nat.le_refl _
  ·exact Nat.le_trans (ih h2) (by rw [dL];omega)
theorem O4 (k:Nat):∀j i,j<k→i<nL fill inn l j→(flat fill inn l k)[dL fill inn l j+i]? =some (sL fill inn l j i):=by
 induction k with
 |zero=>intro j i h;omega
 |succ k ih=>
  intro j i hj hi;rw [flat]
  rcases Nat.lt_or_ge j k with h|h
  ·have hm:dL fill inn l (j+1)≤dL fill inn l k:=yF h;rw [dL] at hm;rw [List.getElem?_append_left (by rw [ma];omega)]
   exact ih j i h hi
  ·have:j=k:=by omega
   subst this;rw [List.getElem?_append_right (by rw [ma];omega),ma,show dL fill inn l j+i-dL fill inn l j=i by omega,List.getElem?_map,List.getElem?_range hi];rfl
theorem LQ {nd:Int} (hf:1≤fill) (hi:1≤inn):∀(f k:Nat),(lv nd inn f (nL fill inn l k) (dL fill inn l k)).2=0→
  ∃L,k≤L∧L<k+f∧nL fill inn l L=1∧(∀j,k≤j→j<L→1<nL fill inn l j)∧CG inn f ((k:Int)+1) (flat fill inn l (k+1)) (tu (dL fill inn l k) (nL fill inn l k) (hL fill inn l k))=(flat fill inn l (L+1),tu (dL fill inn l L) (nL fill inn l L) (hL fill inn l L))∧
   (lv nd inn f (nL fill inn l k) (dL fill inn l k)).1=(dL fill inn l (L+1):Int)∧(dL fill inn l (L+1):Int)≤nd:=by
 intro f
 induction f with
 |zero=>intro k h;simp [lv] at h
 |succ f ih=>
  intro k h
  have hfl:¬nd-(dL fill inn l k:Int)<(nL fill inn l k:Int):=by
   intro hx;rw [jH hx] at h;simp at h
  have hp:=fG (l:=l) hf hi k
  by_cases h1:nL fill inn l k=1
  ·refine⟨k,Nat.le_refl _,by omega,h1,fun j h2 h3=>by omega,pZ (by rw [p8];omega),?_,?_⟩
   ·rw [uw hfl (by omega),dL]
    simp only [Int.natCast_add]
   ·rw [dL];omega
  ·have hlt:1<nL fill inn l k:=by omega
   rw [p9 hfl (by omega),←gK _ inn hi] at h⊢;have e:(dL fill inn l k:Int)+(nL fill inn l k:Int)=(dL fill inn l (k+1):Int):=by rw [dL];simp only [Int.natCast_add]
   rw [e] at h⊢;obtain⟨L,a,b,c,d,u,v,x⟩:=ih (k+1) h
   refine⟨L,by omega,by omega,c,fun j h2 h3=> ?_,?_,v,x⟩
   ·rcases Nat.lt_or_ge k j with h4|h4
    ·exact d j h4 h3
    ·have:j=k:=by omega
     subst this;exact hlt
   ·rw [←u,CG,if_pos (by rw [p8];exact hlt)];simp only [p8,ma];rfl
theorem nO {n m i:Nat} (hm:1≤m) (hn:1≤n):i<pn n m↔i*m<n:=by
 obtain⟨h1,h2⟩:=iA n m hm hn
 constructor
 ·intro h;have:(i+1)*m≤pn n m*m:=Nat.mul_le_mul_right m h;rw [Nat.add_mul] at this
  omega
 ·intro h
  rcases Nat.lt_or_ge i (pn n m) with h3|h3
  ·exact h3
  ·have:pn n m*m≤i*m:=Nat.mul_le_mul_right m h3;omega
theorem yG (m:Nat):pn 0 m=1:=by simp [pn,parts]
theorem vw (d M n s:Nat) (h:Nat→List UInt8):((tu d M h).drop s).take n=(List.range (min n (M-s))).map fun(j:Nat)=>((d:Int)+((s+j:Nat):Int)+1,h (s+j)):=by
 apply List.ext_getElem?;intro j;rw [List.getElem?_take,List.getElem?_map]
 by_cases hj:j<n
 ·rw [if_pos hj,List.getElem?_drop,tu,List.getElem?_map]
  by_cases hm:s+j<M
  ·rw [List.getElem?_range hm,List.getElem?_range (by omega)];rfl
  ·rw [List.getElem?_eq_none (by simpa using hm),List.getElem?_eq_none (by simp;omega)];rfl
 ·rw [if_neg hj,List.getElem?_eq_none (by simp;omega)];rfl
theorem D6 {α:Type} (f:Nat→α) (m:Nat) (d:α) (hm:1≤m):((List.range m).map f).getLastD d=f (m-1):=by
 obtain⟨m,rfl⟩:∃k,m=k+1:=⟨m-1,by omega⟩;rw [List.range_succ,List.map_append,List.map_singleton];simp
theorem D7 {α:Type} (f:Nat→α) (m:Nat):((List.range m).map f).dropLast=(List.range (m-1)).map f:=by
 cases m with
 |zero=>rfl
 |succ m=>rw [List.range_succ,List.map_append,List.map_singleton,List.dropLast_concat];rfl
def mK (inn M i:Nat):Nat:=min inn (M-i*inn)
theorem yH {M i:Nat} (hi:1≤inn) (hM:1≤M) (h:i<pn M inn):1≤mK inn M i:=by
 have:=(nO hi hM).1 h;unfold mK;omega
theorem mQ {k i:Nat} (hf:1≤fill) (hi:1≤inn) (h:i<nL fill inn l (k+1)):hL fill inn l (k+1) i=hL fill inn l k (i*inn+(mK inn (nL fill inn l k) i-1)):=by
 have hp:=yH hi (fG (l:=l) hf hi k) h;show Cx inn (tu _ _ _) i=_;unfold Cx gU;rw [vw];exact congrArg Prod.snd (D6 _ _ _ hp)
theorem kg (k i:Nat):(sL fill inn l (k+1) i).2.keys=(List.range (mK inn (nL fill inn l k) i-1)).map fun j=>hL fill inn l k (i*inn+j):=by
 show(gU inn (tu _ _ _) i).dropLast.map Prod.snd=_;unfold gU;rw [vw,D7,List.map_map];rfl
theorem mR (k i:Nat):(sL fill inn l (k+1) i).2.kids=(List.range (mK inn (nL fill inn l k) i)).map fun(j:Nat)=>(dL fill inn l k:Int)+((i*inn+j:Nat):Int)+1:=by
 show(gU inn (tu _ _ _) i).map Prod.fst=_;unfold gU;rw [vw,List.map_map];rfl
theorem mU (k i:Nat):(sL fill inn l k i).2.high=hL fill inn l k i:=by cases k<;>rfl
theorem rF (k i:Nat):(sL fill inn l k i).2.lev=(k:Int):=by cases k<;>rfl
theorem right_eq (k i:Nat):(sL fill inn l k i).2.right=if i+1<nL fill inn l k then(dL fill inn l k:Int)+(i:Int)+1+1 else 0:=by
 cases k with
 |zero=>show(if i+1<nL fill inn l 0 then(i:Int)+1+1 else 0)=_;simp only [dL];split<;>omega
 |succ k=>rfl
structure O5 (fill inn:Nat) (l:List aH) (k:Nat):Prop where
 some_:∀i,i+1<nL fill inn l k→1≤(hL fill inn l k i).length∧(hL fill inn l k i).length≤64
 none_:∀i,i+1=nL fill inn l k→hL fill inn l k i= []
 up:∀i j,i<j→j+1<nL fill inn l k→qA (hL fill inn l k i) (hL fill inn l k j)
theorem rG {M i:Nat} (hi:1≤inn) (hM:1≤M) (h:i<pn M inn):i*inn+(mK inn M i-1)+1=min ((i+1)*inn) M:=by
 have:=(nO hi hM).1 h;rw [Nat.add_mul];unfold mK;omega
theorem O5.step {k:Nat} (hf:1≤fill) (hi:1≤inn) (h:O5 fill inn l k):O5 fill inn l (k+1):=by
 have hM:=fG (l:=l) hf hi k;have e:nL fill inn l (k+1)=pn (nL fill inn l k) inn:=rfl;have q:∀i,i+1<nL fill inn l (k+1)→(i+1)*inn<nL fill inn l k:=fun i h=>(nO hi hM).1 (by rw [←e];exact h)
 refine⟨fun i hi'=> ?_,fun i hi'=> ?_,fun i j hij hj=> ?_⟩
 ·rw [mQ hf hi (by omega)];have h1:=rG (inn:=inn) hi hM (i:=i) (by rw [←e];omega);have h2:=q i hi'
  exact h.some_ _ (by omega)
 ·rw [mQ hf hi (by omega)];have h1:=rG (inn:=inn) hi hM (i:=i) (by rw [←e];omega);have h2:¬(i+1)*inn<nL fill inn l k:=fun hx=>by have:=(nO hi hM).2 hx;rw [←e] at this;omega
  exact h.none_ _ (by omega)
 ·rw [mQ hf hi (by omega),mQ hf hi (by omega)];have h1:=rG (inn:=inn) hi hM (i:=i) (by rw [←e];omega);have h2:=rG (inn:=inn) hi hM (i:=j) (by rw [←e];omega);have h3:=q i (by omega);have h4:=q j hj;have h5:(i+2)*inn≤(j+1)*inn:=Nat.mul_le_mul_right inn (by omega);have h6:(i+2)*inn=(i+1)*inn+inn:=by rw [show i+2=(i+1)+1 by omega,Nat.add_mul (i+1),Nat.one_mul]
  refine h.up _ _ (by omega) (by omega)
theorem mV (h:bu l):∀(d i:Nat),i+d+1<l.length→qA (l.getD i ([],[])).1 (l.getD (i+d+1) ([],[])).1:=by
 have one:∀i,i+1<l.length→qA (l.getD i ([],[])).1 (l.getD (i+1) ([],[])).1:=by
  intro i hi;have:=h (i+1) hi;unfold dQ at this
  split at this
  ·contradiction
  ·split at this
   ·simp at this
   ·rename_i h2;simp only [Nat.succ_pos,true_and,Nat.add_sub_cancel,Int.not_le] at h2;exact h2
 intro d
 induction d with
 |zero=>intro i hi;exact one i hi
 |succ d ih=>intro i hi;exact(ih i (by omega)).trans (one (i+d+1) (by omega))
theorem o7 (h:bu l) {i:Nat} (hi:i<l.length):1≤(l.getD i ([],[])).1.length∧(l.getD i ([],[])).1.length≤64∧(l.getD i ([],[])).2.length≤256:=by
 have:=h i hi;unfold dQ at this
 split at this
 ·contradiction
 ·rename_i h2;have h2:gT (l.getD i ([],[]))=0:=by simpa using h2
  unfold gT at h2
  split at h2
  ·assumption
  ·cases h2
theorem vz (h:bu l) (hf:1≤fill) {i:Nat} (hi:(i+1)*fill<l.length):
  qA (l.getD ((i+1)*fill-1) ([],[])).1 (iU fill l i)∧sw (iU fill l i) (l.getD ((i+1)*fill) ([],[])).1∧1≤(iU fill l i).length∧(iU fill l i).length≤64:=by
 have h1:1≤(i+1)*fill:=Nat.mul_pos (by omega) hf;have:=mV h 0 ((i+1)*fill-1) (by omega);rw [show(i+1)*fill-1+0+1=(i+1)*fill by omega] at this;have h2:=O6 this (o7 h hi).2.1;have e:iU fill l i=(nu (l.getD ((i+1)*fill-1) ([],[])).1 (l.getD ((i+1)*fill) ([],[])).1).1:=by unfold iU;rw [if_pos hi]
 rw [e];exact h2
theorem jI (hf:1≤fill) {i:Nat} (h:i+1<pn l.length fill):(i+1)*fill<l.length:=by
 rcases Nat.eq_zero_or_pos l.length with h0|h0
 ·rw [h0,yG] at h;omega
 ·exact(nO hf h0).1 h
theorem O7 (hf:1≤fill) {i:Nat} (h:¬i+1<pn l.length fill):¬(i+1)*fill<l.length:=by
 intro hx
 rcases Nat.eq_zero_or_pos l.length with h0|h0
 ·omega
 ·exact h ((nO hf h0).2 hx)
theorem O5.zero (h:bu l) (hf:1≤fill):O5 fill inn l 0:=by
 refine⟨fun i hi=> ?_,fun i hi=> ?_,fun i j hij hj=> ?_⟩
 ·exact(vz h hf (jI hf hi)).2.2
 ·show iU fill l i= [];unfold iU
  rw [if_neg (O7 hf (by show¬i+1<nL fill inn l 0;omega))]
 ·have h2:=vz h hf (jI hf (i:=i) (by show i+1<nL fill inn l 0;omega));have h3:=vz h hf (jI hf hj);have h5:(i+2)*fill≤(j+1)*fill:=Nat.mul_le_mul_right fill (by omega);have h6:(i+2)*fill=(i+1)*fill+fill:=by rw [show i+2=(i+1)+1 by omega,Nat.add_mul (i+1),Nat.one_mul]
  have h7:=jI hf hj;show qA (iU fill l i) (iU fill l j);refine sw.trans_lt h2.2.1 ?_;refine sw.trans_lt ?_ h3.1
  rcases Nat.lt_or_ge ((i+1)*fill) ((j+1)*fill-1) with h8|h8
  ·have:=mV h ((j+1)*fill-1-(i+1)*fill-1) ((i+1)*fill) (by omega);rw [show(i+1)*fill+((j+1)*fill-1-(i+1)*fill-1)+1=(j+1)*fill-1 by omega] at this
   exact this.le
  ·rw [show(j+1)*fill-1=(i+1)*fill by omega];exact sw.refl _
theorem hok (h:bu l) (hf:1≤fill) (hi:1≤inn) (k:Nat):O5 fill inn l k:=by
 induction k with
 |zero=>exact O5.zero h hf
 |succ k ih=>exact ih.step hf hi
end
end
section
open Go.RowKit
structure Fine (nd lf:Int) (inn:Nat) (x:Nd):Prop where
 lev0:0≤x.lev
 lev1:x.lev≤32
 right0:0≤x.right
 right1:x.right≤nd
 last:x.high= []↔x.right=0
 high:x.high.length≤64
 up:∀j a b,x.keys[j]? =some a→x.keys[j+1]? =some b→qA a b
 key:∀a∈x.keys,1≤a.length∧a.length≤64∧(x.high= []∨qA a x.high)
 leaf:x.lev=0→x.vals.length=x.keys.length∧(x.keys.length:Int)≤lf∧x.kids= []∧∀v∈x.vals,v.length≤256
 inner:x.lev≠0→x.vals= []∧x.kids.length=x.keys.length+1∧x.kids.length≤inn∧x.kids.Nodup∧∀k∈x.kids,1≤k∧k≤nd
def bQ (h:Nat→List UInt8) (i:Nat):List UInt8:=if i=0 then [] else h (i-1)
def KL (low:List UInt8) (x:Nd):Prop:=low≠ []→(∀a,x.keys[0]? =some a→sw low a)∧(x.high= []∨qA low x.high)
def dW (fill:Nat) (l:List aH) (i:Nat):List aH:=(l.drop (i*fill)).take fill
section
variable {fill inn:Nat} {l:List aH}
theorem gz (i:Nat):(sL fill inn l 0 i).2.keys=(dW fill l i).map Prod.fst:=rfl
theorem rO (i:Nat):(sL fill inn l 0 i).2.vals=(dW fill l i).map Prod.snd:=rfl
theorem rT (i:Nat):(dW fill l i).length=min fill (l.length-i*fill):=by simp [dW]
theorem qi (i j:Nat):(dW fill l i)[j]? =if j<fill then l[i*fill+j]? else none:=by
 unfold dW;rw [List.getElem?_take];split
 ·rw [List.getElem?_drop]
 ·rfl
theorem getD_some {i:Nat} {e:aH} (h:l[i]? =some e):l.getD i ([],[])=e∧i<l.length:=⟨by simp [List.getD,h],(List.getElem?_eq_some_iff.1 h).1⟩
theorem CY (m:Nat):(List.range m).flatMap (dW fill l)=l.take (m*fill):=by
 induction m with
 |zero=>simp
 |succ m ih=>
  rw [List.range_succ,List.flatMap_append,ih,List.flatMap_singleton,dW,Nat.add_mul,Nat.one_mul,List.take_add]
theorem J2 (hf:1≤fill):l.length≤nL fill inn l 0*fill:=by
 rcases Nat.eq_zero_or_pos l.length with h|h
 ·omega
 ·exact(iA l.length fill hf h).1
theorem pJ (hf:1≤fill):(List.range (nL fill inn l 0)).flatMap (dW fill l)=l:=by
 rw [CY,List.take_of_length_le (J2 hf)]
theorem qj {k:Nat} (h:O5 fill inn l k) {i:Nat} (hi:i<nL fill inn l k):hL fill inn l k i= []↔¬i+1<nL fill inn l k:=by
 constructor
 ·intro e hx;have:=h.some_ i hx;rw [e] at this
  simp at this
 ·intro hx;exact h.none_ i (by omega)
theorem SY {k:Nat} (h:O5 fill inn l k) {i:Nat} (hi:i<nL fill inn l k):(hL fill inn l k i).length≤64:=by
 by_cases hx:i+1<nL fill inn l k
 ·exact(h.some_ i hx).2
 ·rw [(qj h hi).2 hx];simp
theorem vZ (hf:1≤fill) (hi:1≤inn) {k i:Nat} (h:i<nL fill inn l (k+1)):bQ (hL fill inn l (k+1)) i=bQ (hL fill inn l k) (i*inn):=by
 unfold bQ
 rcases Nat.eq_zero_or_pos i with h0|h0
 ·subst h0;simp
 ·have hm:1≤i*inn:=Nat.mul_pos h0 hi;rw [if_neg (by omega),if_neg (by omega),mQ hf hi (by omega)];have hM:=fG (l:=l) hf hi k;have h1:=rG (inn:=inn) hi hM (i:=i-1) (by show i-1<nL fill inn l (k+1);omega);have h2:=(nO hi hM).1 (show i<pn (nL fill inn l k) inn from h);rw [show i-1+1=i by omega] at h1;congr 1
  omega
theorem yJ (hf:1≤fill) (hi:1≤inn) {k i j:Nat} (h:i<nL fill inn l (k+1)) (hj:j<mK inn (nL fill inn l k) i):
  (sL fill inn l (k+1) i).2.kids[j]? =some ((dL fill inn l k:Int)+((i*inn+j:Nat):Int)+1)∧i*inn+j<nL fill inn l k∧(j≠0→(sL fill inn l (k+1) i).2.keys[j-1]? =some (bQ (hL fill inn l k) (i*inn+j)))∧(j=0→bQ (hL fill inn l (k+1)) i=bQ (hL fill inn l k) (i*inn+j)):=by
 refine⟨?_,by unfold mK at hj;omega,fun h0=> ?_,fun h0=> ?_⟩
 ·rw [mR,List.getElem?_map,List.getElem?_range hj];rfl
 ·rw [kg,List.getElem?_map,List.getElem?_range (by omega)];unfold bQ;rw [if_neg (by omega),show i*inn+j-1=i*inn+(j-1) by omega]
  rfl
 ·subst h0;exact vZ hf hi h
theorem gL (k i:Nat):(sL fill inn l (k+1) i).2.kids.length=mK inn (nL fill inn l k) i:=by rw [mR];simp
theorem My (hr:bu l) (hf:1≤fill) (hi:1≤inn) {k i:Nat} (h:i<nL fill inn l k):KL (bQ (hL fill inn l k) i) (sL fill inn l k i).2:=by
 intro hne;have H:=hok (inn:=inn) hr hf hi k;have h0:i≠0:=fun e=>hne (by simp [bQ,e]);have el:bQ (hL fill inn l k) i=hL fill inn l k (i-1):=by simp [bQ,h0]
 refine⟨fun a ha=> ?_,?_⟩
 ·cases k with
  |zero=>
   rw [el];have hs:=(vz hr hf (jI hf (i:=i-1) (by show i-1+1<nL fill inn l 0;omega))).2.1;rw [show i-1+1=i by omega] at hs;rw [gz,List.getElem?_map,qi,if_pos (by omega),Nat.add_zero] at ha;obtain⟨e,he,rfl⟩:=Option.map_eq_some_iff.1 ha;rw [←(getD_some he).1]
   exact hs
  |succ k=>
   rw [vZ hf hi h];have hk:=(kg (fill:=fill) (inn:=inn) (l:=l) k i);rw [hk,List.getElem?_map] at ha;obtain⟨j,hj,rfl⟩:=Option.map_eq_some_iff.1 ha
   have hj0:j=0∧0<mK inn (nL fill inn l k) i-1:=by
    have hlt:=(List.getElem?_eq_some_iff.1 hj).1;rw [List.length_range] at hlt;rw [List.getElem?_range hlt] at hj;injection hj with hj
    exact⟨hj.symm,hlt⟩
   obtain⟨rfl,hm⟩:=hj0;have hm1:1≤i*inn:=Nat.mul_pos (by omega) hi;unfold bQ;rw [if_neg (by omega)];refine((hok (inn:=inn) hr hf hi k).up _ _ (by omega) ?_).le;unfold mK at hm
   omega
 ·rw [mU,el]
  by_cases hl:i+1<nL fill inn l k
  ·exact .inr (H.up _ _ (by omega) hl)
  ·exact .inl ((qj H h).2 hl)
theorem yU (k:Nat):dL fill inn l (k+1)=dL fill inn l k+nL fill inn l k:=rfl
theorem FK (hr:bu l) (hf:1≤fill) (hi:1≤inn) {nd lf:Int} (hlf:(fill:Int)≤lf) {k i:Nat} (hk:k≤32) (hd:(dL fill inn l (k+1):Int)≤nd) (h:i<nL fill inn l k):Fine nd lf inn (sL fill inn l k i).2:=by
 have H:=hok (inn:=inn) hr hf hi k;have hds:=yU (fill:=fill) (inn:=inn) (l:=l) k
 refine⟨by rw [rF];omega,by rw [rF];omega,by rw [right_eq];split<;>omega,by rw [right_eq];split<;>omega,?_,by rw [mU];exact SY H h,?_,?_,?_,?_⟩
 ·rw [mU,qj H h,right_eq]
  split
  ·rename_i hx;simp only [hx,not_true,false_iff];omega
  ·rename_i hx;simp [hx]
 ·intro j a b ha hb
  cases k with
  |zero=>
   rw [gz,List.getElem?_map,qi] at ha hb;obtain⟨e,he,rfl⟩:=Option.map_eq_some_iff.1 ha;obtain⟨e',he',rfl⟩:=Option.map_eq_some_iff.1 hb
   split at he
   ·split at he'
    ·have q1:=getD_some he;have q2:=getD_some he';rw [←q1.1,←q2.1]
     exact mV hr 0 _ q2.2
    ·cases he'
   ·cases he
  |succ k=>
   rw [kg,List.getElem?_map] at ha hb;obtain⟨c,hc,rfl⟩:=Option.map_eq_some_iff.1 ha;obtain⟨d,hd',rfl⟩:=Option.map_eq_some_iff.1 hb;have l1:=(List.getElem?_eq_some_iff.1 hc).1;have l2:=(List.getElem?_eq_some_iff.1 hd').1;rw [List.length_range] at l1 l2;rw [List.getElem?_range l1] at hc;rw [List.getElem?_range l2] at hd';injection hc with hc
   injection hd' with hd'
   subst hc hd';refine(hok (inn:=inn) hr hf hi k).up _ _ (by omega) ?_;unfold mK at l2
   omega
 ·intro a ha;rw [mU]
  cases k with
  |zero=>
   rw [gz] at ha;obtain⟨e,he,rfl⟩:=List.mem_map.1 ha;obtain⟨j,hj,rfl⟩:=List.mem_iff_getElem.1 he;have hj':(dW fill l i)[j]? =some ((dW fill l i)[j]):=List.getElem?_eq_getElem hj;rw [qi] at hj'
   split at hj'
   ·have q:=getD_some hj';have ql:=o7 hr q.2;rw [q.1] at ql;refine⟨ql.1,ql.2.1,?_⟩
    by_cases hl:i+1<nL fill inn l 0
    ·refine .inr ?_;have hs:=(vz hr hf (jI hf hl)).1;have hlt:=jI hf hl;rw [←q.1];have em:(i+1)*fill=i*fill+fill:=by rw [Nat.add_mul,Nat.one_mul]
     rcases Nat.lt_or_ge (i*fill+j) ((i+1)*fill-1) with h8|h8
     ·have:=mV hr ((i+1)*fill-1-(i*fill+j)-1) (i*fill+j) (by omega);rw [show i*fill+j+((i+1)*fill-1-(i*fill+j)-1)+1=(i+1)*fill-1 by omega] at this
      exact this.trans hs
     ·rw [show i*fill+j=(i+1)*fill-1 by omega]
      exact hs
    ·exact .inl ((qj H h).2 hl)
   ·cases hj'
  |succ k=>
   have HK:=hok (inn:=inn) hr hf hi k;rw [kg] at ha;obtain⟨j,hj,rfl⟩:=List.mem_map.1 ha;have hj:j<mK inn (nL fill inn l k) i-1:=by simpa using hj
   have hmM:i*inn+j+1<nL fill inn l k:=by unfold mK at hj;omega
   have hs:=HK.some_ _ hmM;refine⟨hs.1,hs.2,?_⟩
   by_cases hl:i+1<nL fill inn l (k+1)
   ·refine .inr ?_;rw [mQ hf hi h];have h1:=rG (inn:=inn) hi (fG (l:=l) hf hi k) h;have h2:=(nO hi (fG (l:=l) hf hi k)).1 (show i+1<pn (nL fill inn l k) inn from hl)
    exact HK.up _ _ (by omega) (by omega)
   ·exact .inl ((qj H h).2 hl)
 ·intro h0;have hk0:k=0:=by rw [rF] at h0;omega
  subst hk0
  refine⟨by rw [gz,rO,List.length_map,List.length_map],?_,rfl,fun v hv=> ?_⟩
  ·rw [gz,List.length_map,rT];omega
  ·rw [rO] at hv;obtain⟨e,he,rfl⟩:=List.mem_map.1 hv;obtain⟨j,hj,rfl⟩:=List.mem_iff_getElem.1 he;have hj':(dW fill l i)[j]? =some ((dW fill l i)[j]):=List.getElem?_eq_getElem hj;rw [qi] at hj'
   split at hj'
   ·have q:=getD_some hj';have ql:=o7 hr q.2;rw [q.1] at ql
    exact ql.2.2
   ·cases hj'
 ·intro h0
  cases k with
  |zero=>exact absurd (rF 0 i) h0
  |succ k=>
   have hp:=yH (inn:=inn) hi (fG (l:=l) hf hi k) h
   refine⟨rfl,by rw [gL,kg,List.length_map,List.length_range];omega,by rw [gL];unfold mK;omega,?_,?_⟩
   ·rw [mR]
    refine List.Pairwise.map _ (R:=(·≠·)) (fun a b hab=>by omega) List.nodup_range
   ·intro x hx;rw [mR] at hx;obtain⟨j,hj,rfl⟩:=List.mem_map.1 hx;have hj:j<mK inn (nL fill inn l k) i:=by simpa using hj
    have hk2:=yU (fill:=fill) (inn:=inn) (l:=l) k;unfold mK at hj;omega
theorem Ck (hf:1≤fill) {i:Nat} (h:i<nL fill inn l 0):(dW fill l i).length≤fill∧(i+1<nL fill inn l 0→(dW fill l i).length=fill)∧(1<nL fill inn l 0→1≤(dW fill l i).length):=by
 rw [rT]
 refine⟨by omega,fun hl=> ?_,fun hl=> ?_⟩
 ·have:=jI hf hl;rw [Nat.add_mul] at this
  omega
 ·have h0:1≤l.length:=by
   rcases Nat.eq_zero_or_pos l.length with h0|h0
   ·have e:nL fill inn l 0=pn l.length fill:=rfl
    rw [e,h0,yG] at hl;omega
   ·exact h0
  have:=(nO hf h0).1 (show i<pn l.length fill from h);omega
theorem yV (hf:1≤fill) (hi:1≤inn) {k i:Nat} (h:i+1<nL fill inn l (k+1)):mK inn (nL fill inn l k) i=inn:=by
 have:=(nO hi (fG (l:=l) hf hi k)).1 (show i+1<pn (nL fill inn l k) inn from h);rw [Nat.add_mul] at this;unfold mK;omega
theorem M0 (M m:Nat):((List.range m).map (mK inn M)).sum=min (m*inn) M:=by
 induction m with
 |zero=>simp
 |succ m ih=>
  rw [List.range_succ,List.map_append,List.sum_append,ih,List.map_singleton,List.sum_singleton,Nat.add_mul];unfold mK;omega
theorem M3 (hf:1≤fill) (hi:1≤inn) (k:Nat):((List.range (nL fill inn l (k+1))).map (mK inn (nL fill inn l k))).sum=nL fill inn l k:=by
 rw [M0];have:=(iA (nL fill inn l k) inn hi (fG (l:=l) hf hi k)).1;exact Nat.min_eq_right this
theorem zN (m:Nat):((List.range m).map fun i=>(dW fill l i).length).sum=min (m*fill) l.length:=by
 induction m with
 |zero=>simp
 |succ m ih=>
  rw [List.range_succ,List.map_append,List.sum_append,ih,List.map_singleton,List.sum_singleton,Nat.add_mul,rT];omega
theorem vI {nd lf bl:Int} (hc:aY nd lf inn fill bl) (hf:(aS nd lf inn fill bl l.length).2=0):
  ∃L,L≤31∧nL fill inn l L=1∧(∀j,j<L→1<nL fill inn l j)∧(aO fill inn l).2=(dL fill inn l L:Int)+1∧(aO fill inn l).1.length=dL fill inn l (L+1)∧(aS nd lf inn fill bl l.length).1=(dL fill inn l (L+1):Int)∧(dL fill inn l (L+1):Int)≤nd∧
   ∀k i,k≤L→i<nL fill inn l k→∃s,(aO fill inn l).1[dL fill inn l k+i]? =some s∧s.2=(sL fill inn l k i).2:=by
 rw [gq hc (by omega)] at hf⊢;obtain⟨c1,c2,c3,c4,c5,c6,c7,c8,c9,c10⟩:=hc;have h1:1≤fill:=by omega
 have h2:1≤inn:=by omega
 rw [←gK _ _ h1] at hf⊢;have e0:((pn l.length fill:Nat):Int)=(nL fill inn l 0:Int):=rfl;have e1:(0:Int)=(dL fill inn l 0:Int):=rfl;rw [e0,e1] at hf⊢;obtain⟨L,a,b,c,d,u,v,x⟩:=LQ (nd:=nd) h1 h2 32 0 hf;refine⟨L,by omega,c,fun j hj=>d j (by omega) hj,?_⟩
 by_cases hl:l= []
 ·subst hl;have hn0:nL fill inn ([]:List aH) 0=1:=yG fill
  have hL0:L=0:=by
   rcases Nat.eq_zero_or_pos L with h|h
   ·exact h
   ·have:=d 0 (by omega) h;omega
  subst hL0;rw [uH]
  refine⟨rfl,?_,v,x,fun k i hk hi=> ?_⟩
  ·rw [yU,hn0];rfl
  ·have hk0:k=0:=by omega
   subst hk0;rw [hn0] at hi;have hi0:i=0:=by omega
   subst hi0;refine⟨_,rfl,?_⟩;show Nd.zero=(j6 fill [] (nL fill inn [] 0) 0).2;rw [hn0]
   simp [j6,iU,Nd.zero]
 ·have e3:CG inn 32 1 (jo fill l) (kr fill l)=(flat fill inn l (L+1),tu (dL fill inn l L) (nL fill inn l L) (hL fill inn l L)):=u;rw [mq hl,e3];refine⟨?_,ma _,v,x,fun k i hk hi=>⟨_,O4 (L+1) k i (by omega) hi,rfl⟩⟩;show((tu (dL fill inn l L) (nL fill inn l L) (hL fill inn l L)).headD (0,[])).1=_;rw [c,tu];simp
end
end
section
open Go.Proofs.Tryz
open Go.RowKit Go.Maps
open Go.Lib (compareBytes)
section
variable (F:Nat→Prop) (x:Nd) (hA kA vA dA:Option Addr) (hn hc kn kc vn vc dn dc:Nat) (nd lf fl bl:Int) (inn:Nat) (w:World)
theorem yK (h:ni w F x hA kA vA dA hn hc kn kc vn vc dn dc) (hf:Fine nd lf inn x) (h0:x.lev=0) (hs:x.keys.length≤1000):
  Calls prog 111 #[.agg #[.int .i64 x.lev,.slice hA hn hc,.int .i64 x.right,.slice kA kn kc,.slice vA vn vc,.slice dA dn dc],.agg #[.int .i64 nd,.int .i64 lf,.int .i64 inn,.int .i64 fl,.int .i64 bl]] w fun e w'=>e= .returned (.bool true)∧Below w.heap.size w w':=by
 obtain⟨e1,e2,e3,e4⟩:=hf.leaf h0;have hvk:vn=kn:=by rw [h.v.len,h.k.len,e1]
 have hd0:dn=0:=by rw [h.d.len,e3];rfl
 have hkl:(kn:Int)≤lf:=by rw [h.k.len];exact e2
 have Z6:vn≤1152921504606:=by have:=h.k.len;omega
 subst hvk hd0;have HV:=aa h.v;have H4:=aa e4;clear h hf h0 hs e1 e2 e3 e4;go_enter func111,ntmps111
 go_wp2_with (go_at_call 107;go_loud (refine(BS #[] F vA vn vc x.vals _ (HV.below (((Below.refl _ _).alloc (Nat.le_refl _) _).alloc (by simp) _)) Z6 (fun W Ak nk ck t hb ht hbt=>Sj Ak nk ck W (by have:=H4.out t ht;have:=hbt.len;omega))).mono ?_);rintro e w1 ⟨rfl,hb1⟩;have HB1:=aa ((((Below.refl _ _).alloc (Nat.le_refl _) _).alloc (by simp) _).trans (hb1.mono (by simp;omega)));have z3:w1.cell? ⟨w.heap.size,3,none⟩=some (.slice kA vn kc):=ak hb1 (by simp);have z4:w1.cell? ⟨w.heap.size,4,none⟩=some (.slice vA vn vc):=ak hb1 (by simp);have z5:w1.cell? ⟨w.heap.size,5,none⟩=some (.slice dA 0 dc):=ak hb1 (by simp);have y1:w1.cell? ⟨w.heap.size+1,1,none⟩=some (.int .i64 lf):=ak hb1 (by simp);clear hb1)
 go_ret
 exact⟨rfl,HB1⟩
theorem MH {ks:List Int} (h:ks.Nodup) {i:Nat} {k:Int} (hk:ks[i]? =some k):k∉ks.take i:=by
 intro hm;obtain⟨j,hj,e⟩:=List.mem_iff_getElem.1 hm;have hj':j<i:=by rw [List.length_take] at hj;omega
 have hi:=(List.getElem?_eq_some_iff.1 hk);obtain⟨hil,hik⟩:=hi;rw [List.getElem_take] at e;have:=(List.getElem_inj (h₀:=by omega) (h₁:=hil) h).1 (e.trans hik.symm);omega
theorem wQ (h:ni w F x hA kA vA dA hn hc kn kc vn vc dn dc) (hf:Fine nd lf inn x) (h0:x.lev≠0) (hi:inn≤64) (hnd:nd≤65536):
  Calls prog 110 #[.agg #[.int .i64 x.lev,.slice hA hn hc,.int .i64 x.right,.slice kA kn kc,.slice vA vn vc,.slice dA dn dc],.agg #[.int .i64 nd,.int .i64 lf,.int .i64 inn,.int .i64 fl,.int .i64 bl]] w fun e w'=>e= .returned (.bool true)∧Below w.heap.size w w':=by
 obtain⟨e1,e2,e3,e4,e5⟩:=hf.inner h0;have hv0:vn=0:=by rw [h.v.len,e1];rfl
 have hd1:dn=kn+1:=by rw [h.d.len,h.k.len,e2]
 have hdi:(dn:Int)≤(inn:Int):=by rw [h.d.len];omega
 have hdn:dn≤64:=by omega
 have hkw:=IntWalk.i64_in ((kn:Int)+1) (by omega);have hde:((dn:Int)==(kn:Int)+1)=true:=by rw [hd1];simp
 subst hv0;have HD:=aa h.d;have NA:=aa h.d.len;have HND:=aa e4;have HK:=aa e5;have hmm:= @run_makeMap prog;clear h hf h0 hi e1 e2 e3 e4 e5 hd1;go_enter func110,ntmps110
 go_wp2
 go_loopg [13] dn (fun g' iv wr=>∃i:Nat,g'=dn-i∧i≤dn∧iv= .int .i64 i∧ai wr w.heap.size 104 #[.int .i64 x.lev,.slice hA hn hc,.int .i64 x.right,.slice kA kn kc,.slice vA 0 vc,.slice dA dn dc]∧ai wr (w.heap.size+1) 23 #[.int .i64 nd,.int .i64 lf,.int .i64 inn,.int .i64 fl,.int .i64 bl]∧
  bF wr (w.heap.size+1+1) i (fun k=>if k∈x.kids.take i then 1 else 0)∧Below w.heap.size w wr)
 case atStart=>
  have e:(fun k=>if k∈x.kids.take 0 then(1:Int) else 0)=fun _=>0:=by funext k;simp
  refine⟨0,by omega,by omega,rfl,((ai.new w _ _).alloc _).alloc _,?_,?_,(((Below.refl _ _).alloc (Nat.le_refl _) _).alloc (by simp) _).alloc (by simp;omega) _⟩
  ·have:=(ai.new (w.alloc (.cells #[.int .i64 x.lev,.slice hA hn hc,.int .i64 x.right,.slice kA kn kc,.slice vA 0 vc,.slice dA dn dc] 104)) 23 #[.int .i64 nd,.int .i64 lf,.int .i64 inn,.int .i64 fl,.int .i64 bl]).alloc (.map #[] 0)
   simpa using this
  ·rw [e];have:=bF.made ((w.alloc (.cells #[.int .i64 x.lev,.slice hA hn hc,.int .i64 x.right,.slice kA kn kc,.slice vA 0 vc,.slice dA dn dc] 104)).alloc (.cells #[.int .i64 nd,.int .i64 lf,.int .i64 inn,.int .i64 fl,.int .i64 bl] 23))
   simpa using this
 case round=>
  obtain⟨i,hg,hi,rfl,hb1,hb2,hm,hb⟩:=hrel;have HG:=aa hg;have HB:=aa hb;have HB1:=aa hb1;have HB2:=aa hb2;have HM:=aa hm
  rename World=>wr
  clear hg hb hb1 hb2 hm
  by_cases hlt:i<dn
  ·have hlt':(i:Int)<(dn:Int):=by omega
   obtain⟨b,o,kid,rfl,hF,he,c1'⟩:=HD.out.at_ (k:=i) hlt;have c1:=ak HB c1';have HE:=aa he;obtain⟨k1,k2⟩:=HK.out kid (List.mem_of_getElem? he);have hno:=MH HND.out he
   have hl1:(Instr.lookup 107 (.map (some (w.heap.size+1+1))) (.int .i64 kid) false).run prog wr= .ok (.int .i64 0) wr:=by
    have:(Instr.lookup 107 (.map (some (w.heap.size+1+1))) (.int .i64 kid) false).run prog wr= .ok (.int .i64 (if kid∈x.kids.take i then(1:Int) else 0)) wr:=HM.out.look (by omega) (by omega);rw [if_neg hno] at this;exact this
   obtain⟨y0,y1,y2,y3,y4⟩:=fK HB2;have hd:decide ((1:Int)≤kid∧kid≤nd)=true:=decide_eq_true ⟨k1,k2⟩;clear c1' he hF;go_wp2_with (first|(at_mapUpdate;go_loud (refine dw rfl _ _ _ rfl rfl HM (by unfold maxLen;omega) kid 1 rfl rfl (by omega) (by omega) (by omega) (by omega) ?_);intro w1 hm1 hc1;have Oj:=aa hm1;have ib:=aa hc1;have y10:=hc1.cell (show¬jK (w.heap.size+1+1) (w.heap.size+1) from fun h=>by have h:w.heap.size+1=w.heap.size+1+1:=h;omega) y0;have hl2:(Instr.lookup 107 (.map (some (w.heap.size+1+1))) (.int .i64 kid) false).run prog w1= .ok (.int .i64 1) w1:=(by have:(Instr.lookup 107 (.map (some (w.heap.size+1+1))) (.int .i64 kid) false).run prog w1= .ok (.int .i64 (if kid=kid then(1:Int) else(if kid∈x.kids.take i then(1:Int) else 0))) w1:=Oj.out.look (by omega) (by omega);rw [if_pos rfl] at this;exact this);clear hm1 hc1)|(go_at_call 76;refine(fI _ _ _ _).mono ?_;rintro e w' ⟨rfl,rfl⟩;rw [hd]))
   go_roundg (dn-(i+1))
   case measure=>have:=HG.out;omega
   case rel=>
    have hsz:=HB.out.size;refine⟨i+1,rfl,by omega,by go_num,HB1.chg ib (fun h=>by have h:w.heap.size=w.heap.size+1+1:=h;omega),HB2.chg ib (fun h=>by have h:w.heap.size+1=w.heap.size+1+1:=h;omega),?_,HB.out.trans (ib.below_of hsz (fun b hb h=>by have h:b=w.heap.size+1+1:=h;omega))⟩
    have e:(fun j=>if j=kid then(1:Int) else(if j∈x.kids.take i then(1:Int) else 0))=fun j=>if j∈x.kids.take (i+1) then(1:Int) else 0:=by
     funext j
     have ht:x.kids.take (i+1)=x.kids.take i++ [kid]:=by rw [List.take_add_one,HE.out];rfl
     rw [ht];by_cases hj:j=kid<;>simp [hj]
    have h2:bF w1 (w.heap.size+1+1) (i+1) (fun j=>if j=kid then(1:Int) else(if j∈x.kids.take i then(1:Int) else 0)):=Oj.out;rw [e] at h2
    exact h2
  ·have hlt':¬(i:Int)<(dn:Int):=by omega
   obtain⟨z0,z1,z2,z3,z4,z5⟩:=ed HB1;obtain⟨y0,y1,y2,y3,y4⟩:=fK HB2;go_wp2;go_ret
   exact⟨rfl,HB⟩
end
end
end Go.Proofs.YtbjgeidjmhialaaGreatDoor
