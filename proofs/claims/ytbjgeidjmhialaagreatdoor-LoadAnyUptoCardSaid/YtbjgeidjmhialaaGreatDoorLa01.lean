/- Part 1. -/
import Derived.Below
import Derived.Calls
import Derived.RowKit
import Derived.KernelRfl
import Derived.Laws.OwnMore
import Derived.Deep.AppendLies
import Derived.Deep.Draws
import Derived.WalkSmall
import Derived.OwnWalk
import Derived.Lib.Bytealg
import Derived.WalkKit
import Derived.WalkLawsBesides
import Derived.WalkSpells
import Derived.Test.YtbjgeidjmhialaaGreatDoorChecked
import Derived.Lib.Hide
import Derived.Outline
import Derived.Deep.QuietTactic
import Derived.Tactics
import Derived.Laws.MakeOwn
import Derived.Laws.Entries
import Derived.LaidEqlPtr
import Derived.ChangeSame
namespace Go.Proofs.YtbjgeidjmhialaaGreatDoor
set_option maxRecDepth 100000
set_option maxHeartbeats 8000000
section
open Go.RowKit
theorem aa {p : Prop} (h : p) : Hid p := h
theorem letter {P : Program} {f : FuncId} {args : Array Value} {w : World} {Q : Ending → World → Prop} (h : ∀ R, Hid (R = Q) → Calls P f args w R) : Calls P f args w Q := h Q rfl
end
section
open Go.RowKit
structure ag (S:Nat→Prop) (w w':World):Prop where
 os:w'.os=w.os
 tape:w'.tape=w.tape
 output:w'.output=w.output
 size:w.heap.size≤w'.heap.size
 block:∀k,k<w.heap.size→¬S k→w'.heap[k]? =w.heap[k]?
def Nil:Nat→Prop:=fun _=>False
def From (b:Nat):Nat→Prop:=fun k=>b≤k
def jK (b:Nat):Nat→Prop:=fun k=>k=b
section
variable {S T F G:Nat→Prop} {a w w' w1:World}
theorem ag.refl (S:Nat→Prop) (w:World):ag S w w:=⟨rfl,rfl,rfl,Nat.le_refl _,fun _ _ _=>rfl⟩
theorem ag.trans (h:ag S a w) (k:ag T w w') (hT:∀b,b<a.heap.size→T b→S b):ag S a w':=
 ⟨k.os.trans h.os,k.tape.trans h.tape,k.output.trans h.output,Nat.le_trans h.size k.size,fun i hi hs=>
  (k.block i (Nat.lt_of_lt_of_le hi h.size) (fun ht=>hs (hT i hi ht))).trans (h.block i hi hs)⟩
theorem ag.mono (h:ag S w w') (hT:∀b,b<w.heap.size→S b→T b):ag T w w':=
 ⟨h.os,h.tape,h.output,h.size,fun i hi hs=>h.block i hi (fun ht=>hs (hT i hi ht))⟩
theorem ag.of_below (h:Below w.heap.size w w'):ag S w w':=⟨h.os,h.tape,h.output,h.size,fun k hk _=>h.block k hk⟩
theorem ag.below_of {B:Nat} (h:ag S w w') (hB:B≤w.heap.size) (hS:∀b,b<B→¬S b):Below B w w':=
 ⟨h.os,h.tape,h.output,h.size,fun k hk=>h.block k (Nat.lt_of_lt_of_le hk hB) (hS k hk)⟩
theorem ag.of_below_ {B:Nat} (h:Below B w w') (hS:∀b,b<w.heap.size→B≤b→S b):ag S w w':=
 ⟨h.os,h.tape,h.output,h.size,fun k hk hs=>h.block k (by rcases Nat.lt_or_ge k B with h1|h1;exact h1;exact absurd (hS k hk h1) hs)⟩
theorem ag.then (h:ag S a w) (k:Below w.heap.size w w'):ag S a w':=h.trans (ag.of_below (S:=Nil) k) (fun _ _ hf=>hf.elim)
theorem ag.drew (h:ag S a w):ag S a w.drew:=⟨h.os,h.tape,h.output,h.size,h.block⟩
theorem ag.drewN (h:ag S a w) (n:Nat):ag S a (w.drewN n):=⟨h.os,h.tape,h.output,h.size,h.block⟩
theorem ag.alloc (h:ag S a w) (o:Obj):ag S a (w.alloc o):=h.then ((Below.refl _ _).alloc (Nat.le_refl _) _)
theorem ag.setCell (h:ag S a w) {p:Addr} (hp:p.block<a.heap.size→S p.block) (u:Value):ag S a (w.setCell p u):=
 h.trans (T:=jK p.block) ⟨rfl,rfl,rfl,by simp [World.setCell],fun k _ hk=>Below.heap_setCell _ _ _ _ (fun e=>hk e)⟩ (fun b hb e=>by have e:b=p.block:=e;subst e;exact hp hb)
theorem ag.set1 (w:World) (b o:Nat) (u:Value):ag (jK b) w (w.setCell ⟨b,o,none⟩ u):=(ag.refl (jK b) w).setCell (p:=⟨b,o,none⟩) (fun _=>rfl) u
theorem ag.grown {row:Option Nat} (h:ag S a w) (hg:w.grownBy w' row) (hr:∀k,row=some k→k<a.heap.size→S k):ag S a w':=
 h.trans (T:=fun k=>row=some k) ⟨hg.os,hg.tape,hg.output,hg.size,fun k hk hs=>hg.block k hk (fun e=>hs e.symm)⟩ (fun b hb e=>hr b e hb)
theorem mF {o:Nat} {b:Nat} {v:Value} (h:w.cell? ⟨b,o,none⟩=some v):b<w.heap.size:=by
 by_cases hlt:b<w.heap.size
 ·exact hlt
 ·simp [World.cell?,Array.getElem?_eq_none (show w.heap.size≤b by omega)] at h
theorem ag.cell (h:ag S w w') {b o:Nat} {v:Value} (hs:¬S b) (hv:w.cell? ⟨b,o,none⟩=some v):w'.cell? ⟨b,o,none⟩=some v:=
 (World.cell?_of_block (w:=w) (a:=⟨b,o,none⟩) (h.block b (mF hv) hs)).trans hv
theorem sJ {B:Nat} (hb:Below B w w1) {b o:Nat} (h:b<B) {v:Value} (hv:w.cell? ⟨b,o,none⟩=some v):w1.cell? ⟨b,o,none⟩=some v:=
 (hb.cell (p:=⟨b,o,none⟩) h).trans hv
theorem ak (hb:Below w.heap.size w w1) {b o:Nat} {v:Value} (hv:w.cell? ⟨b,o,none⟩=some v):w1.cell? ⟨b,o,none⟩=some v:=
 sJ hb (mF hv) hv
end
def ai (w:World) (g:Nat) (t:TypeId) (cs:Array Value):Prop:=w.heap[g]? =some (.cells cs t (0,0))
section
variable {S:Nat→Prop} {w w':World} {g:Nat} {t:TypeId} {cs:Array Value}
theorem ai.lt (h:ai w g t cs):g<w.heap.size:=by
 rcases Nat.lt_or_ge g w.heap.size with hlt|hge
 ·exact hlt
 ·unfold ai at h;rw [Array.getElem?_eq_none hge] at h;cases h
theorem ai.cell (h:ai w g t cs) (i:Nat):w.cell? ⟨g,i,none⟩=cs[i]? :=cell_of_row w g i cs t (0,0) h
theorem ai.frozen (h:ai w g t cs) (i:Nat):w.frozen? ⟨g,i,none⟩=false:=by
 unfold ai at h;simp [World.frozen?,h]
theorem ai.new (w:World) (t:TypeId) (cs:Array Value):ai (w.alloc (.cells cs t)) w.heap.size t cs:=heap_alloc_new w _
theorem ai.drew (h:ai w g t cs):ai w.drew g t cs:=h
theorem ai.drewN (h:ai w g t cs) (n:Nat):ai (w.drewN n) g t cs:=h
theorem ai.alloc (h:ai w g t cs) (o:Obj):ai (w.alloc o) g t cs:=(Below.heap_alloc w o g h.lt).trans h
theorem ai.set_ (h:ai w g t cs) (i:Nat) (u:Value):ai (w.setCell ⟨g,i,none⟩ u) g t (cs.setIfInBounds i u):=by
 unfold ai at h⊢;simp [World.setCell,Array.getElem?_modify,h]
theorem ai.far (h:ai w g t cs) {p:Addr} (hp:g≠p.block) (u:Value):ai (w.setCell p u) g t cs:=(Below.heap_setCell w p u g hp).trans h
theorem ai.below (h:ai w g t cs) (hb:Below w.heap.size w w'):ai w' g t cs:=(hb.block g h.lt).trans h
theorem ai.chg (h:ai w g t cs) (hb:ag S w w') (hs:¬S g):ai w' g t cs:=(hb.block g h.lt hs).trans h
end
def Rd (w:World) (F:Nat→Prop) (size:Nat) (A:Option Addr) (n:Nat) (xs:List Value):Prop:=
 xs.length=n*size∧(0<n→∃b o,A=some ⟨b,o,none⟩∧F b∧∀j u,xs[j]? =some u→w.cell? ⟨b,o+j,none⟩=some u)
section
variable {S F G:Nat→Prop} {w w':World} {size n:Nat} {A:Option Addr} {xs:List Value}
theorem Rd.none_ (w:World) (F:Nat→Prop) (size:Nat) (A:Option Addr):Rd w F size A 0 []:=⟨by simp,fun h=>absurd h (by omega)⟩
theorem Rd.empty (h:Rd w F size A 0 xs):xs= []:=List.eq_nil_of_length_eq_zero (by simpa using h.1)
theorem Rd.at_ {k:Nat} (h:Rd w F 1 A n xs) (hk:k<n):∃b o u,A=some ⟨b,o,none⟩∧F b∧xs[k]? =some u∧w.cell? ⟨b,o+k,none⟩=some u:=by
 obtain⟨b,o,e,hb,hc⟩:=h.2 (by omega);have hl:k<xs.length:=by have:=h.1;omega
 exact⟨b,o,xs[k],e,hb,List.getElem?_eq_getElem hl,hc k _ (List.getElem?_eq_getElem hl)⟩
theorem Rd.at2 {k:Nat} (h:Rd w F 2 A n xs) (hk:k<n):∃b o u v,A=some ⟨b,o,none⟩∧F b∧xs[2*k]? =some u∧xs[2*k+1]? =some v∧w.cell? ⟨b,o+2*k,none⟩=some u∧w.cell? ⟨b,o+(2*k+1),none⟩=some v:=by
 obtain⟨b,o,e,hb,hc⟩:=h.2 (by omega);have hl:2*k+1<xs.length:=by have:=h.1;omega
 exact⟨b,o,xs[2*k],xs[2*k+1],e,hb,List.getElem?_eq_getElem (by omega),List.getElem?_eq_getElem hl,hc _ _ (List.getElem?_eq_getElem (by omega)),hc _ _ (List.getElem?_eq_getElem hl)⟩
theorem Rd.weak (h:Rd w F size A n xs) (hF:∀b,F b→G b):Rd w G size A n xs:=
 ⟨h.1,fun hn=>let⟨b,o,e,hb,hc⟩:=h.2 hn;⟨b,o,e,hF b hb,hc⟩⟩
theorem Rd.chg (h:Rd w F size A n xs) (hc:ag S w w') (hs:∀b,F b→¬S b):Rd w' F size A n xs:=
 ⟨h.1,fun hn=>let⟨b,o,e,hb,hx⟩:=h.2 hn;⟨b,o,e,hb,fun j u hu=>hc.cell (hs b hb) (hx j u hu)⟩⟩
theorem Rd.below (h:Rd w F size A n xs) (hc:Below w.heap.size w w'):Rd w' F size A n xs:=h.chg (ag.of_below (S:=Nil) hc) (fun _ _ hf=>hf)
theorem Rd.drew (h:Rd w F size A n xs):Rd w.drew F size A n xs:=h
theorem Rd.drewN (h:Rd w F size A n xs) (k:Nat):Rd (w.drewN k) F size A n xs:=h
theorem Rd.alloc (h:Rd w F size A n xs) (o:Obj):Rd (w.alloc o) F size A n xs:=h.below ((Below.refl _ _).alloc (Nat.le_refl _) _)
theorem Rd.lt (h:Rd w F size A n xs) (hsz:0<size):Rd w (fun b=>F b∧b<w.heap.size) size A n xs:=
 ⟨h.1,fun hn=>by
  obtain⟨b,o,e,hb,hx⟩:=h.2 hn;have h0:0<xs.length:=by rw [h.1];exact Nat.mul_pos hn hsz
  exact⟨b,o,e,⟨hb,mF (hx 0 _ (List.getElem?_eq_getElem h0))⟩,hx⟩⟩
theorem Rd.cut (h:Rd w F size A n xs) {k cap:Nat} (hk:k≤n) (hc:n≤cap):
  Rd w F size (if cap=k then A else A.map (·.add (k*size))) (n-k) (xs.drop (k*size)):=by
 refine⟨by rw [List.length_drop,h.1,Nat.sub_mul],fun hn=> ?_⟩;obtain⟨b,o,rfl,hb,hcell⟩:=h.2 (by omega);rw [if_neg (by omega)]
 refine⟨b,o+k*size,?_,hb,fun j u hu=> ?_⟩
 ·simp only [Option.map_some,Addr.add]
  split
  ·simp_all
  ·rfl
 ·rw [Nat.add_assoc];exact hcell _ u (by rw [←hu,List.getElem?_drop])
theorem Rd.take (h:Rd w F size A n xs) {k:Nat} (hk:k≤n):Rd w F size A k (xs.take (k*size)):=by
 refine⟨by rw [List.length_take,h.1];exact Nat.min_eq_left (Nat.mul_le_mul_right _ hk),fun hn=> ?_⟩;obtain⟨b,o,rfl,hb,hcell⟩:=h.2 (by omega)
 exact⟨b,o,rfl,hb,fun j u hu=>hcell j u (by
  rw [List.getElem?_take] at hu
  split at hu
  ·exact hu
  ·cases hu)⟩
theorem iP (b o k:Nat):(Addr.mk b o none).add k=⟨b,o+k,none⟩:=by
 unfold Addr.add;split
 ·simp_all
 ·rfl
theorem Rd.of_own {base:Nat} {e:TypeId} {c:Nat} (h:w.ownsRow base e size (.slice A n c) n xs):Rd w (From base) size A n xs:=by
 refine⟨h.1,fun hn=> ?_⟩;obtain⟨g,cap,hv,hbg,hlt⟩:=h.form hn;have hA:A=some ⟨g,0,none⟩:=by injection hv
 subst hA;exact⟨g,0,rfl,hbg,fun j u hu=>by have:=h.cells (g:=g) rfl j u hu;rw [iP] at this;exact this⟩
end
def bv (c:UInt8):Value:= .int .u8 c.toNat
def aK (bs:List UInt8):List Value:=bs.map bv
theorem dM (bs:List UInt8):(aK bs).length=bs.length:=by simp [aK]
theorem cO (bs:List UInt8):∀u∈aK bs,u.oneCell'=true:=by
 intro u hu;simp only [aK,List.mem_map] at hu;obtain⟨c,_,rfl⟩:=hu;rfl
theorem gH {bs:List UInt8} {k:Nat} {u:Value} (h:(aK bs)[k]? =some u):∃c,bs[k]? =some c∧u=bv c:=by
 simp only [aK,List.getElem?_map,Option.map_eq_some_iff] at h;obtain⟨c,h1,h2⟩:=h;exact⟨c,h1,h2.symm⟩
theorem BP (bs:List UInt8) (k:Nat):(aK bs).take k=aK (bs.take k):=by simp [aK,List.map_take]
theorem vJ (bs:List UInt8) (k:Nat):(aK bs).drop k=aK (bs.drop k):=by simp [aK,List.map_drop]
theorem Rd.take1 {w:World} {F:Nat→Prop} {A:Option Addr} {n k:Nat} {bs:List UInt8} (h:Rd w F 1 A n (aK bs)) (hk:k≤n):Rd w F 1 A k (aK (bs.take k)):=by
 have:=h.take hk;rwa [Nat.mul_one,BP] at this
theorem take_len {α:Type} {l:List α} {k:Nat} (h:k≤l.length):k=(l.take k).length:=by simp;omega
def SB (w:World) (F:Nat→Prop) (v:Value) (bs:List UInt8):Prop:=∃A n c,v= .slice A n c∧n≤c∧c≤maxLen∧n=bs.length∧Rd w F 1 A n (aK bs)
section
variable {S F G:Nat→Prop} {w w':World} {v:Value} {bs:List UInt8}
theorem SB.nil (w:World) (F:Nat→Prop):SB w F (.slice none 0 0) []:=⟨none,0,0,rfl,Nat.le_refl _,by simp [maxLen],rfl,Rd.none_ _ _ _ _⟩
theorem SB.weak (h:SB w F v bs) (hF:∀b,F b→G b):SB w G v bs:=let⟨A,n,c,h1,h2,h3,h4,h5⟩:=h;⟨A,n,c,h1,h2,h3,h4,h5.weak hF⟩
theorem SB.chg (h:SB w F v bs) (hc:ag S w w') (hs:∀b,F b→¬S b):SB w' F v bs:=let⟨A,n,c,h1,h2,h3,h4,h5⟩:=h;⟨A,n,c,h1,h2,h3,h4,h5.chg hc hs⟩
theorem SB.below (h:SB w F v bs) (hc:Below w.heap.size w w'):SB w' F v bs:=let⟨A,n,c,h1,h2,h3,h4,h5⟩:=h;⟨A,n,c,h1,h2,h3,h4,h5.below hc⟩
end
theorem SB.lt {w:World} {F:Nat→Prop} {v:Value} {bs:List UInt8} (h:SB w F v bs):SB w (fun b=>F b∧b<w.heap.size) v bs:=
 let⟨A,n,c,h1,h2,h3,h4,h5⟩:=h;⟨A,n,c,h1,h2,h3,h4,h5.lt Nat.zero_lt_one⟩
theorem Rd.one (w:World) (u:Value) (t:TypeId):Rd (w.alloc (.cells #[u] t)) (From w.heap.size) 1 (some ⟨w.heap.size,0,none⟩) 1 [u]:=
 ⟨rfl,fun _=>⟨w.heap.size,0,rfl,Nat.le_refl _,fun j x hj=>by
  rw [(ai.new w t #[u]).cell]
  match j,hj with
  |0,hj=>simpa using hj⟩⟩
def jb (w:World) (b:Nat):Prop:=∀o,w.frozen? ⟨b,o,none⟩=false
def fF (F:Nat→Prop) (w:World):Nat→Prop:=fun b=>F b∧jb w b
section
variable {S F G:Nat→Prop} {w w':World}
theorem jb.chg {b:Nat} (h:jb w b) (hc:ag S w w') (hb:b<w.heap.size) (hs:¬S b):jb w' b:=
 fun o=>(World.frozen?_of_block (w:=w) (a:=⟨b,o,none⟩) (hc.block b hb hs)).trans (h o)
theorem ai.soft {g:Nat} {t:TypeId} {cs:Array Value} (h:ai w g t cs):jb w g:=h.frozen
theorem Rd.soft_of_own {base:Nat} {e:TypeId} {size n c:Nat} {A:Option Addr} {xs:List Value} (h:w.ownsRow base e size (.slice A n c) n xs):Rd w (fF (From base) w) size A n xs:=by
 refine⟨h.1,fun hn=> ?_⟩;obtain⟨g,cap,hv,hbg,hlt⟩:=h.form hn;have hA:A=some ⟨g,0,none⟩:=by injection hv
 subst hA;refine⟨g,0,rfl,⟨hbg,?_⟩,fun j u hu=>by have:=h.cells (g:=g) rfl j u hu;rw [iP] at this;exact this⟩
 rcases h.2 with⟨e,_⟩|⟨g',cap',cur,e,_,hg,_⟩
 ·cases e
 ·injection e with e1 e2 e3
  injection e1 with e1
  injection e1 with e1 e2
  subst e1;exact(show ai w g _ cur from hg).frozen
theorem Rd.soft_chg {size n:Nat} {A:Option Addr} {xs:List Value} (h:Rd w (fF F w) size A n xs) (hsz:0<size) (hc:ag S w w') (hs:∀b,F b→¬S b):Rd w' (fF F w') size A n xs:=
 ((h.lt hsz).chg hc (fun b hb=>hs b hb.1.1)).weak (fun b hb=>⟨hb.1.1,hb.1.2.chg hc hb.2 (hs b hb.1.1)⟩)
theorem SB.soft_chg {v:Value} {bs:List UInt8} (h:SB w (fF F w) v bs) (hc:ag S w w') (hs:∀b,F b→¬S b):SB w' (fF F w') v bs:=
 let⟨A,n,c,h1,h2,h3,h4,h5⟩:=h;⟨A,n,c,h1,h2,h3,h4,h5.soft_chg Nat.zero_lt_one hc hs⟩
theorem fF.weak (hF:∀b,F b→G b):∀b,fF F w b→fF G w b:=fun b hb=>⟨hF b hb.1,hb.2⟩
end
end
section
open Go.RowKit
theorem run_loadBytes {P:Program} (w:World) (b:Nat):∀(bs:List UInt8) (o:Nat) (acc:ByteArray),(∀j u,(aK bs)[j]? =some u→w.cell? ⟨b,o+j,none⟩=some u)→
  (Extern.Bytes.loadBytes ⟨b,o,none⟩ bs.length acc).run P w= .ok ⟨acc.data++bs.toArray⟩ w
 | [],o,acc,_=>by
  obtain⟨d⟩:=acc
  simp [Extern.Bytes.loadBytes]
 |c::bs,o,acc,h=>by
  have h0:w.cell? ⟨b,o,none⟩=some (.int .u8 c.toNat):=by simpa [aK,bv] using h 0 (bv c) (by simp [aK])
  have ih:=run_loadBytes (P:=P) w b bs (o+1) (acc.push c) (fun j u hj=>by
   have:=h (j+1) u (by simpa [aK] using hj);rw [Nat.add_assoc,Nat.add_comm 1 j];exact this)
  simp only [List.length_cons,Extern.Bytes.loadBytes,Sem.run_bind];simp only [run_load,h0,Result.andThen];have e:(Addr.mk b o none).add 1=⟨b,o+1,none⟩:=by simp [Addr.add]
  have e2:((c.toNat:Int)).toNat.toUInt8=c:=by simp
  rw [e,e2,ih];congr 1
  obtain⟨d⟩:=acc;simp [ByteArray.push]
theorem sj {P:Program} {w:World} {F:Nat→Prop} {A:Option Addr} {n c:Nat} {bs:List UInt8} (h:Rd w F 1 A n (aK bs)) (hn:n=bs.length):
  (Extern.Bytes.bytesOf (.slice A n c)).run P w= .ok ⟨bs.toArray⟩ w:=by
 cases A with
 |none=>
  have h0:n=0:=by
   rcases Nat.eq_zero_or_pos n with h0|h0
   ·exact h0
   ·obtain⟨_,_,e,_⟩:=h.2 h0;cases e
  subst h0;have:bs= []:=List.eq_nil_of_length_eq_zero hn.symm;subst this;simp [Extern.Bytes.bytesOf]
  rfl
 |some ad=>
  rcases Nat.eq_zero_or_pos n with h0|h0
  ·subst h0;have:bs= []:=List.eq_nil_of_length_eq_zero hn.symm;subst this;simp [Extern.Bytes.bytesOf,Extern.Bytes.loadBytes]
   rfl
  ·obtain⟨b,o,e,_,hc⟩:=h.2 h0;injection e with e
   subst e;subst hn;simp only [Extern.Bytes.bytesOf];rw [run_loadBytes w b bs o .empty hc]
   have e:ByteArray.empty.data++bs.toArray=bs.toArray:=by
    show #[]++bs.toArray=bs.toArray;simp
   rw [e]
theorem pQ {P:Program} {w:World} {F G:Nat→Prop} {A B:Option Addr} {n m c d:Nat} {xs ys:List UInt8} (h:Rd w F 1 A n (aK xs)) (hn:n=xs.length) (k:Rd w G 1 B m (aK ys)) (hm:m=ys.length):
  (Extern.BytealgCompare.compare #[.slice A n c,.slice B m d]).run P w= .ok (.int .i64 (Lib.compareBytes xs ys)) w:=by
 change Sem.run P (do pure (goInt (Extern.BytealgCompare.cmp (←Extern.Bytes.bytesOf (.slice A n c)) (←Extern.Bytes.bytesOf (.slice B m d))))) w=_
 simp only [Sem.run_bind,Sem.run_pure,sj h hn,sj k hm,Result.andThen];rw [Lib.cmp_eq];rfl
end
section
open Go.Proofs.Tryz
open Go.RowKit
theorem lW (b o:Nat) (x:Int) (w:World) (h:w.cell? ⟨b,o,none⟩=some (.int .u64 x)):
  Calls prog 36 #[.pointer (some ⟨b,o,none⟩)] w fun e w'=>e= .returned (.int .u64 x)∧w=w':=by
 have hl:=run_call_load (P:=prog) func60 (by kernel_rfl) (by kernel_rfl) (by kernel_rfl) .u64 (by kernel_rfl) h;go_enter func36,ntmps36
 go_wp2;go_ret
 exact⟨rfl,rfl⟩
theorem zY (b o:Nat) (x:Int) (w:World) (h:w.cell? ⟨b,o,none⟩=some (.int .i64 x)):
  Calls prog 56 #[.pointer (some ⟨b,o,none⟩)] w fun e w'=>e= .returned (.int .i64 x)∧w=w':=by
 have hl:=run_call_load (P:=prog) func79 (by kernel_rfl) (by kernel_rfl) (by kernel_rfl) .i64 (by kernel_rfl) h;go_enter func56,ntmps56
 go_wp2;go_ret
 exact⟨rfl,rfl⟩
theorem yh (b o:Nat) (u:Value) (y:Int) (w:World) (h:w.cell? ⟨b,o,none⟩=some u) (hf:w.frozen? ⟨b,o,none⟩=false):
  Calls prog 164 #[.pointer (some ⟨b,o,none⟩),.int .u64 y] w fun e w'=>e= .returned (.tuple #[])∧w.setCell ⟨b,o,none⟩ (.int .u64 y)=w':=by
 have hl:=run_call_store (P:=prog) func174 (by kernel_rfl) (by kernel_rfl) (by kernel_rfl) (by kernel_rfl) (k:= .u64) (y:=y) h hf;go_enter func164,ntmps164
 go_wp2;go_end0
 exact⟨rfl,rfl⟩
theorem yj (b o:Nat) (u:Value) (y:Int) (w:World) (h:w.cell? ⟨b,o,none⟩=some u) (hf:w.frozen? ⟨b,o,none⟩=false):
  Calls prog 120 #[.pointer (some ⟨b,o,none⟩),.int .i64 y] w fun e w'=>e= .returned (.tuple #[])∧w.setCell ⟨b,o,none⟩ (.int .i64 y)=w':=by
 have hl:=run_call_store (P:=prog) func144 (by kernel_rfl) (by kernel_rfl) (by kernel_rfl) (by kernel_rfl) (k:= .i64) (y:=y) h hf;go_enter func120,ntmps120
 go_wp2;go_end0
 exact⟨rfl,rfl⟩
theorem C5 (b o:Nat) (x y:Int) (w:World) (h:w.cell? ⟨b,o,none⟩=some (.int .u64 x)) (hf:w.frozen? ⟨b,o,none⟩=false):
  Calls prog 166 #[.pointer (some ⟨b,o,none⟩),.int .u64 y] w fun e w'=>e= .returned (.int .u64 (IntKind.u64.wrap (x+y)))∧w.setCell ⟨b,o,none⟩ (.int .u64 (IntKind.u64.wrap (x+y)))=w':=by
 obtain⟨s,hs⟩:∃s,s=IntKind.u64.wrap (x+y):=⟨_,rfl⟩;rw [←hs];have hl:=run_call_add (P:=prog) func175 (by kernel_rfl) (by kernel_rfl) (by kernel_rfl) .u64 (by kernel_rfl) (x:=x) (y:=y) (s:=s) h hf (by rw [hs];rfl);clear hs;go_enter func166,ntmps166
 go_wp2;go_ret
 exact⟨rfl,rfl⟩
theorem C4 (b o:Nat) (x z:Int) (w:World) (h:w.cell? ⟨b,o,none⟩=some (.int .u64 x)) (hf:w.frozen? ⟨b,o,none⟩=false):
  Calls prog 163 #[.pointer (some ⟨b,o,none⟩),.int .u64 x,.int .u64 z] w fun e w'=>e= .returned (.bool true)∧w.setCell ⟨b,o,none⟩ (.int .u64 z)=w':=by
 have hl:=run_call_cas_hit (P:=prog) func173 (by kernel_rfl) (by kernel_rfl) (by kernel_rfl) .u64 (by kernel_rfl) (y:=z) h hf;go_enter func163,ntmps163
 go_wp2;go_ret
 exact⟨rfl,rfl⟩
theorem C6 (b o:Nat) (x z:Int) (w:World) (h:w.cell? ⟨b,o,none⟩=some (.int .i64 x)) (hf:w.frozen? ⟨b,o,none⟩=false):
  Calls prog 125 #[.pointer (some ⟨b,o,none⟩),.int .i64 x,.int .i64 z] w fun e w'=>e= .returned (.bool true)∧w.setCell ⟨b,o,none⟩ (.int .i64 z)=w':=by
 have hl:=run_call_cas_hit (P:=prog) func151 (by kernel_rfl) (by kernel_rfl) (by kernel_rfl) .i64 (by kernel_rfl) (y:=z) h hf;go_enter func125,ntmps125
 go_wp2;go_ret
 exact⟨rfl,rfl⟩
theorem bi (A B:Option Addr) (n m c d:Nat) (F G:Nat→Prop) (xs ys:List UInt8) (w:World) (h:Rd w F 1 A n (aK xs)) (hn:n=xs.length) (k:Rd w G 1 B m (aK ys)) (hm:m=ys.length):
  Calls prog 70 #[.slice A n c,.slice B m d] w fun e w'=>e= .returned (.int .i64 (Lib.compareBytes xs ys))∧w=w':=by
 have hl:(callFunc 95 #[.slice A n c,.slice B m d]).run prog w= .ok (.value (.int .i64 (Lib.compareBytes xs ys))) w:=by
  rw [run_callFunc_extern func95 (by kernel_rfl) (by kernel_rfl) (by kernel_rfl) (e:=Extern.BytealgCompare.compare) (by kernel_rfl),pQ h hn k hm];rfl
 clear h k hn hm;go_enter func70,ntmps70
 go_wp2;go_ret
 exact⟨rfl,rfl⟩
end
section
open Go.Lib (compareBytes)
abbrev aH:=List UInt8×List UInt8
def lC (k:List UInt8):Int:=if 1≤k.length∧k.length≤64 then 0 else 3
def tC (v:List UInt8):Int:=if v.length≤256 then 0 else 3
def gT (e:aH):Int:=if 1≤e.1.length∧e.1.length≤64∧e.2.length≤256 then 0 else 3
theorem vP (k:List UInt8):lC k=0∨lC k=3:=by unfold lC;split<;>simp
theorem vQ (k:List UInt8):tC k=0∨tC k=3:=by unfold tC;split<;>simp
theorem nX (e:aH):gT e=0∨gT e=3:=by unfold gT;split<;>simp
theorem vR (e:aH):max (lC e.1) (tC e.2)=gT e:=by
 unfold lC tC gT
 by_cases h1:1≤e.1.length∧e.1.length≤64<;>by_cases h2:e.2.length≤256
 ·rw [if_pos h1,if_pos h2,if_pos ⟨h1.1,h1.2,h2⟩];rfl
 ·rw [if_pos h1,if_neg h2,if_neg (fun h=>h2 h.2.2)];rfl
 ·rw [if_neg h1,if_pos h2,if_neg (fun h=>h1 ⟨h.1,h.2.1⟩)];rfl
 ·rw [if_neg h1,if_neg h2,if_neg (fun h=>h2 h.2.2)];rfl
theorem MQ {e:aH} (h:lC e.1≠0):gT e=lC e.1:=by
 have:=vR e
 rcases vP e.1 with hk|hk
 ·exact absurd hk h
 ·rcases vQ e.2 with hv|hv<;>rw [hk,hv] at this<;>rw [hk,←this]<;>rfl
theorem MR {e:aH} (h:lC e.1=0):gT e=tC e.2:=by
 have:=vR e;rw [h] at this;rcases vQ e.2 with hv|hv<;>rw [hv] at this<;>rw [hv,←this]<;>rfl
def comm:List UInt8→List UInt8→Nat
 |x::xs,y::ys=>if x=y then comm xs ys+1 else 0
 |_,_=>0
theorem jG:∀(a b:List UInt8),comm a b≤a.length∧comm a b≤b.length
 | [],_=>by simp [comm]
 |_::_,[]=>by simp [comm]
 |x::xs,y::ys=>by
  have:=jG xs ys;unfold comm;split<;>simp<;>omega
theorem rR:∀(a b:List UInt8) (k:Nat),k<comm a b→a[k]? =b[k]?
 | [],_,k,h=>by simp [comm] at h
 |_::_,[],k,h=>by simp [comm] at h
 |x::xs,y::ys,k,h=>by
  unfold comm at h
  split at h
  ·rename_i e;subst e
   cases k with
   |zero=>rfl
   |succ k=>simpa using rR xs ys k (by omega)
  ·omega
theorem kV:∀(a b:List UInt8),comm a b<a.length→comm a b<b.length→a[comm a b]?≠b[comm a b]?
 | [],_,h,_=>by simp [comm] at h
 |_::_,[],_,h=>by simp [comm] at h
 |x::xs,y::ys,h1,h2=>by
  unfold comm at h1 h2⊢
  by_cases e:x=y
  ·simp only [e,if_true,List.length_cons] at h1 h2⊢
   simpa using kV xs ys (by omega) (by omega)
  ·simp [e]
theorem jF (a b:List UInt8) (n:Nat) (h:∀k,k<n→a[k]? =b[k]?) (ha:n≤a.length) (hb:n≤b.length) (hn:n=a.length∨n=b.length∨a[n]?≠b[n]?):n=comm a b:=by
 rcases Nat.lt_trichotomy n (comm a b) with h1|h1|h1
 ·have hl:=jG a b
  rcases hn with hn|hn|hn
  ·omega
  ·omega
  ·exact absurd (rR a b n h1) hn
 ·exact h1
 ·exact absurd (h _ h1) (kV a b (by omega) (by omega))
theorem nH:∀(a b:List UInt8),compareBytes a b= -1∨compareBytes a b=0∨compareBytes a b=1
 | [],[]=>by simp [compareBytes]
 | [],_::_=>by simp [compareBytes]
 |_::_,[]=>by simp [compareBytes]
 |x::xs,y::ys=>by
  unfold compareBytes
  split
  ·simp
  ·split
   ·simp
   ·exact nH xs ys
def yQ (a b:List UInt8):Int:=
 if comm a b=a.length∧comm a b=b.length then 0
 else if comm a b=a.length then-1
 else if comm a b=b.length then 1
 else if a.getD (comm a b) 0<b.getD (comm a b) 0 then-1 else 1
theorem yP:∀(a b:List UInt8),compareBytes a b=yQ a b
 | [],[]=>by simp [compareBytes,yQ,comm]
 | [],_::_=>by simp [compareBytes,yQ,comm]
 |_::_,[]=>by simp [compareBytes,yQ,comm]
 |x::xs,y::ys=>by
  have ih:=yP xs ys;unfold compareBytes
  by_cases e:x=y
  ·subst e;have hlt:¬x<x:=UInt8.lt_irrefl x;rw [if_neg hlt,if_neg hlt,ih];unfold yQ
   simp only [comm,if_true,List.length_cons,Nat.add_right_cancel_iff,List.getD_cons_succ]
  ·have hc:comm (x::xs) (y::ys)=0:=by simp [comm,e]
   have hv:yQ (x::xs) (y::ys)=if x<y then-1 else 1:=by
    unfold yQ;rw [hc];simp
   rw [hv]
   by_cases hlt:x<y
   ·rw [if_pos hlt,if_pos hlt]
   ·have:y<x:=UInt8.lt_of_le_of_ne (UInt8.not_lt.1 hlt) (Ne.symm e);rw [if_neg hlt,if_neg hlt,if_pos this]
theorem gI (a b:List UInt8):compareBytes a b<0↔(comm a b<b.length∧(comm a b=a.length∨a.getD (comm a b) 0<b.getD (comm a b) 0)):=by
 have hl:=jG a b;rw [yP];unfold yQ
 by_cases h1:comm a b=a.length
 ·by_cases h2:comm a b=b.length
  ·rw [if_pos ⟨h1,h2⟩];simp;omega
  ·rw [if_neg (fun h=>h2 h.2),if_pos h1];simp [h1];omega
 ·rw [if_neg (fun h=>h1 h.1),if_neg h1]
  by_cases h2:comm a b=b.length
  ·rw [if_pos h2];simp;omega
  ·rw [if_neg h2]
   by_cases h3:a.getD (comm a b) 0<b.getD (comm a b) 0
   ·rw [if_pos h3];simp only [show(-1:Int)<0 by omega,true_iff];exact⟨by omega,.inr h3⟩
   ·rw [if_neg h3];simp only [show¬(1:Int)<0 by omega,false_iff];rintro⟨_,h|h⟩<;>contradiction
theorem getD_take (l:List UInt8) (n k:Nat) (h:k<n):(l.take n).getD k 0=l.getD k 0:=by
 simp [List.getD,h]
theorem IX (a b:List UInt8) (n:Nat) (hn:n≤b.length):comm a (b.take n)=min n (comm a b):=by
 have hl:=jG a b
 symm
 refine jF a (b.take n) _ (fun k hk=> ?_) (by omega) (by simp;omega) ?_
 ·rw [List.getElem?_take,if_pos (by omega)]
  exact rR a b k (by omega)
 ·rcases Nat.lt_or_ge (comm a b) n with h|h
  ·rw [Nat.min_eq_right (by omega)]
   by_cases h1:comm a b=a.length
   ·exact .inl h1
   ·refine .inr (.inr ?_);rw [List.getElem?_take,if_pos h]
    exact kV a b (by omega) (by omega)
  ·rw [Nat.min_eq_left h];exact .inr (.inl (by simp;omega))
theorem wR {a b:List UInt8} {n:Nat} (hn:n≤b.length):compareBytes a (b.take n)<0↔(compareBytes a b<0∧comm a b<n):=by
 have hl:=jG a b;have hc:=IX a b n hn;rw [gI,gI,hc,List.length_take]
 rcases Nat.lt_or_ge (comm a b) n with h|h
 ·have e:min n (comm a b)=comm a b:=by omega
  rw [e,getD_take _ _ _ h]
  constructor
  ·rintro⟨h1,h2⟩;exact⟨⟨by omega,h2⟩,h⟩
  ·rintro⟨⟨h1,h2⟩,_⟩;exact⟨by omega,h2⟩
 ·constructor
  ·rintro⟨h1,_⟩;omega
  ·rintro⟨_,h1⟩;omega
def nu (a b:List UInt8):List UInt8×Int:=if compareBytes a b<0 then(b.take (comm a b+1),0) else([],51)
def dQ (l:List aH) (i:Nat):Int:=
 if gT (l.getD i ([],[]))≠0 then gT (l.getD i ([],[]))
 else if 0<i∧0≤compareBytes (l.getD (i-1) ([],[])).1 (l.getD i ([],[])).1 then 51 else 0
def dJ (l:List aH):Int×Int:=
 match (List.range l.length).find? (fun i=>dQ l i !=0) with
 |some i=>((i:Int),dQ l i)
 |none=>(0,0)
theorem tF {p:Nat→Bool} {n i:Nat} (hi:i<n) (h:∀j,j<i→p j=false) (hp:p i=true):(List.range n).find? p=some i:=by
 rw [List.find?_range_eq_some];exact⟨hp,by simpa using hi,fun j hj=>by simp [h j hj]⟩
theorem tH {p:Nat→Bool} {n:Nat} (h:∀j,j<n→p j=false):(List.range n).find? p=none:=by
 rw [List.find?_eq_none];intro j hj;simp [h j (by simpa using hj)]
theorem sorted_at {l:List aH} {i:Nat} (hi:i<l.length) (h:∀j,j<i→dQ l j=0) (hb:dQ l i≠0):dJ l=((i:Int),dQ l i):=by
 unfold dJ;rw [tF (i:=i) hi (fun j hj=>by simp [h j hj]) (by simpa using hb)]
theorem xI {l:List aH} (h:∀j,j<l.length→dQ l j=0):dJ l=(0,0):=by
 unfold dJ;rw [tH (fun j hj=>by simp [h j hj])]
def bu (l:List aH):Prop:=∀j,j<l.length→dQ l j=0
theorem nZ (l:List aH):(dJ l).2=0↔bu l:=by
 constructor
 ·intro h j hj;unfold dJ at h
  cases hf:(List.range l.length).find? (fun i=>dQ l i !=0) with
  |none=>
   have:=(List.find?_eq_none.1 hf) j (by simpa using hj)
   simpa using this
  |some i=>
   rw [hf] at h;have:=List.find?_some hf;simp only at h
   simp [h] at this
 ·intro h;rw [xI h]
theorem IY {l:List aH} {i:Nat} {e:aH} (he:l[i]? =some e) (h:gT e≠0):dQ l i=gT e:=by
 have hd:l.getD i ([],[])=e:=by simp [List.getD,he]
 unfold dQ;rw [hd,if_pos h]
theorem Cb {l:List aH} {i:Nat} {d e:aH} (he:l[i]? =some e) (hd:l[i-1]? =some d) (h:gT e=0) (hi:0<i) (hc:0≤compareBytes d.1 e.1):dQ l i=51:=by
 have e1:l.getD i ([],[])=e:=by simp [List.getD,he]
 have e2:l.getD (i-1) ([],[])=d:=by simp [List.getD,hd]
 unfold dQ;rw [e1,e2,if_neg (by simpa using h),if_pos ⟨hi,hc⟩]
theorem sN {l:List aH} {e:aH} (he:l[0]? =some e) (h:gT e=0):dQ l 0=0:=by
 have e1:l.getD 0 ([],[])=e:=by simp [List.getD,he]
 unfold dQ;rw [e1,if_neg (by simpa using h),if_neg (fun h=>by omega)]
theorem vS {l:List aH} {i:Nat} {d e:aH} (he:l[i]? =some e) (hd:l[i-1]? =some d) (h:gT e=0) (hc:compareBytes d.1 e.1<0):dQ l i=0:=by
 have e1:l.getD i ([],[])=e:=by simp [List.getD,he]
 have e2:l.getD (i-1) ([],[])=d:=by simp [List.getD,hd]
 unfold dQ;rw [e1,e2,if_neg (by simpa using h),if_neg (fun h=>by omega)]
end
section
open Go.RowKit Go.WideShapes Go.ChangeShapes
theorem dZ {P:Program} {f:FuncId} {args:Array Value} {w:World} {n:Nat} {v:Value}
  (h:Calls P f args (w.drewN n) fun e w'=>e= .returned v∧w.drewN n=w'):Calls P f args (w.drewN n) fun e w''=>e= .returned v∧∃m,w''=w.drewN m:=
 h.mono fun _ _ ⟨he,hm⟩=>⟨he,n,hm.symm⟩
theorem nJ {P:Program} (t e:TypeId) (i:TypeInfo) (z:Value) (ht:P.underlying t=some (.slice e)) (hi:P.info? e=some i) (hz:i.zero=some z)
  (kl kc:IntKind) (n c:Nat) (hnc:n≤c) (hbytes:i.bytes*c≤281474976710656) (h63:c≤9223372036854775807) (w:World):
  (Instr.makeSlice t (.int kl (n:Int)) (.int kc (c:Int))).run P w= .ok (.slice (some ⟨w.heap.size,0,none⟩) n c) (w.alloc (.cells (madeCells z.cells (c*i.size)) e)):=by
 have hb:(i.bytes:Int)*(c:Int)≤281474976710656:=by
  have h:((i.bytes*c:Nat):Int)≤281474976710656:=by omega
  rwa [Int.natCast_mul] at h
 have hr:=run_make (P:=P) w t e i z ht hi hz kl kc n c (by omega) (by omega) hb (by omega);simp only [Int.toNat_natCast] at hr;exact hr
section
variable {H:Type} {enc:TypeId×Value→H} {P:Program}
end
end
end Go.Proofs.YtbjgeidjmhialaaGreatDoor
