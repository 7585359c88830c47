/- Words for memory: which blocks have turned; a slice that reads as a list, over a set of blocks. No program in sight. append onto a row of the call's own, from whatever slice (after a block of the guide's page extra-words, turned to this claim's words). Over any program. Nodes in memory: lists of texts, lists of numbers, heads and bodies. No program in sight. The program's arena in memory: its struct, the row of pointers, the slots' blocks, and what hangs on them. -/
import Derived.Below
import Derived.Laws.OwnMore
import Derived.Deep.AppendLies
import Derived.Deep.Draws
import Derived.WalkSmall
import Derived.OwnWalk
import Derived.Maps.AppendAt
import Derived.RegionTactic
set_option linter.unusedVariables false
set_option linter.unusedSimpArgs false
namespace Go.Proofs.Ytgjphmlmndcaeaa
open Go.RowKit

/-- only blocks of S have turned; new ones stand behind the old -/
structure Chg (S : Nat → Prop) (w w' : World) : Prop where
  os : w'.os = w.os
  tape : w'.tape = w.tape
  output : w'.output = w.output
  size : w.heap.size ≤ w'.heap.size
  block : ∀ k, k < w.heap.size → ¬ S k → w'.heap[k]? = w.heap[k]?

/-- none of the old blocks has turned -/
def Nil : Nat → Prop := fun _ => False
/-- the blocks from b on -/
def From (b : Nat) : Nat → Prop := fun k => b ≤ k
/-- the blocks below b -/
def Under (b : Nat) : Nat → Prop := fun k => k < b
/-- one block -/
def One (b : Nat) : Nat → Prop := fun k => k = b

section
variable {S T F G : Nat → Prop} {a w w' w1 : World}
theorem Chg.refl (S : Nat → Prop) (w : World) : Chg S w w := ⟨rfl, rfl, rfl, Nat.le_refl _, fun _ _ _ => rfl⟩
theorem Chg.trans (h : Chg S a w) (k : Chg T w w') (hT : ∀ b, b < a.heap.size → T b → S b) : Chg S a w' :=
  ⟨k.os.trans h.os, k.tape.trans h.tape, k.output.trans h.output, Nat.le_trans h.size k.size, fun i hi hs =>
    (k.block i (Nat.lt_of_lt_of_le hi h.size) (fun ht => hs (hT i hi ht))).trans (h.block i hi hs)⟩
theorem Chg.mono (h : Chg S w w') (hT : ∀ b, b < w.heap.size → S b → T b) : Chg T w w' :=
  ⟨h.os, h.tape, h.output, h.size, fun i hi hs => h.block i hi (fun ht => hs (hT i hi ht))⟩
theorem Chg.below (h : Chg Nil w w') : Below w.heap.size w w' := ⟨h.os, h.tape, h.output, h.size, fun k hk => h.block k hk (fun hf => hf)⟩
theorem Chg.of_below (h : Below w.heap.size w w') : Chg S w w' := ⟨h.os, h.tape, h.output, h.size, fun k hk _ => h.block k hk⟩
theorem Chg.below_of {B : Nat} (h : Chg S w w') (hB : B ≤ w.heap.size) (hS : ∀ b, b < B → ¬ S b) : Below B w w' :=
  ⟨h.os, h.tape, h.output, h.size, fun k hk => h.block k (Nat.lt_of_lt_of_le hk hB) (hS k hk)⟩
theorem Chg.of_below_ {B : Nat} (h : Below B w w') (hS : ∀ b, b < w.heap.size → B ≤ b → S b) : Chg S w w' :=
  ⟨h.os, h.tape, h.output, h.size, fun k hk hs => h.block k (by rcases Nat.lt_or_ge k B with h1 | h1; exact h1; exact absurd (hS k hk h1) hs)⟩
/-- behind a step that changes nothing old -/
theorem Chg.then (h : Chg S a w) (k : Below w.heap.size w w') : Chg S a w' := h.trans (Chg.of_below (S := Nil) k) (fun _ _ hf => hf.elim)
theorem Chg.drew (h : Chg S a w) : Chg S a w.drew := ⟨h.os, h.tape, h.output, h.size, h.block⟩
theorem Chg.drewN (h : Chg S a w) (n : Nat) : Chg S a (w.drewN n) := ⟨h.os, h.tape, h.output, h.size, h.block⟩
theorem Chg.alloc (h : Chg S a w) (o : Obj) : Chg S a (w.alloc o) := h.then ((Below.refl _ _).alloc (Nat.le_refl _) _)
theorem Chg.setCell (h : Chg S a w) {p : Addr} (hp : p.block < a.heap.size → S p.block) (u : Value) : Chg S a (w.setCell p u) :=
  h.trans (T := One p.block) ⟨rfl, rfl, rfl, by simp [World.setCell], fun k _ hk => Below.heap_setCell _ _ _ _ (fun e => hk e)⟩ (fun b hb e => by have e : b = p.block := e; subst e; exact hp hb)
/-- a store into block b -/
theorem Chg.set1 (w : World) (b o : Nat) (u : Value) : Chg (One b) w (w.setCell ⟨b, o, none⟩ u) := (Chg.refl (One b) w).setCell (p := ⟨b, o, none⟩) (fun _ => rfl) u
theorem Chg.grown {row : Option Nat} (h : Chg S a w) (hg : w.grownBy w' row) (hr : ∀ k, row = some k → k < a.heap.size → S k) : Chg S a w' :=
  h.trans (T := fun k => row = some k) ⟨hg.os, hg.tape, hg.output, hg.size, fun k hk hs => hg.block k hk (fun e => hs e.symm)⟩ (fun b hb e => hr b e hb)
theorem Chg.heap (h : Chg S w w') {b : Nat} (hb : b < w.heap.size) (hs : ¬ S b) : w'.heap[b]? = w.heap[b]? := h.block b hb hs

theorem cell_lt {o : Nat} {b : Nat} {v : Value} (h : w.cell? ⟨b, o, none⟩ = some v) : b < w.heap.size := by
  by_cases hlt : b < w.heap.size
  · exact hlt
  · simp [World.cell?, Array.getElem?_eq_none (show w.heap.size ≤ b by omega)] at h
theorem Chg.cell (h : Chg S w w') {b o : Nat} {v : Value} (hs : ¬ S b) (hv : w.cell? ⟨b, o, none⟩ = some v) : w'.cell? ⟨b, o, none⟩ = some v :=
  (World.cell?_of_block (w := w) (a := ⟨b, o, none⟩) (h.block b (cell_lt hv) hs)).trans hv
theorem bcell {B : Nat} (hb : Below B w w1) {b o : Nat} (h : b < B) {v : Value} (hv : w.cell? ⟨b, o, none⟩ = some v) : w1.cell? ⟨b, o, none⟩ = some v :=
  (hb.cell (p := ⟨b, o, none⟩) h).trans hv
theorem bkeep (hb : Below w.heap.size w w1) {b o : Nat} {v : Value} (hv : w.cell? ⟨b, o, none⟩ = some v) : w1.cell? ⟨b, o, none⟩ = some v :=
  bcell hb (cell_lt hv) hv
end

/-- A block known whole. -/
def Blk (w : World) (g : Nat) (t : TypeId) (cs : Array Value) : Prop := w.heap[g]? = some (.cells cs t (0, 0))

section
variable {S : Nat → Prop} {w w' : World} {g : Nat} {t : TypeId} {cs : Array Value}
theorem Blk.lt (h : Blk w g t cs) : g < w.heap.size := by
  rcases Nat.lt_or_ge g w.heap.size with hlt | hge
  · exact hlt
  · unfold Blk at h; rw [Array.getElem?_eq_none hge] at h; cases h
theorem Blk.cell (h : Blk w g t cs) (i : Nat) : w.cell? ⟨g, i, none⟩ = cs[i]? := cell_of_row w g i cs t (0, 0) h
theorem Blk.frozen (h : Blk w g t cs) (i : Nat) : w.frozen? ⟨g, i, none⟩ = false := by
  unfold Blk at h
  simp [World.frozen?, h]
theorem Blk.new (w : World) (t : TypeId) (cs : Array Value) : Blk (w.alloc (.cells cs t)) w.heap.size t cs := heap_alloc_new w _
theorem Blk.drew (h : Blk w g t cs) : Blk w.drew g t cs := h
theorem Blk.drewN (h : Blk w g t cs) (n : Nat) : Blk (w.drewN n) g t cs := h
theorem Blk.alloc (h : Blk w g t cs) (o : Obj) : Blk (w.alloc o) g t cs := (Below.heap_alloc w o g h.lt).trans h
theorem Blk.set_ (h : Blk w g t cs) (i : Nat) (u : Value) : Blk (w.setCell ⟨g, i, none⟩ u) g t (cs.setIfInBounds i u) := by
  unfold Blk at h ⊢
  simp [World.setCell, Array.getElem?_modify, h]
theorem Blk.far (h : Blk w g t cs) {p : Addr} (hp : g ≠ p.block) (u : Value) : Blk (w.setCell p u) g t cs := (Below.heap_setCell w p u g hp).trans h
theorem Blk.below (h : Blk w g t cs) (hb : Below w.heap.size w w') : Blk w' g t cs := (hb.block g h.lt).trans h
theorem Blk.chg (h : Blk w g t cs) (hb : Chg S w w') (hs : ¬ S g) : Blk w' g t cs := (hb.block g h.lt hs).trans h
end

/-- A slice that reads as a list: n elements of so many cells each; its cells lie in a block of F. Its address is asked for only where there is an element. -/
def Rd (w : World) (F : Nat → Prop) (size : Nat) (A : Option Addr) (n : Nat) (xs : List Value) : Prop :=
  xs.length = n * size ∧ (0 < n → ∃ b o, A = some ⟨b, o, none⟩ ∧ F b ∧ ∀ j u, xs[j]? = some u → w.cell? ⟨b, o + j, none⟩ = some u)

section
variable {S F G : Nat → Prop} {w w' : World} {size n : Nat} {A : Option Addr} {xs : List Value}
theorem Rd.none_ (w : World) (F : Nat → Prop) (size : Nat) (A : Option Addr) : Rd w F size A 0 [] := ⟨by simp, fun h => absurd h (by omega)⟩
theorem Rd.empty (h : Rd w F size A 0 xs) : xs = [] := List.eq_nil_of_length_eq_zero (by simpa using h.1)
theorem Rd.at_ {k : Nat} (h : Rd w F 1 A n xs) (hk : k < n) : ∃ b o u, A = some ⟨b, o, none⟩ ∧ F b ∧ xs[k]? = some u ∧ w.cell? ⟨b, o + k, none⟩ = some u := by
  obtain ⟨b, o, e, hb, hc⟩ := h.2 (by omega)
  have hl : k < xs.length := by have := h.1; omega
  exact ⟨b, o, xs[k], e, hb, List.getElem?_eq_getElem hl, hc k _ (List.getElem?_eq_getElem hl)⟩
theorem Rd.at2 {k : Nat} (h : Rd w F 2 A n xs) (hk : k < n) : ∃ b o u v, A = some ⟨b, o, none⟩ ∧ F b ∧ xs[2 * k]? = some u ∧ xs[2 * k + 1]? = some v ∧ w.cell? ⟨b, o + 2 * k, none⟩ = some u ∧ w.cell? ⟨b, o + (2 * k + 1), none⟩ = some v := by
  obtain ⟨b, o, e, hb, hc⟩ := h.2 (by omega)
  have hl : 2 * k + 1 < xs.length := by have := h.1; omega
  exact ⟨b, o, xs[2 * k], xs[2 * k + 1], e, hb, List.getElem?_eq_getElem (by omega), List.getElem?_eq_getElem hl, hc _ _ (List.getElem?_eq_getElem (by omega)), hc _ _ (List.getElem?_eq_getElem hl)⟩
theorem Rd.weak (h : Rd w F size A n xs) (hF : ∀ b, F b → G b) : Rd w G size A n xs :=
  ⟨h.1, fun hn => let ⟨b, o, e, hb, hc⟩ := h.2 hn; ⟨b, o, e, hF b hb, hc⟩⟩
theorem Rd.chg (h : Rd w F size A n xs) (hc : Chg S w w') (hs : ∀ b, F b → ¬ S b) : Rd w' F size A n xs :=
  ⟨h.1, fun hn => let ⟨b, o, e, hb, hx⟩ := h.2 hn; ⟨b, o, e, hb, fun j u hu => hc.cell (hs b hb) (hx j u hu)⟩⟩
theorem Rd.below (h : Rd w F size A n xs) (hc : Below w.heap.size w w') : Rd w' F size A n xs := h.chg (Chg.of_below (S := Nil) hc) (fun _ _ hf => hf)
theorem Rd.drew (h : Rd w F size A n xs) : Rd w.drew F size A n xs := h
theorem Rd.drewN (h : Rd w F size A n xs) (k : Nat) : Rd (w.drewN k) F size A n xs := h
theorem Rd.alloc (h : Rd w F size A n xs) (o : Obj) : Rd (w.alloc o) F size A n xs := h.below ((Below.refl _ _).alloc (Nat.le_refl _) _)
theorem Rd.setCell (h : Rd w F size A n xs) {p : Addr} (hp : ¬ F p.block) (u : Value) : Rd (w.setCell p u) F size A n xs :=
  h.chg (S := One p.block) ((Chg.refl (One p.block) w).setCell (p := p) (fun _ => rfl) u) (fun b hb e => by have e : b = p.block := e; subst e; exact hp hb)
theorem Rd.lt (h : Rd w F size A n xs) (hsz : 0 < size) : Rd w (fun b => F b ∧ b < w.heap.size) size A n xs :=
  ⟨h.1, fun hn => by
    obtain ⟨b, o, e, hb, hx⟩ := h.2 hn
    have h0 : 0 < xs.length := by rw [h.1]; exact Nat.mul_pos hn hsz
    exact ⟨b, o, e, ⟨hb, cell_lt (hx 0 _ (List.getElem?_eq_getElem h0))⟩, hx⟩⟩
/-- the cut x[k:] -/
theorem Rd.cut (h : Rd w F size A n xs) {k cap : Nat} (hk : k ≤ n) (hc : n ≤ cap) :
    Rd w F size (if cap = k then A else A.map (·.add (k * size))) (n - k) (xs.drop (k * size)) := by
  refine ⟨by rw [List.length_drop, h.1, Nat.sub_mul], fun hn => ?_⟩
  obtain ⟨b, o, rfl, hb, hcell⟩ := h.2 (by omega)
  rw [if_neg (by omega)]
  refine ⟨b, o + k * size, ?_, hb, fun j u hu => ?_⟩
  · simp only [Option.map_some, Addr.add]
    split
    · simp_all
    · rfl
  · rw [Nat.add_assoc]
    exact hcell _ u (by rw [← hu, List.getElem?_drop])
/-- the cut x[:k] -/
theorem Rd.take (h : Rd w F size A n xs) {k : Nat} (hk : k ≤ n) : Rd w F size A k (xs.take (k * size)) := by
  refine ⟨by rw [List.length_take, h.1]; exact Nat.min_eq_left (Nat.mul_le_mul_right _ hk), fun hn => ?_⟩
  obtain ⟨b, o, rfl, hb, hcell⟩ := h.2 (by omega)
  exact ⟨b, o, rfl, hb, fun j u hu => hcell j u (by
    rw [List.getElem?_take] at hu
    split at hu
    · exact hu
    · cases hu)⟩
theorem add_eq (b o k : Nat) : (Addr.mk b o none).add k = ⟨b, o + k, none⟩ := by
  unfold Addr.add; split
  · simp_all
  · rfl
theorem Rd.cells {b o : Nat} (h : Rd w F size (some ⟨b, o, none⟩) n xs) : ∀ j u, xs[j]? = some u → w.cell? ((⟨b, o, none⟩ : Addr).add j) = some u := by
  intro j u hu
  have hn : 0 < n := by
    rcases Nat.eq_zero_or_pos n with h0 | h0
    · subst h0; rw [h.empty] at hu; simp at hu
    · exact h0
  obtain ⟨b', o', e, _, hc⟩ := h.2 hn
  injection e with e
  injection e with e1 e2
  subst e1; subst e2
  rw [add_eq]; exact hc j u hu
theorem Rd.of_own {base : Nat} {e : TypeId} {c : Nat} (h : w.ownsRow base e size (.slice A n c) n xs) : Rd w (From base) size A n xs := by
  refine ⟨h.1, fun hn => ?_⟩
  obtain ⟨g, cap, hv, hbg, hlt⟩ := h.form hn
  have hA : A = some ⟨g, 0, none⟩ := by injection hv
  subst hA
  exact ⟨g, 0, rfl, hbg, fun j u hu => by have := h.cells (g := g) rfl j u hu; rw [add_eq] at this; exact this⟩
end

/-- bytes as values -/
def bv (c : UInt8) : Value := .int .u8 c.toNat
def bvs (bs : List UInt8) : List Value := bs.map bv
theorem bvs_len (bs : List UInt8) : (bvs bs).length = bs.length := by simp [bvs]
theorem bvs_one (bs : List UInt8) : ∀ u ∈ bvs bs, u.oneCell' = true := by
  intro u hu; simp only [bvs, List.mem_map] at hu; obtain ⟨c, _, rfl⟩ := hu; rfl
theorem bvs_at {bs : List UInt8} {k : Nat} {u : Value} (h : (bvs bs)[k]? = some u) : ∃ c, bs[k]? = some c ∧ u = bv c := by
  simp only [bvs, List.getElem?_map, Option.map_eq_some_iff] at h
  obtain ⟨c, h1, h2⟩ := h
  exact ⟨c, h1, h2.symm⟩

theorem bvs_take (bs : List UInt8) (k : Nat) : (bvs bs).take k = bvs (bs.take k) := by simp [bvs, List.map_take]
theorem bvs_drop (bs : List UInt8) (k : Nat) : (bvs bs).drop k = bvs (bs.drop k) := by simp [bvs, List.map_drop]
theorem Rd.take1 {w : World} {F : Nat → Prop} {A : Option Addr} {n k : Nat} {bs : List UInt8} (h : Rd w F 1 A n (bvs bs)) (hk : k ≤ n) : Rd w F 1 A k (bvs (bs.take k)) := by
  have := h.take hk
  rwa [Nat.mul_one, bvs_take] at this
theorem take_len {α : Type} {l : List α} {k : Nat} (h : k ≤ l.length) : k = (l.take k).length := by simp; omega

/-- the value of a slice of bytes -/
def SB (w : World) (F : Nat → Prop) (v : Value) (bs : List UInt8) : Prop := ∃ A n c, v = .slice A n c ∧ n ≤ c ∧ c ≤ maxLen ∧ n = bs.length ∧ Rd w F 1 A n (bvs bs)

section
variable {S F G : Nat → Prop} {w w' : World} {v : Value} {bs : List UInt8}
theorem SB.nil (w : World) (F : Nat → Prop) : SB w F (.slice none 0 0) [] := ⟨none, 0, 0, rfl, Nat.le_refl _, by simp [maxLen], rfl, Rd.none_ _ _ _ _⟩
theorem SB.weak (h : SB w F v bs) (hF : ∀ b, F b → G b) : SB w G v bs := let ⟨A, n, c, h1, h2, h3, h4, h5⟩ := h; ⟨A, n, c, h1, h2, h3, h4, h5.weak hF⟩
theorem SB.chg (h : SB w F v bs) (hc : Chg S w w') (hs : ∀ b, F b → ¬ S b) : SB w' F v bs := let ⟨A, n, c, h1, h2, h3, h4, h5⟩ := h; ⟨A, n, c, h1, h2, h3, h4, h5.chg hc hs⟩
theorem SB.below (h : SB w F v bs) (hc : Below w.heap.size w w') : SB w' F v bs := let ⟨A, n, c, h1, h2, h3, h4, h5⟩ := h; ⟨A, n, c, h1, h2, h3, h4, h5.below hc⟩
end
theorem SB.lt {w : World} {F : Nat → Prop} {v : Value} {bs : List UInt8} (h : SB w F v bs) : SB w (fun b => F b ∧ b < w.heap.size) v bs :=
  let ⟨A, n, c, h1, h2, h3, h4, h5⟩ := h; ⟨A, n, c, h1, h2, h3, h4, h5.lt Nat.zero_lt_one⟩
theorem SB.and {w : World} {F G : Nat → Prop} {v : Value} {bs : List UInt8} (h : SB w F v bs) (hG : ∀ b, b < w.heap.size → F b → G b) : SB w G v bs := h.lt.weak (fun b hb => hG b hb.2 hb.1)
theorem Rd.and {w : World} {F G : Nat → Prop} {size n : Nat} {A : Option Addr} {xs : List Value} (h : Rd w F size A n xs) (hsz : 0 < size) (hG : ∀ b, b < w.heap.size → F b → G b) : Rd w G size A n xs := (h.lt hsz).weak (fun b hb => hG b hb.2 hb.1)
/-- a slice of one element that has just been made -/
theorem Rd.one (w : World) (u : Value) (t : TypeId) : Rd (w.alloc (.cells #[u] t)) (From w.heap.size) 1 (some ⟨w.heap.size, 0, none⟩) 1 [u] :=
  ⟨rfl, fun _ => ⟨w.heap.size, 0, rfl, Nat.le_refl _, fun j x hj => by
    rw [(Blk.new w t #[u]).cell]
    match j, hj with
    | 0, hj => simpa using hj⟩⟩
/-- no cell of the block is frozen -/
def SoftAt (w : World) (b : Nat) : Prop := ∀ o, w.frozen? ⟨b, o, none⟩ = false
/-- of F, and not frozen -/
def Soft (F : Nat → Prop) (w : World) : Nat → Prop := fun b => F b ∧ SoftAt w b
section
variable {S F G : Nat → Prop} {w w' : World}
theorem SoftAt.chg {b : Nat} (h : SoftAt w b) (hc : Chg S w w') (hb : b < w.heap.size) (hs : ¬ S b) : SoftAt w' b :=
  fun o => (World.frozen?_of_block (w := w) (a := ⟨b, o, none⟩) (hc.block b hb hs)).trans (h o)
theorem Blk.soft {g : Nat} {t : TypeId} {cs : Array Value} (h : Blk w g t cs) : SoftAt w g := h.frozen
theorem Rd.soft_of_own {base : Nat} {e : TypeId} {size n c : Nat} {A : Option Addr} {xs : List Value} (h : w.ownsRow base e size (.slice A n c) n xs) : Rd w (Soft (From base) w) size A n xs := by
  refine ⟨h.1, fun hn => ?_⟩
  obtain ⟨g, cap, hv, hbg, hlt⟩ := h.form hn
  have hA : A = some ⟨g, 0, none⟩ := by injection hv
  subst hA
  refine ⟨g, 0, rfl, ⟨hbg, ?_⟩, fun j u hu => by have := h.cells (g := g) rfl j u hu; rw [add_eq] at this; exact this⟩
  rcases h.2 with ⟨e, _⟩ | ⟨g', cap', cur, e, _, hg, _⟩
  · cases e
  · injection e with e1 e2 e3
    injection e1 with e1
    injection e1 with e1 e2
    subst e1
    exact (show Blk w g _ cur from hg).frozen
theorem Rd.soft_chg {size n : Nat} {A : Option Addr} {xs : List Value} (h : Rd w (Soft F w) size A n xs) (hsz : 0 < size) (hc : Chg S w w') (hs : ∀ b, F b → ¬ S b) : Rd w' (Soft F w') size A n xs :=
  ((h.lt hsz).chg hc (fun b hb => hs b hb.1.1)).weak (fun b hb => ⟨hb.1.1, hb.1.2.chg hc hb.2 (hs b hb.1.1)⟩)
theorem SB.soft_chg {v : Value} {bs : List UInt8} (h : SB w (Soft F w) v bs) (hc : Chg S w w') (hs : ∀ b, F b → ¬ S b) : SB w' (Soft F w') v bs :=
  let ⟨A, n, c, h1, h2, h3, h4, h5⟩ := h; ⟨A, n, c, h1, h2, h3, h4, h5.soft_chg Nat.zero_lt_one hc hs⟩
theorem Soft.weak (hF : ∀ b, F b → G b) : ∀ b, Soft F w b → Soft G w b := fun b hb => ⟨hF b hb.1, hb.2⟩
end
end Go.Proofs.Ytgjphmlmndcaeaa

namespace Go.Proofs.Ytgjphmlmndcaeaa
open Go.RowKit
section
variable {P : Program} (w : World)

theorem run_append_of_nil (base : Nat) (t ty e : TypeId) (i : TypeInfo) (size : Nat) (ht : P.underlying t = some (.slice e)) (hi : P.info? e = some i)
    (v : Value) (n : Nat) (xs : List Value) (hown : w.ownsRow base e size v n xs) (c : Nat) : (Builtin.append_ #[t, t] ty #[v, .slice none 0 c]).run P w = .ok v w := by
  rcases hown.2 with ⟨rfl, rfl⟩ | ⟨g, cap, cur, rfl, _, _, hnc, _⟩
  · simp [Builtin.append_, run_underlying ht, sizeOf, typeInfo, hi, Builtin.lenOf, Builtin.firstCells]
  · simp [Builtin.append_, run_underlying ht, sizeOf, typeInfo, hi, Builtin.lenOf, Builtin.firstCells, hnc, storeCells]

theorem run_append_any (base : Nat) (t ty e : TypeId) (i : TypeInfo) (z : Value) (size bytes : Nat) (ht : P.underlying t = some (.slice e)) (hi : P.info? e = some i) (hz : i.zero = some z)
    (hsize : i.size = size) (hby : i.bytes = bytes) (hzs : z.cells.size = size) (hsz : 0 < size)
    (v : Value) (n : Nat) (xs : List Value) (hown : w.ownsRow base e size v n xs)
    (F : Nat → Prop) (A : Option Addr) (m c : Nat) (news : List Value) (hr : Rd w F size A m news) (h1 : ∀ u ∈ news, u.oneCell' = true)
    (h63 : n + m ≤ maxLen) (hbytes : (n + m) * bytes ≤ 140737488355328) (hbase : base ≤ w.heap.size) :
    ∃ v' w', (Builtin.append_ #[t, t] ty #[v, .slice A m c]).run P w = .ok v' w' ∧ w'.ownsRow base e size v' (n + m) (xs ++ news) ∧ w.grownBy w' v.ownBlock ∧
      (v'.ownBlock = v.ownBlock ∨ v'.ownBlock = some w.heap.size) := by
  rcases A with _ | ad
  · have hm : m = 0 := by
      rcases Nat.eq_zero_or_pos m with h0 | h0
      · exact h0
      · obtain ⟨_, _, h, _⟩ := hr.2 h0
        cases h
    subst hm
    have hn : news = [] := List.eq_nil_of_length_eq_zero (by simpa using hr.1)
    subst hn
    exact ⟨v, w, run_append_of_nil w base t ty e i size ht hi v n xs hown c, by simpa using hown, World.grownBy.refl w _, .inl rfl⟩
  · have hcells : ∀ j u, news[j]? = some u → w.cell? (ad.add j) = some u := by
      intro j u hu
      rcases Nat.eq_zero_or_pos m with h0 | h0
      · subst h0
        have hn : news = [] := List.eq_nil_of_length_eq_zero (by simpa using hr.1)
        subst hn
        simp at hu
      · obtain ⟨b, o, h, _, hc⟩ := hr.2 h0
        injection h with h
        subst h
        rw [add_eq]
        exact hc j u hu
    obtain ⟨v', w', hrun, h2, h3, _, h5⟩ := run_append_own_at (P := P) w base t ty e i z size bytes ht hi hz hsize hby hzs hsz v n xs hown ad m c news hr.1 hcells h1 h63 hbytes hbase
    exact ⟨v', w', hrun, h2, h3, h5⟩

theorem wp_append_any {o : Oper} {a : Act} {K : Act → World → Prop} {Q : Exit → Act → World → Prop} (s x : Operand) (t : TypeId)
    (ho : o.op = .call { callee := .builtin .append, args := #[s, x], argTypes := #[t, t] })
    (base : Nat) (e : TypeId) (i : TypeInfo) (z : Value) (size bytes : Nat) (ht : P.underlying t = some (.slice e)) (hi : P.info? e = some i) (hz : i.zero = some z)
    (hsize : i.size = size) (hby : i.bytes = bytes) (hzs : z.cells.size = size) (hsz : 0 < size)
    (v : Value) (n : Nat) (xs : List Value) (hs : a.eval s = v) (hown : w.ownsRow base e size v n xs)
    (F : Nat → Prop) (A : Option Addr) (m c : Nat) (news : List Value) (hx : a.eval x = .slice A m c) (hr : Rd w F size A m news) (h1 : ∀ u ∈ news, u.oneCell' = true)
    (h63 : n + m ≤ maxLen) (hbytes : (n + m) * bytes ≤ 140737488355328) (hbase : base ≤ w.heap.size)
    (h : ∀ v' w', w'.ownsRow base e size v' (n + m) (xs ++ news) → w.grownBy w' v.ownBlock → (v'.ownBlock = v.ownBlock ∨ v'.ownBlock = some w.heap.size) → K (a.put o.dst v') w') : o.wp P a w K Q := by
  obtain ⟨v', w', hrun, h2, h3, h4⟩ := run_append_any (P := P) w base t o.type e i z size bytes ht hi hz hsize hby hzs hsz v n xs hown F A m c news hr h1 h63 hbytes hbase
  unfold Oper.wp execOp
  simp only [ho, resolve, invoke, builtin, Sem.run_bind, Sem.run_pure, Result.andThen_ok, List.map_toArray, List.map_cons, List.map_nil, hs, hx, hrun]
  exact h v' w' h2 h3 h4

theorem wpList_append_any {ops : Array Oper} {rest : List Oper} {o : Oper} {a : Act} {Q : Exit → Act → World → Prop} (hgd : o.guard = none) (s x : Operand) (t : TypeId)
    (ho : o.op = .call { callee := .builtin .append, args := #[s, x], argTypes := #[t, t] })
    (base : Nat) (e : TypeId) (i : TypeInfo) (z : Value) (size bytes : Nat) (ht : P.underlying t = some (.slice e)) (hi : P.info? e = some i) (hz : i.zero = some z)
    (hsize : i.size = size) (hby : i.bytes = bytes) (hzs : z.cells.size = size) (hsz : 0 < size)
    (v : Value) (n : Nat) (xs : List Value) (hs : a.eval s = v) (hown : w.ownsRow base e size v n xs)
    (F : Nat → Prop) (A : Option Addr) (m c : Nat) (news : List Value) (hx : a.eval x = .slice A m c) (hr : Rd w F size A m news) (h1 : ∀ u ∈ news, u.oneCell' = true)
    (h63 : n + m ≤ maxLen) (hbytes : (n + m) * bytes ≤ 140737488355328) (hbase : base ≤ w.heap.size)
    (h : ∀ v' w', w'.ownsRow base e size v' (n + m) (xs ++ news) → w.grownBy w' v.ownBlock → (v'.ownBlock = v.ownBlock ∨ v'.ownBlock = some w.heap.size) → wpList P ops Q rest (a.put o.dst v') w') : wpList P ops Q (o :: rest) a w :=
  wpList_plain hgd fun _ hK => wp_append_any w s x t ho base e i z size bytes ht hi hz hsize hby hzs hsz v n xs hs hown F A m c news hx hr h1 h63 hbytes hbase fun v' w' h2 h3 h4 => hK _ _ (h v' w' h2 h3 h4)

theorem step_append_any {ops : Array Oper} {o : Oper} {a : Act} {K : Act → World → Prop} {Q : Exit → Act → World → Prop} {E : Prop} (hgd : o.guard = none) (s x : Operand) (t : TypeId)
    (ho : o.op = .call { callee := .builtin .append, args := #[s, x], argTypes := #[t, t] })
    (base : Nat) (e : TypeId) (i : TypeInfo) (z : Value) (size bytes : Nat) (ht : P.underlying t = some (.slice e)) (hi : P.info? e = some i) (hz : i.zero = some z)
    (hsize : i.size = size) (hby : i.bytes = bytes) (hzs : z.cells.size = size) (hsz : 0 < size)
    (v : Value) (n : Nat) (xs : List Value) (hs : a.eval s = v) (hown : w.ownsRow base e size v n xs)
    (F : Nat → Prop) (A : Option Addr) (m c : Nat) (news : List Value) (hx : a.eval x = .slice A m c) (hr : Rd w F size A m news) (h1 : ∀ u ∈ news, u.oneCell' = true)
    (h63 : n + m ≤ maxLen) (hbytes : (n + m) * bytes ≤ 140737488355328) (hbase : base ≤ w.heap.size)
    (h : ∀ v' w', w'.ownsRow base e size v' (n + m) (xs ++ news) → w.grownBy w' v.ownBlock → (v'.ownBlock = v.ownBlock ∨ v'.ownBlock = some w.heap.size) → K (a.put o.dst v') w') :
    if Region.wanted o (yielded ops a.tmps) = true then Oper.wp P o a w K Q else E := by
  have hw : Region.wanted o (yielded ops a.tmps) = true := by simp [Region.wanted, hgd]
  rw [if_pos hw]
  exact wp_append_any w s x t ho base e i z size bytes ht hi hz hsize hby hzs hsz v n xs hs hown F A m c news hx hr h1 h63 hbytes hbase h
end

/-- an empty row that the call has just made -/
theorem own_made (w : World) (e : TypeId) (size : Nat) : (w.alloc (.cells #[] e)).ownsRow w.heap.size e size (.slice (some ⟨w.heap.size, 0, none⟩) 0 0) 0 [] :=
  ⟨by simp, .inr ⟨w.heap.size, 0, #[], rfl, Nat.le_refl _, heap_alloc_new w _, Nat.le_refl _, by simp [maxLen], by simp, by simp⟩⟩
/-- the value of a row that is owned -/
theorem own_val {w : World} {base : Nat} {e : TypeId} {size n : Nat} {v : Value} {xs : List Value} (h : w.ownsRow base e size v n xs) : ∃ A c, v = .slice A n c ∧ n ≤ c ∧ c ≤ maxLen := by
  rcases h.2 with ⟨rfl, rfl⟩ | ⟨g, cap, cur, rfl, _, _, h1, h2, _⟩
  · exact ⟨none, 0, rfl, Nat.le_refl _, by simp [maxLen]⟩
  · exact ⟨_, cap, rfl, h1, h2⟩
theorem own_mono {w : World} {base base' : Nat} {e : TypeId} {size n : Nat} {v : Value} {xs : List Value} (h : w.ownsRow base e size v n xs) (hb : base' ≤ base) : w.ownsRow base' e size v n xs := by
  refine ⟨h.1, ?_⟩
  rcases h.2 with h2 | ⟨g, cap, cur, hv, hg, r⟩
  · exact .inl h2
  · exact .inr ⟨g, cap, cur, hv, Nat.le_trans hb hg, r⟩
theorem own_SB {w : World} {base : Nat} {e : TypeId} {n : Nat} {v : Value} {bs : List UInt8} (h : w.ownsRow base e 1 v n (bvs bs)) : SB w (From base) v bs := by
  obtain ⟨A, c, rfl, h1, h2⟩ := own_val h
  exact ⟨A, n, c, rfl, h1, h2, by have := h.1; simpa [bvs] using this.symm, Rd.of_own h⟩
theorem own_chg {S : Nat → Prop} {w w' : World} {base : Nat} {e : TypeId} {size n : Nat} {v : Value} {xs : List Value} (h : w.ownsRow base e size v n xs) (hc : Chg S w w') (hs : ∀ g, v.ownBlock = some g → ¬ S g) : w'.ownsRow base e size v n xs := by
  refine ⟨h.1, ?_⟩
  rcases h.2 with h2 | ⟨g, cap, cur, rfl, hg, hh, r⟩
  · exact .inl h2
  · refine .inr ⟨g, cap, cur, rfl, hg, ?_, r⟩
    have hlt : g < w.heap.size := by
      rcases Nat.lt_or_ge g w.heap.size with h1 | h1
      · exact h1
      · rw [Array.getElem?_eq_none h1] at hh; cases hh
    rw [hc.block g hlt (hs g (by simp [Value.ownBlock]))]; exact hh
theorem own_below {w w' : World} {base : Nat} {e : TypeId} {size n : Nat} {v : Value} {xs : List Value} (h : w.ownsRow base e size v n xs) (hb : Below w.heap.size w w') : w'.ownsRow base e size v n xs :=
  own_chg h (Chg.of_below (S := Nil) hb) (fun _ _ hf => hf)
theorem own_lt {w : World} {base : Nat} {e : TypeId} {size n : Nat} {v : Value} {xs : List Value} (h : w.ownsRow base e size v n xs) : ∀ g, v.ownBlock = some g → base ≤ g ∧ g < w.heap.size := h.lt
end Go.Proofs.Ytgjphmlmndcaeaa

namespace Go.Proofs.Ytgjphmlmndcaeaa
open Go.RowKit

/-- a text in a slice of n bytes at A -/
def Bt (w : World) (F : Nat → Prop) (A : Option Addr) (n c : Nat) (bs : List UInt8) : Prop := n ≤ c ∧ c ≤ maxLen ∧ Hid (n = bs.length) ∧ Rd w F 1 A n (bvs bs)
/-- texts in a slice of n slices at A -/
def Tx (w : World) (F : Nat → Prop) (A : Option Addr) (n c : Nat) (ts : List (List UInt8)) : Prop :=
  n ≤ c ∧ c ≤ maxLen ∧ Hid (n = ts.length) ∧ ∃ vs, Rd w F 1 A n vs ∧ ∀ (i : Nat) (t : List UInt8), ts[i]? = some t → ∃ v, vs[i]? = some v ∧ SB w F v t
/-- numbers in a slice of n ints at A -/
def It (w : World) (F : Nat → Prop) (A : Option Addr) (n c : Nat) (ks : List Int) : Prop := n ≤ c ∧ c ≤ maxLen ∧ Hid (n = ks.length) ∧ Rd w F 1 A n (ks.map (Value.int .i64))

section
variable {S F G : Nat → Prop} {w w' : World} {A : Option Addr} {n c : Nat} {bs : List UInt8} {ts : List (List UInt8)} {ks : List Int}
theorem Bt.nil (w : World) (F : Nat → Prop) : Bt w F none 0 0 [] := ⟨Nat.le_refl _, by simp [maxLen], rfl, Rd.none_ _ _ _ _⟩
theorem Tx.nil (w : World) (F : Nat → Prop) : Tx w F none 0 0 [] := ⟨Nat.le_refl _, by simp [maxLen], rfl, [], Rd.none_ _ _ _ _, fun i t h => by simp at h⟩
theorem It.nil (w : World) (F : Nat → Prop) : It w F none 0 0 [] := ⟨Nat.le_refl _, by simp [maxLen], rfl, Rd.none_ _ _ _ _⟩
theorem Bt.sb (h : Bt w F A n c bs) : SB w F (.slice A n c) bs := ⟨A, n, c, rfl, h.1, h.2.1, h.2.2.1, h.2.2.2⟩
theorem SB.bt (h : SB w F (.slice A n c) bs) : Bt w F A n c bs := by
  obtain ⟨A', n', c', e, h1, h2, h3, h4⟩ := h
  injection e with e1 e2 e3
  subst e1; subst e2; subst e3
  exact ⟨h1, h2, h3, h4⟩
theorem Bt.len (h : Bt w F A n c bs) : n = bs.length := h.2.2.1
theorem Tx.len (h : Tx w F A n c ts) : n = ts.length := h.2.2.1
theorem It.len (h : It w F A n c ks) : n = ks.length := h.2.2.1
theorem Bt.weak (h : Bt w F A n c bs) (hF : ∀ b, F b → G b) : Bt w G A n c bs := ⟨h.1, h.2.1, h.2.2.1, h.2.2.2.weak hF⟩
theorem Bt.chg (h : Bt w F A n c bs) (hc : Chg S w w') (hs : ∀ b, F b → ¬ S b) : Bt w' F A n c bs := ⟨h.1, h.2.1, h.2.2.1, h.2.2.2.chg hc hs⟩
theorem Bt.below (h : Bt w F A n c bs) (hb : Below w.heap.size w w') : Bt w' F A n c bs := ⟨h.1, h.2.1, h.2.2.1, h.2.2.2.below hb⟩
theorem Tx.weak (h : Tx w F A n c ts) (hF : ∀ b, F b → G b) : Tx w G A n c ts :=
  let ⟨h1, h2, h3, vs, h4, h5⟩ := h; ⟨h1, h2, h3, vs, h4.weak hF, fun i t ht => let ⟨v, a, b⟩ := h5 i t ht; ⟨v, a, b.weak hF⟩⟩
theorem Tx.chg (h : Tx w F A n c ts) (hc : Chg S w w') (hs : ∀ b, F b → ¬ S b) : Tx w' F A n c ts :=
  let ⟨h1, h2, h3, vs, h4, h5⟩ := h; ⟨h1, h2, h3, vs, h4.chg hc hs, fun i t ht => let ⟨v, a, b⟩ := h5 i t ht; ⟨v, a, b.chg hc hs⟩⟩
theorem Tx.below (h : Tx w F A n c ts) (hb : Below w.heap.size w w') : Tx w' F A n c ts := h.chg (Chg.of_below (S := Nil) hb) (fun _ _ hf => hf)
theorem It.weak (h : It w F A n c ks) (hF : ∀ b, F b → G b) : It w G A n c ks := ⟨h.1, h.2.1, h.2.2.1, h.2.2.2.weak hF⟩
theorem It.chg (h : It w F A n c ks) (hc : Chg S w w') (hs : ∀ b, F b → ¬ S b) : It w' F A n c ks := ⟨h.1, h.2.1, h.2.2.1, h.2.2.2.chg hc hs⟩
theorem It.below (h : It w F A n c ks) (hb : Below w.heap.size w w') : It w' F A n c ks := ⟨h.1, h.2.1, h.2.2.1, h.2.2.2.below hb⟩
/-- one text -/
theorem Tx.at_ {k : Nat} (h : Tx w F A n c ts) (hk : k < n) : ∃ b o Ak nk ck t, A = some ⟨b, o, none⟩ ∧ F b ∧ ts[k]? = some t ∧ w.cell? ⟨b, o + k, none⟩ = some (.slice Ak nk ck) ∧ nk ≤ ck ∧ ck ≤ maxLen ∧ Hid (nk = t.length) ∧ Rd w F 1 Ak nk (bvs t) := by
  obtain ⟨h1, h2, h3, vs, h4, h5⟩ := h
  have hl : k < ts.length := by have : n = ts.length := h3; omega
  obtain ⟨b, o, u, hA, hF, e1, c1⟩ := h4.at_ hk
  obtain ⟨v, e2, s1⟩ := h5 k ts[k] (List.getElem?_eq_getElem hl)
  rw [e1] at e2
  injection e2 with e2
  subst e2
  obtain ⟨Ak, nk, ck, rfl, k1, k2, k3, k4⟩ := s1
  exact ⟨b, o, Ak, nk, ck, ts[k], hA, hF, List.getElem?_eq_getElem hl, c1, k1, k2, k3, k4⟩
theorem It.at_ {k : Nat} (h : It w F A n c ks) (hk : k < n) : ∃ b o x, A = some ⟨b, o, none⟩ ∧ F b ∧ ks[k]? = some x ∧ w.cell? ⟨b, o + k, none⟩ = some (.int .i64 x) := by
  obtain ⟨b, o, u, hA, hF, e1, c1⟩ := h.2.2.2.at_ hk
  rw [List.getElem?_map, Option.map_eq_some_iff] at e1
  obtain ⟨x, e2, rfl⟩ := e1
  exact ⟨b, o, x, hA, hF, e2, c1⟩
theorem ints_one (ks : List Int) : ∀ u ∈ ks.map (Value.int .i64), u.oneCell' = true := by
  intro u hu; rw [List.mem_map] at hu; obtain ⟨c, _, rfl⟩ := hu; rfl
end

/-- texts in a row of its own at block g; the texts behind it, and ahead of block hi; nothing is frozen -/
def TxS (w : World) (g hi : Nat) (A : Option Addr) (n c : Nat) (ts : List (List UInt8)) : Prop :=
  n ≤ c ∧ c ≤ maxLen ∧ Hid (n = ts.length) ∧ A = some ⟨g, 0, none⟩ ∧ g < hi ∧ ∃ vs, Rd w (Soft (One g) w) 1 A n vs ∧ ∀ (i : Nat) (t : List UInt8), ts[i]? = some t → ∃ v, vs[i]? = some v ∧ SB w (Soft (fun b => g < b ∧ b < hi) w) v t
section
variable {S : Nat → Prop} {w w' : World} {A : Option Addr} {n c g hi : Nat} {bs : List UInt8} {ts : List (List UInt8)} {ks : List Int}
theorem TxS.chg (h : TxS w g hi A n c ts) (hc : Chg S w w') (hs : ∀ b, g ≤ b → b < hi → ¬ S b) : TxS w' g hi A n c ts :=
  let ⟨h1, h2, h3, h4, h5, vs, h6, h7⟩ := h
  ⟨h1, h2, h3, h4, h5, vs, h6.soft_chg Nat.zero_lt_one hc (fun b hb => by have hb : b = g := hb; exact hs b (by omega) (by omega)), fun i t ht => let ⟨v, a, b⟩ := h7 i t ht; ⟨v, a, b.soft_chg hc (fun b hb => hs b (by omega) hb.2)⟩⟩
theorem TxS.below (h : TxS w g hi A n c ts) (hb : Below w.heap.size w w') : TxS w' g hi A n c ts := h.chg (Chg.of_below (S := Nil) hb) (fun _ _ _ hf => hf)
theorem TxS.mono {hj : Nat} (h : TxS w g hi A n c ts) (hh : hi ≤ hj) : TxS w g hj A n c ts :=
  let ⟨h1, h2, h3, h4, h5, vs, h6, h7⟩ := h
  ⟨h1, h2, h3, h4, by omega, vs, h6, fun i t ht => let ⟨v, a, b⟩ := h7 i t ht; ⟨v, a, b.weak (fun b hb => ⟨⟨hb.1.1, by have := hb.1.2; omega⟩, hb.2⟩)⟩⟩
theorem TxS.tx {B : Nat} (h : TxS w g hi A n c ts) (hB : B ≤ g) : Tx w (From B) A n c ts :=
  let ⟨h1, h2, h3, _, _, vs, h6, h7⟩ := h
  ⟨h1, h2, h3, vs, h6.weak (fun b hb => by have hb : b = g := hb.1; show B ≤ b; omega), fun i t ht => let ⟨v, a, b⟩ := h7 i t ht; ⟨v, a, b.weak (fun b hb => by have hb := hb.1.1; show B ≤ b; omega)⟩⟩
theorem Bt.soft_chg {F : Nat → Prop} (h : Bt w (Soft F w) A n c bs) (hc : Chg S w w') (hs : ∀ b, F b → ¬ S b) : Bt w' (Soft F w') A n c bs := ⟨h.1, h.2.1, h.2.2.1, h.2.2.2.soft_chg Nat.zero_lt_one hc hs⟩
theorem It.soft_chg {F : Nat → Prop} (h : It w (Soft F w) A n c ks) (hc : Chg S w w') (hs : ∀ b, F b → ¬ S b) : It w' (Soft F w') A n c ks := ⟨h.1, h.2.1, h.2.2.1, h.2.2.2.soft_chg Nat.zero_lt_one hc hs⟩
theorem Bt.soft_below {F : Nat → Prop} (h : Bt w (Soft F w) A n c bs) (hb : Below w.heap.size w w') : Bt w' (Soft F w') A n c bs := h.soft_chg (Chg.of_below (S := Nil) hb) (fun _ _ hf => hf)
theorem It.soft_below {F : Nat → Prop} (h : It w (Soft F w) A n c ks) (hb : Below w.heap.size w w') : It w' (Soft F w') A n c ks := h.soft_chg (Chg.of_below (S := Nil) hb) (fun _ _ hf => hf)
end

/-- a node, as data -/
structure Nd where
  lev : Int
  high : List UInt8
  right : Int
  keys : List (List UInt8)
  vals : List (List UInt8)
  kids : List Int

/-- the empty node -/
def Nd.zero : Nd := ⟨0, [], 0, [], [], []⟩

/-- a head's three cells -/
def HdV (w : World) (F : Nat → Prop) (vs : List Value) (lev : Int) (high : List UInt8) (right : Int) : Prop :=
  ∃ A n c, vs = [.int .i64 lev, .slice A n c, .int .i64 right] ∧ Bt w F A n c high
/-- a body's three cells -/
def BdV (w : World) (F : Nat → Prop) (vs : List Value) (keys vals : List (List UInt8)) (kids : List Int) : Prop :=
  ∃ A n c B m d C l e, vs = [.slice A n c, .slice B m d, .slice C l e] ∧ Tx w F A n c keys ∧ Tx w F B m d vals ∧ It w F C l e kids
section
variable {S F G : Nat → Prop} {w w' : World} {vs : List Value} {lev right : Int} {high : List UInt8} {keys vals : List (List UInt8)} {kids : List Int}
theorem HdV.weak (h : HdV w F vs lev high right) (hF : ∀ b, F b → G b) : HdV w G vs lev high right := let ⟨A, n, c, e, h⟩ := h; ⟨A, n, c, e, h.weak hF⟩
theorem HdV.chg (h : HdV w F vs lev high right) (hc : Chg S w w') (hs : ∀ b, F b → ¬ S b) : HdV w' F vs lev high right := let ⟨A, n, c, e, h⟩ := h; ⟨A, n, c, e, h.chg hc hs⟩
theorem BdV.weak (h : BdV w F vs keys vals kids) (hF : ∀ b, F b → G b) : BdV w G vs keys vals kids :=
  let ⟨A, n, c, B, m, d, C, l, e, hv, h1, h2, h3⟩ := h; ⟨A, n, c, B, m, d, C, l, e, hv, h1.weak hF, h2.weak hF, h3.weak hF⟩
theorem BdV.chg (h : BdV w F vs keys vals kids) (hc : Chg S w w') (hs : ∀ b, F b → ¬ S b) : BdV w' F vs keys vals kids :=
  let ⟨A, n, c, B, m, d, C, l, e, hv, h1, h2, h3⟩ := h; ⟨A, n, c, B, m, d, C, l, e, hv, h1.chg hc hs, h2.chg hc hs, h3.chg hc hs⟩
end
end Go.Proofs.Ytgjphmlmndcaeaa

namespace Go.Proofs.Ytgjphmlmndcaeaa
open Go.RowKit

abbrev Slt := Int × Nd

/-- a slot's block, and what hangs on it in blocks of C -/
def SlotX (w : World) (C : Nat → Prop) (g : Nat) (s : Slt) : Prop :=
  ∃ hA hn hc kA kn kc vA vn vc dA dn dc, Blk w g 124 #[.int .u64 s.1, .int .i64 s.2.lev, .slice hA hn hc, .int .i64 s.2.right, .slice kA kn kc, .slice vA vn vc, .slice dA dn dc] ∧
    Bt w C hA hn hc s.2.high ∧ Tx w C kA kn kc s.2.keys ∧ Tx w C vA vn vc s.2.vals ∧ It w C dA dn dc s.2.kids

/-- a pointer to the head of a block -/
def ptr (g : Nat) : Value := .pointer (some ⟨g, 0, none⟩)
/-- the blocks that are written -/
def Mut (p : Nat) (v : Value) (bs : List Nat) : Nat → Prop := fun b => b = p ∨ v.ownBlock = some b ∨ b ∈ bs

/-- the arena at block p: all its blocks are of F -/
structure ArY (w : World) (F : Nat → Prop) (p : Nat) (nodes : Int) (sl : List Slt) (root : Int) (A : Option Addr) (n c : Nat) (bs : List Nat) : Prop where
  len : Hid (n = sl.length)
  blen : Hid (bs.length = n)
  blk : Blk w p 119 #[.int .i64 nodes, .slice A n c, .int .i64 root]
  row : w.ownsRow 0 120 1 (.slice A n c) n (bs.map ptr)
  fp : F p
  frow : ∀ b, (Value.slice A n c).ownBlock = some b → F b
  fbs : ∀ b ∈ bs, F b
  nodup : bs.Nodup
  slot : ∀ (i g : Nat) (s : Slt), bs[i]? = some g → sl[i]? = some s → SlotX w (fun b => F b ∧ ¬ Mut p (.slice A n c) bs b) g s

def ArX (w : World) (F : Nat → Prop) (p : Nat) (nodes : Int) (sl : List Slt) (root : Int) : Prop := ∃ A n c bs, ArY w F p nodes sl root A n c bs

section
variable {S F G C D : Nat → Prop} {w w' : World} {p : Nat} {nodes root : Int} {sl : List Slt} {A : Option Addr} {n c : Nat} {bs : List Nat}

theorem SlotX.weak {g : Nat} {s : Slt} (h : SlotX w C g s) (hF : ∀ b, C b → D b) : SlotX w D g s := by
  obtain ⟨hA, hn, hc, kA, kn, kc, vA, vn, vc, dA, dn, dc, h1, h2, h3, h4, h5⟩ := h
  exact ⟨hA, hn, hc, kA, kn, kc, vA, vn, vc, dA, dn, dc, h1, h2.weak hF, h3.weak hF, h4.weak hF, h5.weak hF⟩
theorem SlotX.chg {g : Nat} {s : Slt} (h : SlotX w C g s) (hc : Chg S w w') (hg : ¬ S g) (hs : ∀ b, C b → ¬ S b) : SlotX w' C g s := by
  obtain ⟨hA, hn, hc', kA, kn, kc, vA, vn, vc, dA, dn, dc, h1, h2, h3, h4, h5⟩ := h
  exact ⟨hA, hn, hc', kA, kn, kc, vA, vn, vc, dA, dn, dc, h1.chg hc hg, h2.chg hc hs, h3.chg hc hs, h4.chg hc hs, h5.chg hc hs⟩
theorem Bt.lt {bs' : List UInt8} {m d : Nat} (h : Bt w C A m d bs') : Bt w (fun b => C b ∧ b < w.heap.size) A m d bs' := ⟨h.1, h.2.1, h.2.2.1, h.2.2.2.lt Nat.zero_lt_one⟩
theorem It.lt {ks : List Int} {m d : Nat} (h : It w C A m d ks) : It w (fun b => C b ∧ b < w.heap.size) A m d ks := ⟨h.1, h.2.1, h.2.2.1, h.2.2.2.lt Nat.zero_lt_one⟩
theorem Tx.lt {ts : List (List UInt8)} {m d : Nat} (h : Tx w C A m d ts) : Tx w (fun b => C b ∧ b < w.heap.size) A m d ts :=
  let ⟨h1, h2, h3, vs, h4, h5⟩ := h; ⟨h1, h2, h3, vs, h4.lt Nat.zero_lt_one, fun i t ht => let ⟨v, a, b⟩ := h5 i t ht; ⟨v, a, b.lt⟩⟩
theorem SlotX.lt {g : Nat} {s : Slt} (h : SlotX w C g s) : SlotX w (fun b => C b ∧ b < w.heap.size) g s := by
  obtain ⟨hA, hn, hc', kA, kn, kc, vA, vn, vc, dA, dn, dc, h1, h2, h3, h4, h5⟩ := h
  exact ⟨hA, hn, hc', kA, kn, kc, vA, vn, vc, dA, dn, dc, h1, h2.lt, h3.lt, h4.lt, h5.lt⟩

theorem ArY.weak (h : ArY w F p nodes sl root A n c bs) (hF : ∀ b, F b → G b) : ArY w G p nodes sl root A n c bs :=
  ⟨h.len, h.blen, h.blk, h.row, hF _ h.fp, fun b hb => hF _ (h.frow b hb), fun b hb => hF _ (h.fbs b hb), h.nodup, fun i g s hg hs => (h.slot i g s hg hs).weak (fun b hb => ⟨hF _ hb.1, hb.2⟩)⟩
theorem ArX.weak (h : ArX w F p nodes sl root) (hF : ∀ b, F b → G b) : ArX w G p nodes sl root := let ⟨A, n, c, bs, h⟩ := h; ⟨A, n, c, bs, h.weak hF⟩
theorem ArY.chg (h : ArY w F p nodes sl root A n c bs) (hc : Chg S w w') (hs : ∀ b, F b → ¬ S b) : ArY w' F p nodes sl root A n c bs :=
  ⟨h.len, h.blen, h.blk.chg hc (hs _ h.fp), own_chg h.row hc (fun g hg => hs _ (h.frow g hg)), h.fp, h.frow, h.fbs, h.nodup, fun i g s hg hsl => (h.slot i g s hg hsl).chg hc (hs _ (h.fbs g (List.mem_of_getElem? hg))) (fun b hb => hs _ hb.1)⟩
theorem ArX.chg (h : ArX w F p nodes sl root) (hc : Chg S w w') (hs : ∀ b, F b → ¬ S b) : ArX w' F p nodes sl root := let ⟨A, n, c, bs, h⟩ := h; ⟨A, n, c, bs, h.chg hc hs⟩
theorem ArX.below (h : ArX w F p nodes sl root) (hb : Below w.heap.size w w') : ArX w' F p nodes sl root := h.chg (Chg.of_below (S := Nil) hb) (fun _ _ hf => hf)
theorem ArY.below (h : ArY w F p nodes sl root A n c bs) (hb : Below w.heap.size w w') : ArY w' F p nodes sl root A n c bs := h.chg (Chg.of_below (S := Nil) hb) (fun _ _ hf => hf)

/-- the three cells of the struct -/
theorem ArY.cells (h : ArY w F p nodes sl root A n c bs) : w.cell? ⟨p, 0, none⟩ = some (.int .i64 nodes) ∧ w.cell? ⟨p, 1, none⟩ = some (.slice A n c) ∧ w.cell? ⟨p, 2, none⟩ = some (.int .i64 root) ∧ ∀ o, w.frozen? ⟨p, o, none⟩ = false :=
  ⟨by rw [h.blk.cell]; rfl, by rw [h.blk.cell]; rfl, by rw [h.blk.cell]; rfl, h.blk.frozen⟩
/-- the cell of one slot's pointer -/
theorem ArY.at_ (h : ArY w F p nodes sl root A n c bs) {k : Nat} (hk : k < n) : ∃ r g, A = some ⟨r, 0, none⟩ ∧ bs[k]? = some g ∧ w.cell? ⟨r, k, none⟩ = some (.pointer (some ⟨g, 0, none⟩)) := by
  have hl : k < bs.length := by have : bs.length = n := h.blen; omega
  obtain ⟨r, cap, hv, _, _⟩ := h.row.form (by omega)
  have hA : A = some ⟨r, 0, none⟩ := by injection hv
  subst hA
  refine ⟨r, bs[k], rfl, List.getElem?_eq_getElem hl, ?_⟩
  have := h.row.cells (g := r) rfl k (ptr bs[k]) (by rw [List.getElem?_map, List.getElem?_eq_getElem hl]; rfl)
  rw [add_eq, Nat.zero_add] at this
  exact this
end

theorem Blk.ne_ {w : World} {g g' : Nat} {t t' : TypeId} {cs cs' : Array Value} (h : Blk w g t cs) (h' : Blk w g' t' cs') (hne : t ≠ t') : g ≠ g' := by
  rintro rfl
  unfold Blk at h h'
  rw [h] at h'
  injection h' with h'
  injection h' with _ ht
  exact hne ht
theorem own_blk_ne {w : World} {base : Nat} {e t : TypeId} {size n g : Nat} {v : Value} {xs : List Value} {cs : Array Value} (h : w.ownsRow base e size v n xs) (hg : Blk w g t cs) (hne : e ≠ t) : v.ownBlock ≠ some g := by
  rcases h.2 with ⟨rfl, _⟩ | ⟨g', cap, cur, rfl, _, hh, _⟩
  · simp [Value.ownBlock]
  · intro he
    have : g' = g := by simpa [Value.ownBlock] using he
    subst this
    exact Blk.ne_ (t := e) hh hg hne rfl

section
variable {S F G C D : Nat → Prop} {w w' : World} {p : Nat} {nodes root : Int} {sl : List Slt} {A : Option Addr} {n c : Nat} {bs : List Nat}
/-- the three kinds of written blocks differ -/
theorem ArY.ne_p (h : ArY w F p nodes sl root A n c bs) {g : Nat} (hg : g ∈ bs) : g ≠ p := by
  obtain ⟨i, hi, rfl⟩ := List.mem_iff_getElem.1 hg
  have hs : i < sl.length := by have e1 : n = sl.length := h.len; have e2 : bs.length = n := h.blen; omega
  obtain ⟨hA, hn, hc, kA, kn, kc, vA, vn, vc, dA, dn, dc, hb, _⟩ := h.slot i bs[i] sl[i] (List.getElem?_eq_getElem hi) (List.getElem?_eq_getElem hs)
  exact hb.ne_ h.blk (by decide)
theorem ArY.ne_row (h : ArY w F p nodes sl root A n c bs) {g : Nat} (hg : g ∈ bs) : (Value.slice A n c).ownBlock ≠ some g := by
  obtain ⟨i, hi, rfl⟩ := List.mem_iff_getElem.1 hg
  have hs : i < sl.length := by have e1 : n = sl.length := h.len; have e2 : bs.length = n := h.blen; omega
  obtain ⟨hA, hn, hc, kA, kn, kc, vA, vn, vc, dA, dn, dc, hb, _⟩ := h.slot i bs[i] sl[i] (List.getElem?_eq_getElem hi) (List.getElem?_eq_getElem hs)
  exact own_blk_ne h.row hb (by decide)
theorem ArY.row_p (h : ArY w F p nodes sl root A n c bs) : (Value.slice A n c).ownBlock ≠ some p := own_blk_ne h.row h.blk (by decide)
theorem ArY.lt_bs (h : ArY w F p nodes sl root A n c bs) {g : Nat} (hg : g ∈ bs) : g < w.heap.size := by
  obtain ⟨i, hi, rfl⟩ := List.mem_iff_getElem.1 hg
  have hs : i < sl.length := by have e1 : n = sl.length := h.len; have e2 : bs.length = n := h.blen; omega
  obtain ⟨hA, hn, hc, kA, kn, kc, vA, vn, vc, dA, dn, dc, hb, _⟩ := h.slot i bs[i] sl[i] (List.getElem?_eq_getElem hi) (List.getElem?_eq_getElem hs)
  exact hb.lt

/-- one slot is another one; what hangs on it may be new -/
theorem ArY.upd (h : ArY w F p nodes sl root A n c bs) {i g : Nat} {s : Slt} (hg : bs[i]? = some g) (hc : Chg (One g) w w') (hF : ∀ b, F b → G b)
    (hx : SlotX w' (fun b => G b ∧ ¬ Mut p (.slice A n c) bs b) g s) : ArY w' G p nodes (sl.set i s) root A n c bs := by
  have hgm : g ∈ bs := List.mem_of_getElem? hg
  have hil : i < sl.length := by have e1 : n = sl.length := h.len; have e2 : bs.length = n := h.blen; have := (List.getElem?_eq_some_iff.1 hg).1; omega
  refine ⟨by have e1 : n = sl.length := h.len; show n = (sl.set i s).length; simp [e1], h.blen, h.blk.chg hc (fun e => h.ne_p hgm (show p = g from e).symm), own_chg h.row hc (fun b hb e => h.ne_row hgm (by rw [hb]; rw [show b = g from e])), hF _ h.fp, fun b hb => hF _ (h.frow b hb), fun b hb => hF _ (h.fbs b hb), h.nodup, ?_⟩
  intro j g' s' hg' hs'
  by_cases hij : i = j
  · subst hij
    rw [hg] at hg'
    injection hg' with hg'
    subst hg'
    rw [List.getElem?_set_self hil] at hs'
    injection hs' with hs'
    subst hs'
    exact hx
  · rw [List.getElem?_set_ne hij] at hs'
    have hne : g' ≠ g := by
      rintro rfl
      have l1 := (List.getElem?_eq_some_iff.1 hg)
      have l2 := (List.getElem?_eq_some_iff.1 hg')
      exact hij ((List.getElem_inj h.nodup).1 (l1.2.trans l2.2.symm))
    exact ((h.slot j g' s' hg' hs').chg hc (fun e => hne e) (fun b hb e => hb.2 (.inr (.inr ((show b = g from e) ▸ hgm))))).weak (fun b hb => ⟨hF _ hb.1, hb.2⟩)

/-- another root -/
theorem ArY.setRoot (h : ArY w F p nodes sl root A n c bs) (r : Int) : ArY (w.setCell ⟨p, 2, none⟩ (.int .i64 r)) F p nodes sl r A n c bs := by
  have hc := Chg.set1 w p 2 (.int .i64 r)
  refine ⟨h.len, h.blen, ?_, own_chg h.row hc (fun b hb e => h.row_p (by rw [hb]; rw [show b = p from e])), h.fp, h.frow, h.fbs, h.nodup, fun i g s hg hs => (h.slot i g s hg hs).chg hc (fun e => h.ne_p (List.mem_of_getElem? hg) e) (fun b hb e => hb.2 (.inl e))⟩
  have := h.blk.set_ 2 (.int .i64 r)
  exact this

/-- the empty slot's block -/
def slot0 (word : Int) : Array Value := #[.int .u64 word, .int .i64 0, .slice none 0 0, .int .i64 0, .slice none 0 0, .slice none 0 0, .slice none 0 0]
theorem slot0_is {w : World} {g : Nat} {word : Int} (C : Nat → Prop) (h : Blk w g 124 (slot0 word)) : SlotX w C g (word, Nd.zero) :=
  ⟨none, 0, 0, none, 0, 0, none, 0, 0, none, 0, 0, h, Bt.nil _ _, Tx.nil _ _, Tx.nil _ _, It.nil _ _⟩

/-- a slot more: its block g is new; the row has grown, perhaps into a new block; the struct's slice is the new one -/
theorem ArY.push {w1 w2 w3 : World} (h : ArY w F p nodes sl root A n c bs) {g : Nat} (hg : g = w.heap.size) (h1 : Below w.heap.size w w1) (k1 : Blk w1 g 124 (slot0 1))
    {A' : Option Addr} {c' : Nat} (hrow : w2.ownsRow 0 120 1 (.slice A' (n + 1) c') (n + 1) (bs.map ptr ++ [ptr g])) (hgr : w1.grownBy w2 (Value.slice A n c).ownBlock)
    (hat : (Value.slice A' (n + 1) c').ownBlock = (Value.slice A n c).ownBlock ∨ (Value.slice A' (n + 1) c').ownBlock = some w1.heap.size)
    (h3 : w3 = w2.setCell ⟨p, 1, none⟩ (.slice A' (n + 1) c')) :
    ArY w3 (fun b => F b ∨ w.heap.size ≤ b) p nodes (sl ++ [(1, Nd.zero)]) root A' (n + 1) c' (bs ++ [g]) ∧ Chg F w w3 := by
  have hpl : p < w.heap.size := h.blk.lt
  have hs1 := h1.size
  have hgl : g < w1.heap.size := k1.lt
  have hrow1 := own_below h.row h1
  have hpr : (Value.slice A n c).ownBlock ≠ some p := h.row_p
  have hgr' : (Value.slice A n c).ownBlock ≠ some g := own_blk_ne hrow1 k1 (by decide)
  have c2 : Chg (fun b => (Value.slice A n c).ownBlock = some b) w1 w2 := (Chg.refl _ _).grown hgr (fun b hb _ => hb)
  have c3 : Chg (One p) w2 w3 := by subst h3; exact Chg.set1 w2 p 1 _
  have hs2 := c2.size
  have hp2 : Blk w2 p 119 #[.int .i64 nodes, .slice A n c, .int .i64 root] := (h.blk.below h1).chg c2 hpr
  have hp3 : Blk w3 p 119 #[.int .i64 nodes, .slice A' (n + 1) c', .int .i64 root] := by subst h3; exact hp2.set_ 1 _
  have hrp : (Value.slice A' (n + 1) c').ownBlock ≠ some p := own_blk_ne hrow hp2 (by decide)
  have hrow3 := own_chg hrow c3 (fun b hb e => hrp (by rw [hb]; rw [show b = p from e]))
  have kg3 : Blk w3 g 124 (slot0 1) := (k1.chg c2 hgr').chg c3 (fun e => by have e : g = p := e; omega)
  have hch : Chg F w w3 := ((Chg.of_below (S := F) h1).trans c2 (fun b _ hb => h.frow b hb)).trans c3 (fun b _ hb => by have hb : b = p := hb; rw [hb]; exact h.fp)
  refine ⟨⟨?_, ?_, hp3, ?_, .inl h.fp, ?_, ?_, ?_, ?_⟩, hch⟩
  · have e1 : n = sl.length := h.len
    show n + 1 = (sl ++ [(1, Nd.zero)]).length
    simp [e1]
  · have e2 : bs.length = n := h.blen
    show (bs ++ [g]).length = n + 1
    simp [e2]
  · rw [List.map_append]; exact hrow3
  · intro b hb
    rcases hat with e | e
    · exact .inl (h.frow b (by rw [← e]; exact hb))
    · rw [e] at hb; injection hb with hb; exact .inr (by omega)
  · intro b hb
    rcases List.mem_append.1 hb with hb | hb
    · exact .inl (h.fbs b hb)
    · have : b = g := by simpa using hb
      exact .inr (by omega)
  · rw [List.nodup_append]
    refine ⟨h.nodup, by simp, fun a ha b hb e => ?_⟩
    have hb : b = g := by simpa using hb
    have := h.lt_bs ha
    omega
  · intro i g' s' hg' hs'
    have e1 : n = sl.length := h.len
    have e2 : bs.length = n := h.blen
    rcases Nat.lt_or_ge i n with hi | hi
    · rw [List.getElem?_append_left (by omega)] at hg' hs'
      have hgm : g' ∈ bs := List.mem_of_getElem? hg'
      have hx := (h.slot i g' s' hg' hs').lt
      have hx1 : SlotX w1 (fun b => (F b ∧ ¬ Mut p (.slice A n c) bs b) ∧ b < w.heap.size) g' s' := hx.chg (Chg.of_below (S := Nil) h1) (fun hf => hf) (fun _ _ hf => hf)
      have hx2 := hx1.chg c2 (fun e => h.ne_row hgm e) (fun b hb e => hb.1.2 (.inr (.inl e)))
      have hx3 := hx2.chg c3 (fun e => h.ne_p hgm e) (fun b hb e => hb.1.2 (.inl e))
      refine hx3.weak (fun b hb => ⟨.inl hb.1.1, fun hm => ?_⟩)
      rcases hm with hm | hm | hm
      · exact hb.1.2 (.inl hm)
      · rcases hat with e | e
        · exact hb.1.2 (.inr (.inl (by rw [← e]; exact hm)))
        · rw [e] at hm; injection hm with hm; omega
      · rcases List.mem_append.1 hm with hm | hm
        · exact hb.1.2 (.inr (.inr hm))
        · have : b = g := by simpa using hm
          omega
    · have hi2 : i = n := by
        have := (List.getElem?_eq_some_iff.1 hg').1
        simp at this; omega
      subst hi2
      rw [List.getElem?_append_right (by omega)] at hg' hs'
      have e4 : g' = g := by simpa [e2] using hg'.symm
      have e5 : s' = (1, Nd.zero) := by simpa [← e1] using hs'.symm
      subst e4; subst e5
      exact slot0_is _ kg3
end

/-- a block that is new is none of those that are written -/
theorem ArY.mut_lt {F : Nat → Prop} {w : World} {p : Nat} {nodes root : Int} {sl : List Slt} {A : Option Addr} {n c : Nat} {bs : List Nat} (h : ArY w F p nodes sl root A n c bs) {b : Nat} (hb : w.heap.size ≤ b) : ¬ Mut p (.slice A n c) bs b := by
  rintro (e | e | e)
  · have := h.blk.lt; omega
  · have := (own_lt h.row b e).2; omega
  · have := h.lt_bs e; omega
theorem SlotX.setWord {w : World} {C : Nat → Prop} {g : Nat} {s : Slt} (h : SlotX w C g s) (hg : ¬ C g) (x : Int) : SlotX (w.setCell ⟨g, 0, none⟩ (.int .u64 x)) C g (x, s.2) := by
  obtain ⟨hA, hn, hc, kA, kn, kc, vA, vn, vc, dA, dn, dc, h1, h2, h3, h4, h5⟩ := h
  have hch := Chg.set1 w g 0 (.int .u64 x)
  have hs : ∀ b, C b → ¬ One g b := fun b hb e => hg ((show b = g from e) ▸ hb)
  exact ⟨hA, hn, hc, kA, kn, kc, vA, vn, vc, dA, dn, dc, h1.set_ 0 _, h2.chg hch hs, h3.chg hch hs, h4.chg hch hs, h5.chg hch hs⟩
theorem SlotX.setHead {w : World} {C : Nat → Prop} {g : Nat} {s : Slt} (h : SlotX w C g s) (hg : ¬ C g) {A : Option Addr} {n c : Nat} {lev right : Int} {high : List UInt8} (hb : Bt w C A n c high) :
    SlotX (((w.setCell ⟨g, 1, none⟩ (.int .i64 lev)).setCell ⟨g, 2, none⟩ (.slice A n c)).setCell ⟨g, 3, none⟩ (.int .i64 right)) C g (s.1, ⟨lev, high, right, s.2.keys, s.2.vals, s.2.kids⟩) := by
  obtain ⟨hA, hn, hc, kA, kn, kc, vA, vn, vc, dA, dn, dc, h1, h2, h3, h4, h5⟩ := h
  have hch : Chg (One g) w (((w.setCell ⟨g, 1, none⟩ (.int .i64 lev)).setCell ⟨g, 2, none⟩ (.slice A n c)).setCell ⟨g, 3, none⟩ (.int .i64 right)) := ((Chg.set1 w g 1 _).setCell (p := ⟨g, 2, none⟩) (fun _ => rfl) _).setCell (p := ⟨g, 3, none⟩) (fun _ => rfl) _
  have hs : ∀ b, C b → ¬ One g b := fun b hb e => hg ((show b = g from e) ▸ hb)
  exact ⟨A, n, c, kA, kn, kc, vA, vn, vc, dA, dn, dc, ((h1.set_ 1 _).set_ 2 _).set_ 3 _, hb.chg hch hs, h3.chg hch hs, h4.chg hch hs, h5.chg hch hs⟩
theorem SlotX.setBody {w : World} {C : Nat → Prop} {g : Nat} {s : Slt} (h : SlotX w C g s) (hg : ¬ C g) {A B D : Option Addr} {n c m d l k : Nat} {keys vals : List (List UInt8)} {kids : List Int} (ha : Tx w C A n c keys) (hb : Tx w C B m d vals) (hd : It w C D l k kids) :
    SlotX (((w.setCell ⟨g, 4, none⟩ (.slice A n c)).setCell ⟨g, 5, none⟩ (.slice B m d)).setCell ⟨g, 6, none⟩ (.slice D l k)) C g (s.1, ⟨s.2.lev, s.2.high, s.2.right, keys, vals, kids⟩) := by
  obtain ⟨hA, hn, hc, kA, kn, kc, vA, vn, vc, dA, dn, dc, h1, h2, h3, h4, h5⟩ := h
  have hch : Chg (One g) w (((w.setCell ⟨g, 4, none⟩ (.slice A n c)).setCell ⟨g, 5, none⟩ (.slice B m d)).setCell ⟨g, 6, none⟩ (.slice D l k)) := ((Chg.set1 w g 4 _).setCell (p := ⟨g, 5, none⟩) (fun _ => rfl) _).setCell (p := ⟨g, 6, none⟩) (fun _ => rfl) _
  have hs : ∀ b, C b → ¬ One g b := fun b hb e => hg ((show b = g from e) ▸ hb)
  exact ⟨hA, hn, hc, A, n, c, B, m, d, D, l, k, ((h1.set_ 4 _).set_ 5 _).set_ 6 _, h2.chg hch hs, ha.chg hch hs, hb.chg hch hs, hd.chg hch hs⟩
theorem set3_chg (w : World) (g i j k : Nat) (u v x : Value) : Chg (One g) w (((w.setCell ⟨g, i, none⟩ u).setCell ⟨g, j, none⟩ v).setCell ⟨g, k, none⟩ x) :=
  ((Chg.set1 w g i _).setCell (p := ⟨g, j, none⟩) (fun _ => rfl) _).setCell (p := ⟨g, k, none⟩) (fun _ => rfl) _
end Go.Proofs.Ytgjphmlmndcaeaa
