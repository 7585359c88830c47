/- Words for memory: which blocks have turned; a slice that reads as a list, over a set of blocks. No program in sight. Nodes in memory: lists of texts, lists of numbers, heads and bodies. No program in sight. Laws over any program: texts compared by the library's own function, over slices of bytes; texts turned into strings. WALKS: the smallest functions: atomic words; texts compared. -/
import Derived.Below
import Derived.Laws.OwnMore
import Derived.Deep.AppendLies
import Derived.Deep.Draws
import Derived.WalkSmall
import Derived.OwnWalk
import Derived.Lib.Bytealg
import Derived.WalkKit
import Derived.WalkLawsBesides
import Derived.WalkSpells
import Derived.Test.YtgjphmlmndcaeaaChecked
import Derived.Lib.Hide
import Derived.Outline
set_option linter.unusedVariables false
set_option linter.unusedSimpArgs false
namespace Go.Proofs.Ytgjphmlmndcaeaa
open Go.RowKit

/-- only blocks of S have turned; new ones stand behind the old -/
structure Chg (S : Nat → Prop) (w w' : World) : Prop where
  os : w'.os = w.os
  tape : w'.tape = w.tape
  output : w'.output = w.output
  size : w.heap.size ≤ w'.heap.size
  block : ∀ k, k < w.heap.size → ¬ S k → w'.heap[k]? = w.heap[k]?

/-- none of the old blocks has turned -/
def Nil : Nat → Prop := fun _ => False
/-- the blocks from b on -/
def From (b : Nat) : Nat → Prop := fun k => b ≤ k
/-- the blocks below b -/
def Under (b : Nat) : Nat → Prop := fun k => k < b
/-- one block -/
def One (b : Nat) : Nat → Prop := fun k => k = b

section
variable {S T F G : Nat → Prop} {a w w' w1 : World}
theorem Chg.refl (S : Nat → Prop) (w : World) : Chg S w w := ⟨rfl, rfl, rfl, Nat.le_refl _, fun _ _ _ => rfl⟩
theorem Chg.trans (h : Chg S a w) (k : Chg T w w') (hT : ∀ b, b < a.heap.size → T b → S b) : Chg S a w' :=
  ⟨k.os.trans h.os, k.tape.trans h.tape, k.output.trans h.output, Nat.le_trans h.size k.size, fun i hi hs =>
    (k.block i (Nat.lt_of_lt_of_le hi h.size) (fun ht => hs (hT i hi ht))).trans (h.block i hi hs)⟩
theorem Chg.mono (h : Chg S w w') (hT : ∀ b, b < w.heap.size → S b → T b) : Chg T w w' :=
  ⟨h.os, h.tape, h.output, h.size, fun i hi hs => h.block i hi (fun ht => hs (hT i hi ht))⟩
theorem Chg.below (h : Chg Nil w w') : Below w.heap.size w w' := ⟨h.os, h.tape, h.output, h.size, fun k hk => h.block k hk (fun hf => hf)⟩
theorem Chg.of_below (h : Below w.heap.size w w') : Chg S w w' := ⟨h.os, h.tape, h.output, h.size, fun k hk _ => h.block k hk⟩
theorem Chg.below_of {B : Nat} (h : Chg S w w') (hB : B ≤ w.heap.size) (hS : ∀ b, b < B → ¬ S b) : Below B w w' :=
  ⟨h.os, h.tape, h.output, h.size, fun k hk => h.block k (Nat.lt_of_lt_of_le hk hB) (hS k hk)⟩
theorem Chg.of_below_ {B : Nat} (h : Below B w w') (hS : ∀ b, b < w.heap.size → B ≤ b → S b) : Chg S w w' :=
  ⟨h.os, h.tape, h.output, h.size, fun k hk hs => h.block k (by rcases Nat.lt_or_ge k B with h1 | h1; exact h1; exact absurd (hS k hk h1) hs)⟩
/-- behind a step that changes nothing old -/
theorem Chg.then (h : Chg S a w) (k : Below w.heap.size w w') : Chg S a w' := h.trans (Chg.of_below (S := Nil) k) (fun _ _ hf => hf.elim)
theorem Chg.drew (h : Chg S a w) : Chg S a w.drew := ⟨h.os, h.tape, h.output, h.size, h.block⟩
theorem Chg.drewN (h : Chg S a w) (n : Nat) : Chg S a (w.drewN n) := ⟨h.os, h.tape, h.output, h.size, h.block⟩
theorem Chg.alloc (h : Chg S a w) (o : Obj) : Chg S a (w.alloc o) := h.then ((Below.refl _ _).alloc (Nat.le_refl _) _)
theorem Chg.setCell (h : Chg S a w) {p : Addr} (hp : p.block < a.heap.size → S p.block) (u : Value) : Chg S a (w.setCell p u) :=
  h.trans (T := One p.block) ⟨rfl, rfl, rfl, by simp [World.setCell], fun k _ hk => Below.heap_setCell _ _ _ _ (fun e => hk e)⟩ (fun b hb e => by have e : b = p.block := e; subst e; exact hp hb)
/-- a store into block b -/
theorem Chg.set1 (w : World) (b o : Nat) (u : Value) : Chg (One b) w (w.setCell ⟨b, o, none⟩ u) := (Chg.refl (One b) w).setCell (p := ⟨b, o, none⟩) (fun _ => rfl) u
theorem Chg.grown {row : Option Nat} (h : Chg S a w) (hg : w.grownBy w' row) (hr : ∀ k, row = some k → k < a.heap.size → S k) : Chg S a w' :=
  h.trans (T := fun k => row = some k) ⟨hg.os, hg.tape, hg.output, hg.size, fun k hk hs => hg.block k hk (fun e => hs e.symm)⟩ (fun b hb e => hr b e hb)
theorem Chg.heap (h : Chg S w w') {b : Nat} (hb : b < w.heap.size) (hs : ¬ S b) : w'.heap[b]? = w.heap[b]? := h.block b hb hs

theorem cell_lt {o : Nat} {b : Nat} {v : Value} (h : w.cell? ⟨b, o, none⟩ = some v) : b < w.heap.size := by
  by_cases hlt : b < w.heap.size
  · exact hlt
  · simp [World.cell?, Array.getElem?_eq_none (show w.heap.size ≤ b by omega)] at h
theorem Chg.cell (h : Chg S w w') {b o : Nat} {v : Value} (hs : ¬ S b) (hv : w.cell? ⟨b, o, none⟩ = some v) : w'.cell? ⟨b, o, none⟩ = some v :=
  (World.cell?_of_block (w := w) (a := ⟨b, o, none⟩) (h.block b (cell_lt hv) hs)).trans hv
theorem bcell {B : Nat} (hb : Below B w w1) {b o : Nat} (h : b < B) {v : Value} (hv : w.cell? ⟨b, o, none⟩ = some v) : w1.cell? ⟨b, o, none⟩ = some v :=
  (hb.cell (p := ⟨b, o, none⟩) h).trans hv
theorem bkeep (hb : Below w.heap.size w w1) {b o : Nat} {v : Value} (hv : w.cell? ⟨b, o, none⟩ = some v) : w1.cell? ⟨b, o, none⟩ = some v :=
  bcell hb (cell_lt hv) hv
end

/-- A block known whole. -/
def Blk (w : World) (g : Nat) (t : TypeId) (cs : Array Value) : Prop := w.heap[g]? = some (.cells cs t (0, 0))

section
variable {S : Nat → Prop} {w w' : World} {g : Nat} {t : TypeId} {cs : Array Value}
theorem Blk.lt (h : Blk w g t cs) : g < w.heap.size := by
  rcases Nat.lt_or_ge g w.heap.size with hlt | hge
  · exact hlt
  · unfold Blk at h; rw [Array.getElem?_eq_none hge] at h; cases h
theorem Blk.cell (h : Blk w g t cs) (i : Nat) : w.cell? ⟨g, i, none⟩ = cs[i]? := cell_of_row w g i cs t (0, 0) h
theorem Blk.frozen (h : Blk w g t cs) (i : Nat) : w.frozen? ⟨g, i, none⟩ = false := by
  unfold Blk at h
  simp [World.frozen?, h]
theorem Blk.new (w : World) (t : TypeId) (cs : Array Value) : Blk (w.alloc (.cells cs t)) w.heap.size t cs := heap_alloc_new w _
theorem Blk.drew (h : Blk w g t cs) : Blk w.drew g t cs := h
theorem Blk.drewN (h : Blk w g t cs) (n : Nat) : Blk (w.drewN n) g t cs := h
theorem Blk.alloc (h : Blk w g t cs) (o : Obj) : Blk (w.alloc o) g t cs := (Below.heap_alloc w o g h.lt).trans h
theorem Blk.set_ (h : Blk w g t cs) (i : Nat) (u : Value) : Blk (w.setCell ⟨g, i, none⟩ u) g t (cs.setIfInBounds i u) := by
  unfold Blk at h ⊢
  simp [World.setCell, Array.getElem?_modify, h]
theorem Blk.far (h : Blk w g t cs) {p : Addr} (hp : g ≠ p.block) (u : Value) : Blk (w.setCell p u) g t cs := (Below.heap_setCell w p u g hp).trans h
theorem Blk.below (h : Blk w g t cs) (hb : Below w.heap.size w w') : Blk w' g t cs := (hb.block g h.lt).trans h
theorem Blk.chg (h : Blk w g t cs) (hb : Chg S w w') (hs : ¬ S g) : Blk w' g t cs := (hb.block g h.lt hs).trans h
end

/-- A slice that reads as a list: n elements of so many cells each; its cells lie in a block of F. Its address is asked for only where there is an element. -/
def Rd (w : World) (F : Nat → Prop) (size : Nat) (A : Option Addr) (n : Nat) (xs : List Value) : Prop :=
  xs.length = n * size ∧ (0 < n → ∃ b o, A = some ⟨b, o, none⟩ ∧ F b ∧ ∀ j u, xs[j]? = some u → w.cell? ⟨b, o + j, none⟩ = some u)

section
variable {S F G : Nat → Prop} {w w' : World} {size n : Nat} {A : Option Addr} {xs : List Value}
theorem Rd.none_ (w : World) (F : Nat → Prop) (size : Nat) (A : Option Addr) : Rd w F size A 0 [] := ⟨by simp, fun h => absurd h (by omega)⟩
theorem Rd.empty (h : Rd w F size A 0 xs) : xs = [] := List.eq_nil_of_length_eq_zero (by simpa using h.1)
theorem Rd.at_ {k : Nat} (h : Rd w F 1 A n xs) (hk : k < n) : ∃ b o u, A = some ⟨b, o, none⟩ ∧ F b ∧ xs[k]? = some u ∧ w.cell? ⟨b, o + k, none⟩ = some u := by
  obtain ⟨b, o, e, hb, hc⟩ := h.2 (by omega)
  have hl : k < xs.length := by have := h.1; omega
  exact ⟨b, o, xs[k], e, hb, List.getElem?_eq_getElem hl, hc k _ (List.getElem?_eq_getElem hl)⟩
theorem Rd.at2 {k : Nat} (h : Rd w F 2 A n xs) (hk : k < n) : ∃ b o u v, A = some ⟨b, o, none⟩ ∧ F b ∧ xs[2 * k]? = some u ∧ xs[2 * k + 1]? = some v ∧ w.cell? ⟨b, o + 2 * k, none⟩ = some u ∧ w.cell? ⟨b, o + (2 * k + 1), none⟩ = some v := by
  obtain ⟨b, o, e, hb, hc⟩ := h.2 (by omega)
  have hl : 2 * k + 1 < xs.length := by have := h.1; omega
  exact ⟨b, o, xs[2 * k], xs[2 * k + 1], e, hb, List.getElem?_eq_getElem (by omega), List.getElem?_eq_getElem hl, hc _ _ (List.getElem?_eq_getElem (by omega)), hc _ _ (List.getElem?_eq_getElem hl)⟩
theorem Rd.weak (h : Rd w F size A n xs) (hF : ∀ b, F b → G b) : Rd w G size A n xs :=
  ⟨h.1, fun hn => let ⟨b, o, e, hb, hc⟩ := h.2 hn; ⟨b, o, e, hF b hb, hc⟩⟩
theorem Rd.chg (h : Rd w F size A n xs) (hc : Chg S w w') (hs : ∀ b, F b → ¬ S b) : Rd w' F size A n xs :=
  ⟨h.1, fun hn => let ⟨b, o, e, hb, hx⟩ := h.2 hn; ⟨b, o, e, hb, fun j u hu => hc.cell (hs b hb) (hx j u hu)⟩⟩
theorem Rd.below (h : Rd w F size A n xs) (hc : Below w.heap.size w w') : Rd w' F size A n xs := h.chg (Chg.of_below (S := Nil) hc) (fun _ _ hf => hf)
theorem Rd.drew (h : Rd w F size A n xs) : Rd w.drew F size A n xs := h
theorem Rd.drewN (h : Rd w F size A n xs) (k : Nat) : Rd (w.drewN k) F size A n xs := h
theorem Rd.alloc (h : Rd w F size A n xs) (o : Obj) : Rd (w.alloc o) F size A n xs := h.below ((Below.refl _ _).alloc (Nat.le_refl _) _)
theorem Rd.setCell (h : Rd w F size A n xs) {p : Addr} (hp : ¬ F p.block) (u : Value) : Rd (w.setCell p u) F size A n xs :=
  h.chg (S := One p.block) ((Chg.refl (One p.block) w).setCell (p := p) (fun _ => rfl) u) (fun b hb e => by have e : b = p.block := e; subst e; exact hp hb)
theorem Rd.lt (h : Rd w F size A n xs) (hsz : 0 < size) : Rd w (fun b => F b ∧ b < w.heap.size) size A n xs :=
  ⟨h.1, fun hn => by
    obtain ⟨b, o, e, hb, hx⟩ := h.2 hn
    have h0 : 0 < xs.length := by rw [h.1]; exact Nat.mul_pos hn hsz
    exact ⟨b, o, e, ⟨hb, cell_lt (hx 0 _ (List.getElem?_eq_getElem h0))⟩, hx⟩⟩
/-- the cut x[k:] -/
theorem Rd.cut (h : Rd w F size A n xs) {k cap : Nat} (hk : k ≤ n) (hc : n ≤ cap) :
    Rd w F size (if cap = k then A else A.map (·.add (k * size))) (n - k) (xs.drop (k * size)) := by
  refine ⟨by rw [List.length_drop, h.1, Nat.sub_mul], fun hn => ?_⟩
  obtain ⟨b, o, rfl, hb, hcell⟩ := h.2 (by omega)
  rw [if_neg (by omega)]
  refine ⟨b, o + k * size, ?_, hb, fun j u hu => ?_⟩
  · simp only [Option.map_some, Addr.add]
    split
    · simp_all
    · rfl
  · rw [Nat.add_assoc]
    exact hcell _ u (by rw [← hu, List.getElem?_drop])
/-- the cut x[:k] -/
theorem Rd.take (h : Rd w F size A n xs) {k : Nat} (hk : k ≤ n) : Rd w F size A k (xs.take (k * size)) := by
  refine ⟨by rw [List.length_take, h.1]; exact Nat.min_eq_left (Nat.mul_le_mul_right _ hk), fun hn => ?_⟩
  obtain ⟨b, o, rfl, hb, hcell⟩ := h.2 (by omega)
  exact ⟨b, o, rfl, hb, fun j u hu => hcell j u (by
    rw [List.getElem?_take] at hu
    split at hu
    · exact hu
    · cases hu)⟩
theorem add_eq (b o k : Nat) : (Addr.mk b o none).add k = ⟨b, o + k, none⟩ := by
  unfold Addr.add; split
  · simp_all
  · rfl
theorem Rd.cells {b o : Nat} (h : Rd w F size (some ⟨b, o, none⟩) n xs) : ∀ j u, xs[j]? = some u → w.cell? ((⟨b, o, none⟩ : Addr).add j) = some u := by
  intro j u hu
  have hn : 0 < n := by
    rcases Nat.eq_zero_or_pos n with h0 | h0
    · subst h0; rw [h.empty] at hu; simp at hu
    · exact h0
  obtain ⟨b', o', e, _, hc⟩ := h.2 hn
  injection e with e
  injection e with e1 e2
  subst e1; subst e2
  rw [add_eq]; exact hc j u hu
theorem Rd.of_own {base : Nat} {e : TypeId} {c : Nat} (h : w.ownsRow base e size (.slice A n c) n xs) : Rd w (From base) size A n xs := by
  refine ⟨h.1, fun hn => ?_⟩
  obtain ⟨g, cap, hv, hbg, hlt⟩ := h.form hn
  have hA : A = some ⟨g, 0, none⟩ := by injection hv
  subst hA
  exact ⟨g, 0, rfl, hbg, fun j u hu => by have := h.cells (g := g) rfl j u hu; rw [add_eq] at this; exact this⟩
end

/-- bytes as values -/
def bv (c : UInt8) : Value := .int .u8 c.toNat
def bvs (bs : List UInt8) : List Value := bs.map bv
theorem bvs_len (bs : List UInt8) : (bvs bs).length = bs.length := by simp [bvs]
theorem bvs_one (bs : List UInt8) : ∀ u ∈ bvs bs, u.oneCell' = true := by
  intro u hu; simp only [bvs, List.mem_map] at hu; obtain ⟨c, _, rfl⟩ := hu; rfl
theorem bvs_at {bs : List UInt8} {k : Nat} {u : Value} (h : (bvs bs)[k]? = some u) : ∃ c, bs[k]? = some c ∧ u = bv c := by
  simp only [bvs, List.getElem?_map, Option.map_eq_some_iff] at h
  obtain ⟨c, h1, h2⟩ := h
  exact ⟨c, h1, h2.symm⟩

theorem bvs_take (bs : List UInt8) (k : Nat) : (bvs bs).take k = bvs (bs.take k) := by simp [bvs, List.map_take]
theorem bvs_drop (bs : List UInt8) (k : Nat) : (bvs bs).drop k = bvs (bs.drop k) := by simp [bvs, List.map_drop]
theorem Rd.take1 {w : World} {F : Nat → Prop} {A : Option Addr} {n k : Nat} {bs : List UInt8} (h : Rd w F 1 A n (bvs bs)) (hk : k ≤ n) : Rd w F 1 A k (bvs (bs.take k)) := by
  have := h.take hk
  rwa [Nat.mul_one, bvs_take] at this
theorem take_len {α : Type} {l : List α} {k : Nat} (h : k ≤ l.length) : k = (l.take k).length := by simp; omega

/-- the value of a slice of bytes -/
def SB (w : World) (F : Nat → Prop) (v : Value) (bs : List UInt8) : Prop := ∃ A n c, v = .slice A n c ∧ n ≤ c ∧ c ≤ maxLen ∧ n = bs.length ∧ Rd w F 1 A n (bvs bs)

section
variable {S F G : Nat → Prop} {w w' : World} {v : Value} {bs : List UInt8}
theorem SB.nil (w : World) (F : Nat → Prop) : SB w F (.slice none 0 0) [] := ⟨none, 0, 0, rfl, Nat.le_refl _, by simp [maxLen], rfl, Rd.none_ _ _ _ _⟩
theorem SB.weak (h : SB w F v bs) (hF : ∀ b, F b → G b) : SB w G v bs := let ⟨A, n, c, h1, h2, h3, h4, h5⟩ := h; ⟨A, n, c, h1, h2, h3, h4, h5.weak hF⟩
theorem SB.chg (h : SB w F v bs) (hc : Chg S w w') (hs : ∀ b, F b → ¬ S b) : SB w' F v bs := let ⟨A, n, c, h1, h2, h3, h4, h5⟩ := h; ⟨A, n, c, h1, h2, h3, h4, h5.chg hc hs⟩
theorem SB.below (h : SB w F v bs) (hc : Below w.heap.size w w') : SB w' F v bs := let ⟨A, n, c, h1, h2, h3, h4, h5⟩ := h; ⟨A, n, c, h1, h2, h3, h4, h5.below hc⟩
end
theorem SB.lt {w : World} {F : Nat → Prop} {v : Value} {bs : List UInt8} (h : SB w F v bs) : SB w (fun b => F b ∧ b < w.heap.size) v bs :=
  let ⟨A, n, c, h1, h2, h3, h4, h5⟩ := h; ⟨A, n, c, h1, h2, h3, h4, h5.lt Nat.zero_lt_one⟩
theorem SB.and {w : World} {F G : Nat → Prop} {v : Value} {bs : List UInt8} (h : SB w F v bs) (hG : ∀ b, b < w.heap.size → F b → G b) : SB w G v bs := h.lt.weak (fun b hb => hG b hb.2 hb.1)
theorem Rd.and {w : World} {F G : Nat → Prop} {size n : Nat} {A : Option Addr} {xs : List Value} (h : Rd w F size A n xs) (hsz : 0 < size) (hG : ∀ b, b < w.heap.size → F b → G b) : Rd w G size A n xs := (h.lt hsz).weak (fun b hb => hG b hb.2 hb.1)
/-- a slice of one element that has just been made -/
theorem Rd.one (w : World) (u : Value) (t : TypeId) : Rd (w.alloc (.cells #[u] t)) (From w.heap.size) 1 (some ⟨w.heap.size, 0, none⟩) 1 [u] :=
  ⟨rfl, fun _ => ⟨w.heap.size, 0, rfl, Nat.le_refl _, fun j x hj => by
    rw [(Blk.new w t #[u]).cell]
    match j, hj with
    | 0, hj => simpa using hj⟩⟩
/-- no cell of the block is frozen -/
def SoftAt (w : World) (b : Nat) : Prop := ∀ o, w.frozen? ⟨b, o, none⟩ = false
/-- of F, and not frozen -/
def Soft (F : Nat → Prop) (w : World) : Nat → Prop := fun b => F b ∧ SoftAt w b
section
variable {S F G : Nat → Prop} {w w' : World}
theorem SoftAt.chg {b : Nat} (h : SoftAt w b) (hc : Chg S w w') (hb : b < w.heap.size) (hs : ¬ S b) : SoftAt w' b :=
  fun o => (World.frozen?_of_block (w := w) (a := ⟨b, o, none⟩) (hc.block b hb hs)).trans (h o)
theorem Blk.soft {g : Nat} {t : TypeId} {cs : Array Value} (h : Blk w g t cs) : SoftAt w g := h.frozen
theorem Rd.soft_of_own {base : Nat} {e : TypeId} {size n c : Nat} {A : Option Addr} {xs : List Value} (h : w.ownsRow base e size (.slice A n c) n xs) : Rd w (Soft (From base) w) size A n xs := by
  refine ⟨h.1, fun hn => ?_⟩
  obtain ⟨g, cap, hv, hbg, hlt⟩ := h.form hn
  have hA : A = some ⟨g, 0, none⟩ := by injection hv
  subst hA
  refine ⟨g, 0, rfl, ⟨hbg, ?_⟩, fun j u hu => by have := h.cells (g := g) rfl j u hu; rw [add_eq] at this; exact this⟩
  rcases h.2 with ⟨e, _⟩ | ⟨g', cap', cur, e, _, hg, _⟩
  · cases e
  · injection e with e1 e2 e3
    injection e1 with e1
    injection e1 with e1 e2
    subst e1
    exact (show Blk w g _ cur from hg).frozen
theorem Rd.soft_chg {size n : Nat} {A : Option Addr} {xs : List Value} (h : Rd w (Soft F w) size A n xs) (hsz : 0 < size) (hc : Chg S w w') (hs : ∀ b, F b → ¬ S b) : Rd w' (Soft F w') size A n xs :=
  ((h.lt hsz).chg hc (fun b hb => hs b hb.1.1)).weak (fun b hb => ⟨hb.1.1, hb.1.2.chg hc hb.2 (hs b hb.1.1)⟩)
theorem SB.soft_chg {v : Value} {bs : List UInt8} (h : SB w (Soft F w) v bs) (hc : Chg S w w') (hs : ∀ b, F b → ¬ S b) : SB w' (Soft F w') v bs :=
  let ⟨A, n, c, h1, h2, h3, h4, h5⟩ := h; ⟨A, n, c, h1, h2, h3, h4, h5.soft_chg Nat.zero_lt_one hc hs⟩
theorem Soft.weak (hF : ∀ b, F b → G b) : ∀ b, Soft F w b → Soft G w b := fun b hb => ⟨hF b hb.1, hb.2⟩
end
end Go.Proofs.Ytgjphmlmndcaeaa

namespace Go.Proofs.Ytgjphmlmndcaeaa
open Go.RowKit

/-- a text in a slice of n bytes at A -/
def Bt (w : World) (F : Nat → Prop) (A : Option Addr) (n c : Nat) (bs : List UInt8) : Prop := n ≤ c ∧ c ≤ maxLen ∧ Hid (n = bs.length) ∧ Rd w F 1 A n (bvs bs)
/-- texts in a slice of n slices at A -/
def Tx (w : World) (F : Nat → Prop) (A : Option Addr) (n c : Nat) (ts : List (List UInt8)) : Prop :=
  n ≤ c ∧ c ≤ maxLen ∧ Hid (n = ts.length) ∧ ∃ vs, Rd w F 1 A n vs ∧ ∀ (i : Nat) (t : List UInt8), ts[i]? = some t → ∃ v, vs[i]? = some v ∧ SB w F v t
/-- numbers in a slice of n ints at A -/
def It (w : World) (F : Nat → Prop) (A : Option Addr) (n c : Nat) (ks : List Int) : Prop := n ≤ c ∧ c ≤ maxLen ∧ Hid (n = ks.length) ∧ Rd w F 1 A n (ks.map (Value.int .i64))

section
variable {S F G : Nat → Prop} {w w' : World} {A : Option Addr} {n c : Nat} {bs : List UInt8} {ts : List (List UInt8)} {ks : List Int}
theorem Bt.nil (w : World) (F : Nat → Prop) : Bt w F none 0 0 [] := ⟨Nat.le_refl _, by simp [maxLen], rfl, Rd.none_ _ _ _ _⟩
theorem Tx.nil (w : World) (F : Nat → Prop) : Tx w F none 0 0 [] := ⟨Nat.le_refl _, by simp [maxLen], rfl, [], Rd.none_ _ _ _ _, fun i t h => by simp at h⟩
theorem It.nil (w : World) (F : Nat → Prop) : It w F none 0 0 [] := ⟨Nat.le_refl _, by simp [maxLen], rfl, Rd.none_ _ _ _ _⟩
theorem Bt.sb (h : Bt w F A n c bs) : SB w F (.slice A n c) bs := ⟨A, n, c, rfl, h.1, h.2.1, h.2.2.1, h.2.2.2⟩
theorem SB.bt (h : SB w F (.slice A n c) bs) : Bt w F A n c bs := by
  obtain ⟨A', n', c', e, h1, h2, h3, h4⟩ := h
  injection e with e1 e2 e3
  subst e1; subst e2; subst e3
  exact ⟨h1, h2, h3, h4⟩
theorem Bt.len (h : Bt w F A n c bs) : n = bs.length := h.2.2.1
theorem Tx.len (h : Tx w F A n c ts) : n = ts.length := h.2.2.1
theorem It.len (h : It w F A n c ks) : n = ks.length := h.2.2.1
theorem Bt.weak (h : Bt w F A n c bs) (hF : ∀ b, F b → G b) : Bt w G A n c bs := ⟨h.1, h.2.1, h.2.2.1, h.2.2.2.weak hF⟩
theorem Bt.chg (h : Bt w F A n c bs) (hc : Chg S w w') (hs : ∀ b, F b → ¬ S b) : Bt w' F A n c bs := ⟨h.1, h.2.1, h.2.2.1, h.2.2.2.chg hc hs⟩
theorem Bt.below (h : Bt w F A n c bs) (hb : Below w.heap.size w w') : Bt w' F A n c bs := ⟨h.1, h.2.1, h.2.2.1, h.2.2.2.below hb⟩
theorem Tx.weak (h : Tx w F A n c ts) (hF : ∀ b, F b → G b) : Tx w G A n c ts :=
  let ⟨h1, h2, h3, vs, h4, h5⟩ := h; ⟨h1, h2, h3, vs, h4.weak hF, fun i t ht => let ⟨v, a, b⟩ := h5 i t ht; ⟨v, a, b.weak hF⟩⟩
theorem Tx.chg (h : Tx w F A n c ts) (hc : Chg S w w') (hs : ∀ b, F b → ¬ S b) : Tx w' F A n c ts :=
  let ⟨h1, h2, h3, vs, h4, h5⟩ := h; ⟨h1, h2, h3, vs, h4.chg hc hs, fun i t ht => let ⟨v, a, b⟩ := h5 i t ht; ⟨v, a, b.chg hc hs⟩⟩
theorem Tx.below (h : Tx w F A n c ts) (hb : Below w.heap.size w w') : Tx w' F A n c ts := h.chg (Chg.of_below (S := Nil) hb) (fun _ _ hf => hf)
theorem It.weak (h : It w F A n c ks) (hF : ∀ b, F b → G b) : It w G A n c ks := ⟨h.1, h.2.1, h.2.2.1, h.2.2.2.weak hF⟩
theorem It.chg (h : It w F A n c ks) (hc : Chg S w w') (hs : ∀ b, F b → ¬ S b) : It w' F A n c ks := ⟨h.1, h.2.1, h.2.2.1, h.2.2.2.chg hc hs⟩
theorem It.below (h : It w F A n c ks) (hb : Below w.heap.size w w') : It w' F A n c ks := ⟨h.1, h.2.1, h.2.2.1, h.2.2.2.below hb⟩
/-- one text -/
theorem Tx.at_ {k : Nat} (h : Tx w F A n c ts) (hk : k < n) : ∃ b o Ak nk ck t, A = some ⟨b, o, none⟩ ∧ F b ∧ ts[k]? = some t ∧ w.cell? ⟨b, o + k, none⟩ = some (.slice Ak nk ck) ∧ nk ≤ ck ∧ ck ≤ maxLen ∧ Hid (nk = t.length) ∧ Rd w F 1 Ak nk (bvs t) := by
  obtain ⟨h1, h2, h3, vs, h4, h5⟩ := h
  have hl : k < ts.length := by have : n = ts.length := h3; omega
  obtain ⟨b, o, u, hA, hF, e1, c1⟩ := h4.at_ hk
  obtain ⟨v, e2, s1⟩ := h5 k ts[k] (List.getElem?_eq_getElem hl)
  rw [e1] at e2
  injection e2 with e2
  subst e2
  obtain ⟨Ak, nk, ck, rfl, k1, k2, k3, k4⟩ := s1
  exact ⟨b, o, Ak, nk, ck, ts[k], hA, hF, List.getElem?_eq_getElem hl, c1, k1, k2, k3, k4⟩
theorem It.at_ {k : Nat} (h : It w F A n c ks) (hk : k < n) : ∃ b o x, A = some ⟨b, o, none⟩ ∧ F b ∧ ks[k]? = some x ∧ w.cell? ⟨b, o + k, none⟩ = some (.int .i64 x) := by
  obtain ⟨b, o, u, hA, hF, e1, c1⟩ := h.2.2.2.at_ hk
  rw [List.getElem?_map, Option.map_eq_some_iff] at e1
  obtain ⟨x, e2, rfl⟩ := e1
  exact ⟨b, o, x, hA, hF, e2, c1⟩
theorem ints_one (ks : List Int) : ∀ u ∈ ks.map (Value.int .i64), u.oneCell' = true := by
  intro u hu; rw [List.mem_map] at hu; obtain ⟨c, _, rfl⟩ := hu; rfl
end

/-- texts in a row of its own at block g; the texts behind it, and ahead of block hi; nothing is frozen -/
def TxS (w : World) (g hi : Nat) (A : Option Addr) (n c : Nat) (ts : List (List UInt8)) : Prop :=
  n ≤ c ∧ c ≤ maxLen ∧ Hid (n = ts.length) ∧ A = some ⟨g, 0, none⟩ ∧ g < hi ∧ ∃ vs, Rd w (Soft (One g) w) 1 A n vs ∧ ∀ (i : Nat) (t : List UInt8), ts[i]? = some t → ∃ v, vs[i]? = some v ∧ SB w (Soft (fun b => g < b ∧ b < hi) w) v t
section
variable {S : Nat → Prop} {w w' : World} {A : Option Addr} {n c g hi : Nat} {bs : List UInt8} {ts : List (List UInt8)} {ks : List Int}
theorem TxS.chg (h : TxS w g hi A n c ts) (hc : Chg S w w') (hs : ∀ b, g ≤ b → b < hi → ¬ S b) : TxS w' g hi A n c ts :=
  let ⟨h1, h2, h3, h4, h5, vs, h6, h7⟩ := h
  ⟨h1, h2, h3, h4, h5, vs, h6.soft_chg Nat.zero_lt_one hc (fun b hb => by have hb : b = g := hb; exact hs b (by omega) (by omega)), fun i t ht => let ⟨v, a, b⟩ := h7 i t ht; ⟨v, a, b.soft_chg hc (fun b hb => hs b (by omega) hb.2)⟩⟩
theorem TxS.below (h : TxS w g hi A n c ts) (hb : Below w.heap.size w w') : TxS w' g hi A n c ts := h.chg (Chg.of_below (S := Nil) hb) (fun _ _ _ hf => hf)
theorem TxS.mono {hj : Nat} (h : TxS w g hi A n c ts) (hh : hi ≤ hj) : TxS w g hj A n c ts :=
  let ⟨h1, h2, h3, h4, h5, vs, h6, h7⟩ := h
  ⟨h1, h2, h3, h4, by omega, vs, h6, fun i t ht => let ⟨v, a, b⟩ := h7 i t ht; ⟨v, a, b.weak (fun b hb => ⟨⟨hb.1.1, by have := hb.1.2; omega⟩, hb.2⟩)⟩⟩
theorem TxS.tx {B : Nat} (h : TxS w g hi A n c ts) (hB : B ≤ g) : Tx w (From B) A n c ts :=
  let ⟨h1, h2, h3, _, _, vs, h6, h7⟩ := h
  ⟨h1, h2, h3, vs, h6.weak (fun b hb => by have hb : b = g := hb.1; show B ≤ b; omega), fun i t ht => let ⟨v, a, b⟩ := h7 i t ht; ⟨v, a, b.weak (fun b hb => by have hb := hb.1.1; show B ≤ b; omega)⟩⟩
theorem Bt.soft_chg {F : Nat → Prop} (h : Bt w (Soft F w) A n c bs) (hc : Chg S w w') (hs : ∀ b, F b → ¬ S b) : Bt w' (Soft F w') A n c bs := ⟨h.1, h.2.1, h.2.2.1, h.2.2.2.soft_chg Nat.zero_lt_one hc hs⟩
theorem It.soft_chg {F : Nat → Prop} (h : It w (Soft F w) A n c ks) (hc : Chg S w w') (hs : ∀ b, F b → ¬ S b) : It w' (Soft F w') A n c ks := ⟨h.1, h.2.1, h.2.2.1, h.2.2.2.soft_chg Nat.zero_lt_one hc hs⟩
theorem Bt.soft_below {F : Nat → Prop} (h : Bt w (Soft F w) A n c bs) (hb : Below w.heap.size w w') : Bt w' (Soft F w') A n c bs := h.soft_chg (Chg.of_below (S := Nil) hb) (fun _ _ hf => hf)
theorem It.soft_below {F : Nat → Prop} (h : It w (Soft F w) A n c ks) (hb : Below w.heap.size w w') : It w' (Soft F w') A n c ks := h.soft_chg (Chg.of_below (S := Nil) hb) (fun _ _ hf => hf)
end

/-- a node, as data -/
structure Nd where
  lev : Int
  high : List UInt8
  right : Int
  keys : List (List UInt8)
  vals : List (List UInt8)
  kids : List Int

/-- the empty node -/
def Nd.zero : Nd := ⟨0, [], 0, [], [], []⟩

/-- a head's three cells -/
def HdV (w : World) (F : Nat → Prop) (vs : List Value) (lev : Int) (high : List UInt8) (right : Int) : Prop :=
  ∃ A n c, vs = [.int .i64 lev, .slice A n c, .int .i64 right] ∧ Bt w F A n c high
/-- a body's three cells -/
def BdV (w : World) (F : Nat → Prop) (vs : List Value) (keys vals : List (List UInt8)) (kids : List Int) : Prop :=
  ∃ A n c B m d C l e, vs = [.slice A n c, .slice B m d, .slice C l e] ∧ Tx w F A n c keys ∧ Tx w F B m d vals ∧ It w F C l e kids
section
variable {S F G : Nat → Prop} {w w' : World} {vs : List Value} {lev right : Int} {high : List UInt8} {keys vals : List (List UInt8)} {kids : List Int}
theorem HdV.weak (h : HdV w F vs lev high right) (hF : ∀ b, F b → G b) : HdV w G vs lev high right := let ⟨A, n, c, e, h⟩ := h; ⟨A, n, c, e, h.weak hF⟩
theorem HdV.chg (h : HdV w F vs lev high right) (hc : Chg S w w') (hs : ∀ b, F b → ¬ S b) : HdV w' F vs lev high right := let ⟨A, n, c, e, h⟩ := h; ⟨A, n, c, e, h.chg hc hs⟩
theorem BdV.weak (h : BdV w F vs keys vals kids) (hF : ∀ b, F b → G b) : BdV w G vs keys vals kids :=
  let ⟨A, n, c, B, m, d, C, l, e, hv, h1, h2, h3⟩ := h; ⟨A, n, c, B, m, d, C, l, e, hv, h1.weak hF, h2.weak hF, h3.weak hF⟩
theorem BdV.chg (h : BdV w F vs keys vals kids) (hc : Chg S w w') (hs : ∀ b, F b → ¬ S b) : BdV w' F vs keys vals kids :=
  let ⟨A, n, c, B, m, d, C, l, e, hv, h1, h2, h3⟩ := h; ⟨A, n, c, B, m, d, C, l, e, hv, h1.chg hc hs, h2.chg hc hs, h3.chg hc hs⟩
end
end Go.Proofs.Ytgjphmlmndcaeaa

namespace Go.Proofs.Ytgjphmlmndcaeaa
open Go.RowKit

theorem run_loadBytes {P : Program} (w : World) (b : Nat) : ∀ (bs : List UInt8) (o : Nat) (acc : ByteArray), (∀ j u, (bvs bs)[j]? = some u → w.cell? ⟨b, o + j, none⟩ = some u) →
    (Extern.Bytes.loadBytes ⟨b, o, none⟩ bs.length acc).run P w = .ok ⟨acc.data ++ bs.toArray⟩ w
  | [], o, acc, _ => by
    obtain ⟨d⟩ := acc
    simp [Extern.Bytes.loadBytes]
  | c :: bs, o, acc, h => by
    have h0 : w.cell? ⟨b, o, none⟩ = some (.int .u8 c.toNat) := by simpa [bvs, bv] using h 0 (bv c) (by simp [bvs])
    have ih := run_loadBytes (P := P) w b bs (o + 1) (acc.push c) (fun j u hj => by
      have := h (j + 1) u (by simpa [bvs] using hj)
      rw [Nat.add_assoc, Nat.add_comm 1 j]; exact this)
    simp only [List.length_cons, Extern.Bytes.loadBytes, Sem.run_bind]
    simp only [run_load, h0, Result.andThen]
    have e : (Addr.mk b o none).add 1 = ⟨b, o + 1, none⟩ := by simp [Addr.add]
    have e2 : ((c.toNat : Int)).toNat.toUInt8 = c := by simp
    rw [e, e2, ih]
    congr 1
    obtain ⟨d⟩ := acc
    simp [ByteArray.push]

theorem run_bytesOf {P : Program} {w : World} {F : Nat → Prop} {A : Option Addr} {n c : Nat} {bs : List UInt8} (h : Rd w F 1 A n (bvs bs)) (hn : n = bs.length) :
    (Extern.Bytes.bytesOf (.slice A n c)).run P w = .ok ⟨bs.toArray⟩ w := by
  cases A with
  | none =>
    have h0 : n = 0 := by
      rcases Nat.eq_zero_or_pos n with h0 | h0
      · exact h0
      · obtain ⟨_, _, e, _⟩ := h.2 h0; cases e
    subst h0
    have : bs = [] := List.eq_nil_of_length_eq_zero hn.symm
    subst this
    simp [Extern.Bytes.bytesOf]
    rfl
  | some ad =>
    rcases Nat.eq_zero_or_pos n with h0 | h0
    · subst h0
      have : bs = [] := List.eq_nil_of_length_eq_zero hn.symm
      subst this
      simp [Extern.Bytes.bytesOf, Extern.Bytes.loadBytes]
      rfl
    · obtain ⟨b, o, e, _, hc⟩ := h.2 h0
      injection e with e
      subst e
      subst hn
      simp only [Extern.Bytes.bytesOf]
      rw [run_loadBytes w b bs o .empty hc]
      have e : ByteArray.empty.data ++ bs.toArray = bs.toArray := by
        show #[] ++ bs.toArray = bs.toArray
        simp
      rw [e]

/-- the library's comparison, over two slices of bytes -/
theorem run_compareSlices {P : Program} {w : World} {F G : Nat → Prop} {A B : Option Addr} {n m c d : Nat} {xs ys : List UInt8} (h : Rd w F 1 A n (bvs xs)) (hn : n = xs.length) (k : Rd w G 1 B m (bvs ys)) (hm : m = ys.length) :
    (Extern.BytealgCompare.compare #[.slice A n c, .slice B m d]).run P w = .ok (.int .i64 (Lib.compareBytes xs ys)) w := by
  change Sem.run P (do pure (goInt (Extern.BytealgCompare.cmp (← Extern.Bytes.bytesOf (.slice A n c)) (← Extern.Bytes.bytesOf (.slice B m d))))) w = _
  simp only [Sem.run_bind, Sem.run_pure, run_bytesOf h hn, run_bytesOf k hm, Result.andThen]
  rw [Lib.cmp_eq]
  rfl
end Go.Proofs.Ytgjphmlmndcaeaa

namespace Go.Proofs.Ytgjphmlmndcaeaa
open Go.RowKit

theorem u64load_any (b o : Nat) (x : Int) (w : World) (h : w.cell? ⟨b, o, none⟩ = some (.int .u64 x)) :
    Calls Try.prog 52 #[.pointer (some ⟨b, o, none⟩)] w fun e w' => e = .returned (.int .u64 x) ∧ w = w' := by
  have hl := run_call_load (P := Try.prog) Try.func82 (by kernel_rfl) (by kernel_rfl) (by kernel_rfl) .u64 (by kernel_rfl) h
  go_enter Try.func52, Try.ntmps52
  go_wp2
  go_ret
  exact ⟨rfl, rfl⟩
theorem i64load_any (b o : Nat) (x : Int) (w : World) (h : w.cell? ⟨b, o, none⟩ = some (.int .i64 x)) :
    Calls Try.prog 78 #[.pointer (some ⟨b, o, none⟩)] w fun e w' => e = .returned (.int .i64 x) ∧ w = w' := by
  have hl := run_call_load (P := Try.prog) Try.func98 (by kernel_rfl) (by kernel_rfl) (by kernel_rfl) .i64 (by kernel_rfl) h
  go_enter Try.func78, Try.ntmps78
  go_wp2
  go_ret
  exact ⟨rfl, rfl⟩
theorem u64store_any (b o : Nat) (u : Value) (y : Int) (w : World) (h : w.cell? ⟨b, o, none⟩ = some u) (hf : w.frozen? ⟨b, o, none⟩ = false) :
    Calls Try.prog 119 #[.pointer (some ⟨b, o, none⟩), .int .u64 y] w fun e w' => e = .returned (.tuple #[]) ∧ w.setCell ⟨b, o, none⟩ (.int .u64 y) = w' := by
  have hl := run_call_store (P := Try.prog) Try.func125 (by kernel_rfl) (by kernel_rfl) (by kernel_rfl) (by kernel_rfl) (k := .u64) (y := y) h hf
  go_enter Try.func119, Try.ntmps119
  go_wp2
  go_end0
  exact ⟨rfl, rfl⟩
theorem i64store_any (b o : Nat) (u : Value) (y : Int) (w : World) (h : w.cell? ⟨b, o, none⟩ = some u) (hf : w.frozen? ⟨b, o, none⟩ = false) :
    Calls Try.prog 89 #[.pointer (some ⟨b, o, none⟩), .int .i64 y] w fun e w' => e = .returned (.tuple #[]) ∧ w.setCell ⟨b, o, none⟩ (.int .i64 y) = w' := by
  have hl := run_call_store (P := Try.prog) Try.func102 (by kernel_rfl) (by kernel_rfl) (by kernel_rfl) (by kernel_rfl) (k := .i64) (y := y) h hf
  go_enter Try.func89, Try.ntmps89
  go_wp2
  go_end0
  exact ⟨rfl, rfl⟩
theorem u64add_any (b o : Nat) (x y : Int) (w : World) (h : w.cell? ⟨b, o, none⟩ = some (.int .u64 x)) (hf : w.frozen? ⟨b, o, none⟩ = false) :
    Calls Try.prog 121 #[.pointer (some ⟨b, o, none⟩), .int .u64 y] w fun e w' => e = .returned (.int .u64 (IntKind.u64.wrap (x + y))) ∧ w.setCell ⟨b, o, none⟩ (.int .u64 (IntKind.u64.wrap (x + y))) = w' := by
  obtain ⟨s, hs⟩ : ∃ s, s = IntKind.u64.wrap (x + y) := ⟨_, rfl⟩
  rw [← hs]
  have hl := run_call_add (P := Try.prog) Try.func126 (by kernel_rfl) (by kernel_rfl) (by kernel_rfl) .u64 (by kernel_rfl) (x := x) (y := y) (s := s) h hf (by rw [hs]; rfl)
  clear hs
  go_enter Try.func121, Try.ntmps121
  go_wp2
  go_ret
  exact ⟨rfl, rfl⟩
theorem u64cas_hit (b o : Nat) (x z : Int) (w : World) (h : w.cell? ⟨b, o, none⟩ = some (.int .u64 x)) (hf : w.frozen? ⟨b, o, none⟩ = false) :
    Calls Try.prog 118 #[.pointer (some ⟨b, o, none⟩), .int .u64 x, .int .u64 z] w fun e w' => e = .returned (.bool true) ∧ w.setCell ⟨b, o, none⟩ (.int .u64 z) = w' := by
  have hl := run_call_cas_hit (P := Try.prog) Try.func124 (by kernel_rfl) (by kernel_rfl) (by kernel_rfl) .u64 (by kernel_rfl) (y := z) h hf
  go_enter Try.func118, Try.ntmps118
  go_wp2
  go_ret
  exact ⟨rfl, rfl⟩
theorem u64cas_miss (b o : Nat) (x y z : Int) (w : World) (h : w.cell? ⟨b, o, none⟩ = some (.int .u64 x)) (hf : w.frozen? ⟨b, o, none⟩ = false) (hne : ¬ x = y) :
    Calls Try.prog 118 #[.pointer (some ⟨b, o, none⟩), .int .u64 y, .int .u64 z] w fun e w' => e = .returned (.bool false) ∧ w = w' := by
  have hl := run_call_cas_miss (P := Try.prog) Try.func124 (by kernel_rfl) (by kernel_rfl) (by kernel_rfl) .u64 (by kernel_rfl) (y := z) h hf hne
  go_enter Try.func118, Try.ntmps118
  go_wp2
  go_ret
  exact ⟨rfl, rfl⟩
theorem i64cas_hit (b o : Nat) (x z : Int) (w : World) (h : w.cell? ⟨b, o, none⟩ = some (.int .i64 x)) (hf : w.frozen? ⟨b, o, none⟩ = false) :
    Calls Try.prog 95 #[.pointer (some ⟨b, o, none⟩), .int .i64 x, .int .i64 z] w fun e w' => e = .returned (.bool true) ∧ w.setCell ⟨b, o, none⟩ (.int .i64 z) = w' := by
  have hl := run_call_cas_hit (P := Try.prog) Try.func109 (by kernel_rfl) (by kernel_rfl) (by kernel_rfl) .i64 (by kernel_rfl) (y := z) h hf
  go_enter Try.func95, Try.ntmps95
  go_wp2
  go_ret
  exact ⟨rfl, rfl⟩
theorem i64cas_miss (b o : Nat) (x y z : Int) (w : World) (h : w.cell? ⟨b, o, none⟩ = some (.int .i64 x)) (hf : w.frozen? ⟨b, o, none⟩ = false) (hne : ¬ x = y) :
    Calls Try.prog 95 #[.pointer (some ⟨b, o, none⟩), .int .i64 y, .int .i64 z] w fun e w' => e = .returned (.bool false) ∧ w = w' := by
  have hl := run_call_cas_miss (P := Try.prog) Try.func109 (by kernel_rfl) (by kernel_rfl) (by kernel_rfl) .i64 (by kernel_rfl) (y := z) h hf hne
  go_enter Try.func95, Try.ntmps95
  go_wp2
  go_ret
  exact ⟨rfl, rfl⟩

theorem compare_any (A B : Option Addr) (n m c d : Nat) (F G : Nat → Prop) (xs ys : List UInt8) (w : World) (h : Rd w F 1 A n (bvs xs)) (hn : n = xs.length) (k : Rd w G 1 B m (bvs ys)) (hm : m = ys.length) :
    Calls Try.prog 36 #[.slice A n c, .slice B m d] w fun e w' => e = .returned (.int .i64 (Lib.compareBytes xs ys)) ∧ w = w' := by
  have hl : (callFunc 66 #[.slice A n c, .slice B m d]).run Try.prog w = .ok (.value (.int .i64 (Lib.compareBytes xs ys))) w := by
    rw [run_callFunc_extern Try.func66 (by kernel_rfl) (by kernel_rfl) (by kernel_rfl) (e := Extern.BytealgCompare.compare) (by kernel_rfl), run_compareSlices h hn k hm]
    rfl
  clear h k hn hm
  go_enter Try.func36, Try.ntmps36
  go_wp2
  go_ret
  exact ⟨rfl, rfl⟩
end Go.Proofs.Ytgjphmlmndcaeaa
