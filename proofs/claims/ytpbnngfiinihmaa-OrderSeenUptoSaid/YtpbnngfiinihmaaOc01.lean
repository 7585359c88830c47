/- Keys, values and entries in plain lists of bytes: bounds, what two texts have in common, the least text between two, lists that rise. No program in sight. The order of texts: what follows from compareBytes. No program in sight. Words for memory: which blocks have turned; a slice that reads as a list, over a set of blocks. No program in sight. A slice of entries that reads as a list of pairs of texts. No program in sight. -/
import Derived.Lib.Bytealg
import Derived.RowKit
import Derived.Below
import Derived.Laws.OwnMore
import Derived.Deep.AppendLies
import Derived.Deep.Draws
import Derived.WalkSmall
import Derived.OwnWalk
set_option linter.unusedVariables false
set_option linter.unusedSimpArgs false
namespace Go.Proofs.Ytpbnngfiinihmaa
open Go.Lib (compareBytes)

abbrev Ent := List UInt8 × List UInt8

def keyE (k : List UInt8) : Int := if 1 ≤ k.length ∧ k.length ≤ 64 then 0 else 3
def valE (v : List UInt8) : Int := if v.length ≤ 256 then 0 else 3
def entE (e : Ent) : Int := if 1 ≤ e.1.length ∧ e.1.length ≤ 64 ∧ e.2.length ≤ 256 then 0 else 3

theorem keyE_cases (k : List UInt8) : keyE k = 0 ∨ keyE k = 3 := by unfold keyE; split <;> simp
theorem valE_cases (k : List UInt8) : valE k = 0 ∨ valE k = 3 := by unfold valE; split <;> simp
theorem entE_cases (e : Ent) : entE e = 0 ∨ entE e = 3 := by unfold entE; split <;> simp
theorem entE_max (e : Ent) : max (keyE e.1) (valE e.2) = entE e := by
  unfold keyE valE entE
  by_cases h1 : 1 ≤ e.1.length ∧ e.1.length ≤ 64 <;> by_cases h2 : e.2.length ≤ 256
  · rw [if_pos h1, if_pos h2, if_pos ⟨h1.1, h1.2, h2⟩]; rfl
  · rw [if_pos h1, if_neg h2, if_neg (fun h => h2 h.2.2)]; rfl
  · rw [if_neg h1, if_pos h2, if_neg (fun h => h1 ⟨h.1, h.2.1⟩)]; rfl
  · rw [if_neg h1, if_neg h2, if_neg (fun h => h2 h.2.2)]; rfl
theorem entE_key {e : Ent} (h : keyE e.1 ≠ 0) : entE e = keyE e.1 := by
  have := entE_max e
  rcases keyE_cases e.1 with hk | hk
  · exact absurd hk h
  · rcases valE_cases e.2 with hv | hv <;> rw [hk, hv] at this <;> rw [hk, ← this] <;> rfl
theorem entE_val {e : Ent} (h : keyE e.1 = 0) : entE e = valE e.2 := by
  have := entE_max e
  rw [h] at this
  rcases valE_cases e.2 with hv | hv <;> rw [hv] at this <;> rw [hv, ← this] <;> rfl

/-- how many bytes two texts have in common at their beginnings -/
def comm : List UInt8 → List UInt8 → Nat
  | x :: xs, y :: ys => if x = y then comm xs ys + 1 else 0
  | _, _ => 0

theorem comm_le : ∀ (a b : List UInt8), comm a b ≤ a.length ∧ comm a b ≤ b.length
  | [], _ => by simp [comm]
  | _ :: _, [] => by simp [comm]
  | x :: xs, y :: ys => by
    have := comm_le xs ys
    unfold comm; split <;> simp <;> omega
/-- the bytes ahead are the same -/
theorem comm_same : ∀ (a b : List UInt8) (k : Nat), k < comm a b → a[k]? = b[k]?
  | [], _, k, h => by simp [comm] at h
  | _ :: _, [], k, h => by simp [comm] at h
  | x :: xs, y :: ys, k, h => by
    unfold comm at h
    split at h
    · rename_i e; subst e
      cases k with
      | zero => rfl
      | succ k => simpa using comm_same xs ys k (by omega)
    · omega
/-- the byte there is another one -/
theorem comm_other : ∀ (a b : List UInt8), comm a b < a.length → comm a b < b.length → a[comm a b]? ≠ b[comm a b]?
  | [], _, h, _ => by simp [comm] at h
  | _ :: _, [], _, h => by simp [comm] at h
  | x :: xs, y :: ys, h1, h2 => by
    unfold comm at h1 h2 ⊢
    by_cases e : x = y
    · simp only [e, if_true, List.length_cons] at h1 h2 ⊢
      simpa using comm_other xs ys (by omega) (by omega)
    · simp [e]
/-- it is the number: the bytes ahead the same, and an end or another byte there -/
theorem comm_eq (a b : List UInt8) (n : Nat) (h : ∀ k, k < n → a[k]? = b[k]?) (ha : n ≤ a.length) (hb : n ≤ b.length) (hn : n = a.length ∨ n = b.length ∨ a[n]? ≠ b[n]?) : n = comm a b := by
  rcases Nat.lt_trichotomy n (comm a b) with h1 | h1 | h1
  · have hl := comm_le a b
    rcases hn with hn | hn | hn
    · omega
    · omega
    · exact absurd (comm_same a b n h1) hn
  · exact h1
  · exact absurd (h _ h1) (comm_other a b (by omega) (by omega))

theorem compare_range : ∀ (a b : List UInt8), compareBytes a b = -1 ∨ compareBytes a b = 0 ∨ compareBytes a b = 1
  | [], [] => by simp [compareBytes]
  | [], _ :: _ => by simp [compareBytes]
  | _ :: _, [] => by simp [compareBytes]
  | x :: xs, y :: ys => by
    unfold compareBytes
    split
    · simp
    · split
      · simp
      · exact compare_range xs ys
/-- the comparison, by what is in common -/
def cmpC (a b : List UInt8) : Int :=
  if comm a b = a.length ∧ comm a b = b.length then 0
  else if comm a b = a.length then -1
  else if comm a b = b.length then 1
  else if a.getD (comm a b) 0 < b.getD (comm a b) 0 then -1 else 1
theorem cmpC_eq : ∀ (a b : List UInt8), compareBytes a b = cmpC a b
  | [], [] => by simp [compareBytes, cmpC, comm]
  | [], _ :: _ => by simp [compareBytes, cmpC, comm]
  | _ :: _, [] => by simp [compareBytes, cmpC, comm]
  | x :: xs, y :: ys => by
    have ih := cmpC_eq xs ys
    unfold compareBytes
    by_cases e : x = y
    · subst e
      have hlt : ¬ x < x := UInt8.lt_irrefl x
      rw [if_neg hlt, if_neg hlt, ih]
      unfold cmpC
      simp only [comm, if_true, List.length_cons, Nat.add_right_cancel_iff, List.getD_cons_succ]
    · have hc : comm (x :: xs) (y :: ys) = 0 := by simp [comm, e]
      have hv : cmpC (x :: xs) (y :: ys) = if x < y then -1 else 1 := by
        unfold cmpC
        rw [hc]
        simp
      rw [hv]
      by_cases hlt : x < y
      · rw [if_pos hlt, if_pos hlt]
      · have : y < x := UInt8.lt_of_le_of_ne (UInt8.not_lt.1 hlt) (Ne.symm e)
        rw [if_neg hlt, if_neg hlt, if_pos this]

/-- below: the first list is the lesser -/
theorem compare_lt_iff (a b : List UInt8) : compareBytes a b < 0 ↔ (comm a b < b.length ∧ (comm a b = a.length ∨ a.getD (comm a b) 0 < b.getD (comm a b) 0)) := by
  have hl := comm_le a b
  rw [cmpC_eq]
  unfold cmpC
  by_cases h1 : comm a b = a.length
  · by_cases h2 : comm a b = b.length
    · rw [if_pos ⟨h1, h2⟩]; simp; omega
    · rw [if_neg (fun h => h2 h.2), if_pos h1]; simp [h1]; omega
  · rw [if_neg (fun h => h1 h.1), if_neg h1]
    by_cases h2 : comm a b = b.length
    · rw [if_pos h2]; simp; omega
    · rw [if_neg h2]
      by_cases h3 : a.getD (comm a b) 0 < b.getD (comm a b) 0
      · rw [if_pos h3]; simp only [show (-1 : Int) < 0 by omega, true_iff]; exact ⟨by omega, .inr h3⟩
      · rw [if_neg h3]; simp only [show ¬ (1 : Int) < 0 by omega, false_iff]; rintro ⟨_, h | h⟩ <;> contradiction

theorem getD_take (l : List UInt8) (n k : Nat) (h : k < n) : (l.take n).getD k 0 = l.getD k 0 := by
  simp [List.getD, h]
/-- of a shorter beginning -/
theorem comm_take (a b : List UInt8) (n : Nat) (hn : n ≤ b.length) : comm a (b.take n) = min n (comm a b) := by
  have hl := comm_le a b
  symm
  refine comm_eq a (b.take n) _ (fun k hk => ?_) (by omega) (by simp; omega) ?_
  · rw [List.getElem?_take, if_pos (by omega)]
    exact comm_same a b k (by omega)
  · rcases Nat.lt_or_ge (comm a b) n with h | h
    · rw [Nat.min_eq_right (by omega)]
      by_cases h1 : comm a b = a.length
      · exact .inl h1
      · refine .inr (.inr ?_)
        rw [List.getElem?_take, if_pos h]
        exact comm_other a b (by omega) (by omega)
    · rw [Nat.min_eq_left h]
      exact .inr (.inl (by simp; omega))
/-- the least beginning of b above a is the one behind what they have in common -/
theorem between_least {a b : List UInt8} {n : Nat} (hn : n ≤ b.length) : compareBytes a (b.take n) < 0 ↔ (compareBytes a b < 0 ∧ comm a b < n) := by
  have hl := comm_le a b
  have hc := comm_take a b n hn
  rw [compare_lt_iff, compare_lt_iff, hc, List.length_take]
  rcases Nat.lt_or_ge (comm a b) n with h | h
  · have e : min n (comm a b) = comm a b := by omega
    rw [e, getD_take _ _ _ h]
    constructor
    · rintro ⟨h1, h2⟩; exact ⟨⟨by omega, h2⟩, h⟩
    · rintro ⟨⟨h1, h2⟩, _⟩; exact ⟨by omega, h2⟩
  · constructor
    · rintro ⟨h1, _⟩; omega
    · rintro ⟨_, h1⟩; omega

/-- the shortest text above a that is not above b, and the error -/
def betw (a b : List UInt8) : List UInt8 × Int := if compareBytes a b < 0 then (b.take (comm a b + 1), 0) else ([], 51)

/-- what is wrong with an entry of a list -/
def badAt (l : List Ent) (i : Nat) : Int :=
  if entE (l.getD i ([], [])) ≠ 0 then entE (l.getD i ([], []))
  else if 0 < i ∧ 0 ≤ compareBytes (l.getD (i - 1) ([], [])).1 (l.getD i ([], [])).1 then 51 else 0
/-- the first entry that is wrong, and the error -/
def sortedOf (l : List Ent) : Int × Int :=
  match (List.range l.length).find? (fun i => badAt l i != 0) with
  | some i => ((i : Int), badAt l i)
  | none => (0, 0)

theorem find_range_some {p : Nat → Bool} {n i : Nat} (hi : i < n) (h : ∀ j, j < i → p j = false) (hp : p i = true) : (List.range n).find? p = some i := by
  rw [List.find?_range_eq_some]
  exact ⟨hp, by simpa using hi, fun j hj => by simp [h j hj]⟩
theorem find_range_none {p : Nat → Bool} {n : Nat} (h : ∀ j, j < n → p j = false) : (List.range n).find? p = none := by
  rw [List.find?_eq_none]
  intro j hj
  simp [h j (by simpa using hj)]
theorem sorted_at {l : List Ent} {i : Nat} (hi : i < l.length) (h : ∀ j, j < i → badAt l j = 0) (hb : badAt l i ≠ 0) : sortedOf l = ((i : Int), badAt l i) := by
  unfold sortedOf
  rw [find_range_some (i := i) hi (fun j hj => by simp [h j hj]) (by simpa using hb)]
theorem sorted_ok {l : List Ent} (h : ∀ j, j < l.length → badAt l j = 0) : sortedOf l = (0, 0) := by
  unfold sortedOf
  rw [find_range_none (fun j hj => by simp [h j hj])]
/-- a list that rises -/
def Rising (l : List Ent) : Prop := ∀ j, j < l.length → badAt l j = 0
theorem sorted_iff (l : List Ent) : (sortedOf l).2 = 0 ↔ Rising l := by
  constructor
  · intro h j hj
    unfold sortedOf at h
    cases hf : (List.range l.length).find? (fun i => badAt l i != 0) with
    | none =>
      have := (List.find?_eq_none.1 hf) j (by simpa using hj)
      simpa using this
    | some i =>
      rw [hf] at h
      have := List.find?_some hf
      simp only at h
      simp [h] at this
  · intro h; rw [sorted_ok h]
theorem badAt_bad {l : List Ent} {i : Nat} {e : Ent} (he : l[i]? = some e) (h : entE e ≠ 0) : badAt l i = entE e := by
  have hd : l.getD i ([], []) = e := by simp [List.getD, he]
  unfold badAt; rw [hd, if_pos h]
theorem badAt_order {l : List Ent} {i : Nat} {d e : Ent} (he : l[i]? = some e) (hd : l[i - 1]? = some d) (h : entE e = 0) (hi : 0 < i) (hc : 0 ≤ compareBytes d.1 e.1) : badAt l i = 51 := by
  have e1 : l.getD i ([], []) = e := by simp [List.getD, he]
  have e2 : l.getD (i - 1) ([], []) = d := by simp [List.getD, hd]
  unfold badAt; rw [e1, e2, if_neg (by simpa using h), if_pos ⟨hi, hc⟩]
theorem badAt_first {l : List Ent} {e : Ent} (he : l[0]? = some e) (h : entE e = 0) : badAt l 0 = 0 := by
  have e1 : l.getD 0 ([], []) = e := by simp [List.getD, he]
  unfold badAt; rw [e1, if_neg (by simpa using h), if_neg (fun h => by omega)]
theorem badAt_fine {l : List Ent} {i : Nat} {d e : Ent} (he : l[i]? = some e) (hd : l[i - 1]? = some d) (h : entE e = 0) (hc : compareBytes d.1 e.1 < 0) : badAt l i = 0 := by
  have e1 : l.getD i ([], []) = e := by simp [List.getD, he]
  have e2 : l.getD (i - 1) ([], []) = d := by simp [List.getD, hd]
  unfold badAt; rw [e1, e2, if_neg (by simpa using h), if_neg (fun h => by omega)]
end Go.Proofs.Ytpbnngfiinihmaa

namespace Go.Proofs.Ytpbnngfiinihmaa
open Go.Lib (compareBytes)
theorem cb_swap : ∀ (a b : List UInt8), compareBytes b a = - compareBytes a b
  | [], [] => by simp [compareBytes]
  | [], _ :: _ => by simp [compareBytes]
  | _ :: _, [] => by simp [compareBytes]
  | x :: xs, y :: ys => by
    have ih := cb_swap xs ys
    unfold compareBytes
    by_cases h1 : x < y
    · rw [if_pos h1, if_neg (UInt8.lt_asymm h1), if_pos h1]; rfl
    · by_cases h2 : y < x
      · rw [if_pos h2, if_neg h1, if_pos h2]
      · rw [if_neg h1, if_neg h2, if_neg h2, if_neg h1]; exact ih
theorem cb_refl : ∀ (a : List UInt8), compareBytes a a = 0
  | [] => by simp [compareBytes]
  | x :: xs => by
    unfold compareBytes
    rw [if_neg (UInt8.lt_irrefl x), if_neg (UInt8.lt_irrefl x)]
    exact cb_refl xs
theorem cb_eq : ∀ (a b : List UInt8), compareBytes a b = 0 → a = b
  | [], [], _ => rfl
  | [], _ :: _, h => by simp [compareBytes] at h
  | _ :: _, [], h => by simp [compareBytes] at h
  | x :: xs, y :: ys, h => by
    unfold compareBytes at h
    by_cases h1 : x < y
    · rw [if_pos h1] at h; simp at h
    · by_cases h2 : y < x
      · rw [if_neg h1, if_pos h2] at h; simp at h
      · rw [if_neg h1, if_neg h2] at h
        have e : x = y := UInt8.le_antisymm (UInt8.not_lt.1 h2) (UInt8.not_lt.1 h1)
        rw [e, cb_eq xs ys h]
theorem cb_trans : ∀ (a b c : List UInt8), compareBytes a b < 0 → compareBytes b c < 0 → compareBytes a c < 0
  | _, [], [], h1, h2 => by simp [compareBytes] at h2
  | [], _, [], h1, h2 => by
    rename_i b
    cases b <;> simp [compareBytes] at h2
  | _ :: _, [], _, h1, _ => by simp [compareBytes] at h1
  | _, _ :: _, [], _, h2 => by simp [compareBytes] at h2
  | [], _, _ :: _, _, _ => by simp [compareBytes]
  | x :: xs, y :: ys, z :: zs, h1, h2 => by
    have ih := cb_trans xs ys zs
    unfold compareBytes at h1 h2 ⊢
    by_cases a1 : x < y
    · by_cases b1 : y < z
      · rw [if_pos (UInt8.lt_trans a1 b1)]; simp
      · by_cases b2 : z < y
        · rw [if_neg b1, if_pos b2] at h2; simp at h2
        · have e : y = z := UInt8.le_antisymm (UInt8.not_lt.1 b2) (UInt8.not_lt.1 b1)
          subst e
          rw [if_pos a1]; simp
    · by_cases a2 : y < x
      · rw [if_neg a1, if_pos a2] at h1; simp at h1
      · have e : x = y := UInt8.le_antisymm (UInt8.not_lt.1 a2) (UInt8.not_lt.1 a1)
        subst e
        rw [if_neg a1, if_neg a1] at h1
        by_cases b1 : x < z
        · rw [if_pos b1]; simp
        · by_cases b2 : z < x
          · rw [if_neg b1, if_pos b2] at h2; simp at h2
          · rw [if_neg b1, if_neg b2] at h2 ⊢
            exact ih h1 h2
/-- one text lies ahead of another one -/
def TLt (a b : List UInt8) : Prop := compareBytes a b < 0
/-- one text does not lie behind another one -/
def TLe (a b : List UInt8) : Prop := compareBytes a b ≤ 0
section
variable {a b c : List UInt8}
theorem TLt.trans (h : TLt a b) (k : TLt b c) : TLt a c := cb_trans a b c h k
theorem TLt.le (h : TLt a b) : TLe a b := Int.le_of_lt h
theorem TLe.cases (h : TLe a b) : a = b ∨ TLt a b := by
  unfold TLe at h
  unfold TLt
  by_cases e : compareBytes a b = 0
  · exact .inl (cb_eq a b e)
  · exact .inr (by omega)
theorem TLe.refl (a : List UInt8) : TLe a a := by unfold TLe; rw [cb_refl]; omega
theorem TLt.trans_le (h : TLt a b) (k : TLe b c) : TLt a c := by
  rcases k.cases with e | k
  · subst e; exact h
  · exact h.trans k
theorem TLe.trans_lt (h : TLe a b) (k : TLt b c) : TLt a c := by
  rcases h.cases with e | h
  · subst e; exact k
  · exact h.trans k
theorem TLe.trans (h : TLe a b) (k : TLe b c) : TLe a c := by
  rcases h.cases with e | h
  · subst e; exact k
  · exact (h.trans_le k).le
theorem TLt.irrefl (h : TLt a a) : False := by unfold TLt at h; rw [cb_refl] at h; omega
theorem TLt.ne (h : TLt a b) : a ≠ b := fun e => by subst e; exact h.irrefl
theorem TLe.ge (h : TLe a b) : 0 ≤ compareBytes b a := by have h : compareBytes a b ≤ 0 := h; rw [cb_swap]; omega
theorem TLt.gt (h : TLt a b) : 0 < compareBytes b a := by have h : compareBytes a b < 0 := h; rw [cb_swap]; omega
theorem TLt.pos (h : TLt a b) : b ≠ [] := by
  intro e; subst e
  unfold TLt at h
  cases a <;> simp [compareBytes] at h
theorem TLe.take : ∀ (n : Nat) (b : List UInt8), TLe (b.take n) b
  | 0, [] => TLe.refl _
  | 0, _ :: _ => by simp [TLe, compareBytes]
  | n + 1, [] => TLe.refl _
  | n + 1, x :: xs => by
    have := TLe.take n xs
    unfold TLe at this ⊢
    rw [List.take_succ_cons]
    unfold compareBytes
    rw [if_neg (UInt8.lt_irrefl x), if_neg (UInt8.lt_irrefl x)]
    exact this
/-- what lies between two texts -/
theorem betw_ok (h : TLt a b) (hb : b.length ≤ 64) : TLt a (betw a b).1 ∧ TLe (betw a b).1 b ∧ 1 ≤ (betw a b).1.length ∧ (betw a b).1.length ≤ 64 := by
  have h' : compareBytes a b < 0 := h
  have e : betw a b = (b.take (comm a b + 1), 0) := by unfold betw; rw [if_pos h']
  have hlt := (compare_lt_iff a b).1 h'
  rw [e]
  refine ⟨(between_least (by omega)).2 ⟨h', by omega⟩, TLe.take _ _, ?_, ?_⟩
  · simp only [List.length_take]; omega
  · simp only [List.length_take]; omega
end
end Go.Proofs.Ytpbnngfiinihmaa

namespace Go.Proofs.Ytpbnngfiinihmaa
open Go.RowKit

/-- only blocks of S have turned; new ones stand behind the old -/
structure Chg (S : Nat → Prop) (w w' : World) : Prop where
  os : w'.os = w.os
  tape : w'.tape = w.tape
  output : w'.output = w.output
  size : w.heap.size ≤ w'.heap.size
  block : ∀ k, k < w.heap.size → ¬ S k → w'.heap[k]? = w.heap[k]?

/-- none of the old blocks has turned -/
def Nil : Nat → Prop := fun _ => False
/-- the blocks from b on -/
def From (b : Nat) : Nat → Prop := fun k => b ≤ k
/-- the blocks below b -/
def Under (b : Nat) : Nat → Prop := fun k => k < b
/-- one block -/
def One (b : Nat) : Nat → Prop := fun k => k = b

section
variable {S T F G : Nat → Prop} {a w w' w1 : World}
theorem Chg.refl (S : Nat → Prop) (w : World) : Chg S w w := ⟨rfl, rfl, rfl, Nat.le_refl _, fun _ _ _ => rfl⟩
theorem Chg.trans (h : Chg S a w) (k : Chg T w w') (hT : ∀ b, b < a.heap.size → T b → S b) : Chg S a w' :=
  ⟨k.os.trans h.os, k.tape.trans h.tape, k.output.trans h.output, Nat.le_trans h.size k.size, fun i hi hs =>
    (k.block i (Nat.lt_of_lt_of_le hi h.size) (fun ht => hs (hT i hi ht))).trans (h.block i hi hs)⟩
theorem Chg.mono (h : Chg S w w') (hT : ∀ b, b < w.heap.size → S b → T b) : Chg T w w' :=
  ⟨h.os, h.tape, h.output, h.size, fun i hi hs => h.block i hi (fun ht => hs (hT i hi ht))⟩
theorem Chg.below (h : Chg Nil w w') : Below w.heap.size w w' := ⟨h.os, h.tape, h.output, h.size, fun k hk => h.block k hk (fun hf => hf)⟩
theorem Chg.of_below (h : Below w.heap.size w w') : Chg S w w' := ⟨h.os, h.tape, h.output, h.size, fun k hk _ => h.block k hk⟩
theorem Chg.below_of {B : Nat} (h : Chg S w w') (hB : B ≤ w.heap.size) (hS : ∀ b, b < B → ¬ S b) : Below B w w' :=
  ⟨h.os, h.tape, h.output, h.size, fun k hk => h.block k (Nat.lt_of_lt_of_le hk hB) (hS k hk)⟩
theorem Chg.of_below_ {B : Nat} (h : Below B w w') (hS : ∀ b, b < w.heap.size → B ≤ b → S b) : Chg S w w' :=
  ⟨h.os, h.tape, h.output, h.size, fun k hk hs => h.block k (by rcases Nat.lt_or_ge k B with h1 | h1; exact h1; exact absurd (hS k hk h1) hs)⟩
/-- behind a step that changes nothing old -/
theorem Chg.then (h : Chg S a w) (k : Below w.heap.size w w') : Chg S a w' := h.trans (Chg.of_below (S := Nil) k) (fun _ _ hf => hf.elim)
theorem Chg.drew (h : Chg S a w) : Chg S a w.drew := ⟨h.os, h.tape, h.output, h.size, h.block⟩
theorem Chg.drewN (h : Chg S a w) (n : Nat) : Chg S a (w.drewN n) := ⟨h.os, h.tape, h.output, h.size, h.block⟩
theorem Chg.alloc (h : Chg S a w) (o : Obj) : Chg S a (w.alloc o) := h.then ((Below.refl _ _).alloc (Nat.le_refl _) _)
theorem Chg.setCell (h : Chg S a w) {p : Addr} (hp : p.block < a.heap.size → S p.block) (u : Value) : Chg S a (w.setCell p u) :=
  h.trans (T := One p.block) ⟨rfl, rfl, rfl, by simp [World.setCell], fun k _ hk => Below.heap_setCell _ _ _ _ (fun e => hk e)⟩ (fun b hb e => by have e : b = p.block := e; subst e; exact hp hb)
/-- a store into block b -/
theorem Chg.set1 (w : World) (b o : Nat) (u : Value) : Chg (One b) w (w.setCell ⟨b, o, none⟩ u) := (Chg.refl (One b) w).setCell (p := ⟨b, o, none⟩) (fun _ => rfl) u
theorem Chg.grown {row : Option Nat} (h : Chg S a w) (hg : w.grownBy w' row) (hr : ∀ k, row = some k → k < a.heap.size → S k) : Chg S a w' :=
  h.trans (T := fun k => row = some k) ⟨hg.os, hg.tape, hg.output, hg.size, fun k hk hs => hg.block k hk (fun e => hs e.symm)⟩ (fun b hb e => hr b e hb)
theorem Chg.heap (h : Chg S w w') {b : Nat} (hb : b < w.heap.size) (hs : ¬ S b) : w'.heap[b]? = w.heap[b]? := h.block b hb hs

theorem cell_lt {o : Nat} {b : Nat} {v : Value} (h : w.cell? ⟨b, o, none⟩ = some v) : b < w.heap.size := by
  by_cases hlt : b < w.heap.size
  · exact hlt
  · simp [World.cell?, Array.getElem?_eq_none (show w.heap.size ≤ b by omega)] at h
theorem Chg.cell (h : Chg S w w') {b o : Nat} {v : Value} (hs : ¬ S b) (hv : w.cell? ⟨b, o, none⟩ = some v) : w'.cell? ⟨b, o, none⟩ = some v :=
  (World.cell?_of_block (w := w) (a := ⟨b, o, none⟩) (h.block b (cell_lt hv) hs)).trans hv
theorem bcell {B : Nat} (hb : Below B w w1) {b o : Nat} (h : b < B) {v : Value} (hv : w.cell? ⟨b, o, none⟩ = some v) : w1.cell? ⟨b, o, none⟩ = some v :=
  (hb.cell (p := ⟨b, o, none⟩) h).trans hv
theorem bkeep (hb : Below w.heap.size w w1) {b o : Nat} {v : Value} (hv : w.cell? ⟨b, o, none⟩ = some v) : w1.cell? ⟨b, o, none⟩ = some v :=
  bcell hb (cell_lt hv) hv
end

/-- A block known whole. -/
def Blk (w : World) (g : Nat) (t : TypeId) (cs : Array Value) : Prop := w.heap[g]? = some (.cells cs t (0, 0))

section
variable {S : Nat → Prop} {w w' : World} {g : Nat} {t : TypeId} {cs : Array Value}
theorem Blk.lt (h : Blk w g t cs) : g < w.heap.size := by
  rcases Nat.lt_or_ge g w.heap.size with hlt | hge
  · exact hlt
  · unfold Blk at h; rw [Array.getElem?_eq_none hge] at h; cases h
theorem Blk.cell (h : Blk w g t cs) (i : Nat) : w.cell? ⟨g, i, none⟩ = cs[i]? := cell_of_row w g i cs t (0, 0) h
theorem Blk.frozen (h : Blk w g t cs) (i : Nat) : w.frozen? ⟨g, i, none⟩ = false := by
  unfold Blk at h
  simp [World.frozen?, h]
theorem Blk.new (w : World) (t : TypeId) (cs : Array Value) : Blk (w.alloc (.cells cs t)) w.heap.size t cs := heap_alloc_new w _
theorem Blk.drew (h : Blk w g t cs) : Blk w.drew g t cs := h
theorem Blk.drewN (h : Blk w g t cs) (n : Nat) : Blk (w.drewN n) g t cs := h
theorem Blk.alloc (h : Blk w g t cs) (o : Obj) : Blk (w.alloc o) g t cs := (Below.heap_alloc w o g h.lt).trans h
theorem Blk.set_ (h : Blk w g t cs) (i : Nat) (u : Value) : Blk (w.setCell ⟨g, i, none⟩ u) g t (cs.setIfInBounds i u) := by
  unfold Blk at h ⊢
  simp [World.setCell, Array.getElem?_modify, h]
theorem Blk.far (h : Blk w g t cs) {p : Addr} (hp : g ≠ p.block) (u : Value) : Blk (w.setCell p u) g t cs := (Below.heap_setCell w p u g hp).trans h
theorem Blk.below (h : Blk w g t cs) (hb : Below w.heap.size w w') : Blk w' g t cs := (hb.block g h.lt).trans h
theorem Blk.chg (h : Blk w g t cs) (hb : Chg S w w') (hs : ¬ S g) : Blk w' g t cs := (hb.block g h.lt hs).trans h
end

/-- A slice that reads as a list: n elements of so many cells each; its cells lie in a block of F. Its address is asked for only where there is an element. -/
def Rd (w : World) (F : Nat → Prop) (size : Nat) (A : Option Addr) (n : Nat) (xs : List Value) : Prop :=
  xs.length = n * size ∧ (0 < n → ∃ b o, A = some ⟨b, o, none⟩ ∧ F b ∧ ∀ j u, xs[j]? = some u → w.cell? ⟨b, o + j, none⟩ = some u)

section
variable {S F G : Nat → Prop} {w w' : World} {size n : Nat} {A : Option Addr} {xs : List Value}
theorem Rd.none_ (w : World) (F : Nat → Prop) (size : Nat) (A : Option Addr) : Rd w F size A 0 [] := ⟨by simp, fun h => absurd h (by omega)⟩
theorem Rd.empty (h : Rd w F size A 0 xs) : xs = [] := List.eq_nil_of_length_eq_zero (by simpa using h.1)
theorem Rd.at_ {k : Nat} (h : Rd w F 1 A n xs) (hk : k < n) : ∃ b o u, A = some ⟨b, o, none⟩ ∧ F b ∧ xs[k]? = some u ∧ w.cell? ⟨b, o + k, none⟩ = some u := by
  obtain ⟨b, o, e, hb, hc⟩ := h.2 (by omega)
  have hl : k < xs.length := by have := h.1; omega
  exact ⟨b, o, xs[k], e, hb, List.getElem?_eq_getElem hl, hc k _ (List.getElem?_eq_getElem hl)⟩
theorem Rd.at2 {k : Nat} (h : Rd w F 2 A n xs) (hk : k < n) : ∃ b o u v, A = some ⟨b, o, none⟩ ∧ F b ∧ xs[2 * k]? = some u ∧ xs[2 * k + 1]? = some v ∧ w.cell? ⟨b, o + 2 * k, none⟩ = some u ∧ w.cell? ⟨b, o + (2 * k + 1), none⟩ = some v := by
  obtain ⟨b, o, e, hb, hc⟩ := h.2 (by omega)
  have hl : 2 * k + 1 < xs.length := by have := h.1; omega
  exact ⟨b, o, xs[2 * k], xs[2 * k + 1], e, hb, List.getElem?_eq_getElem (by omega), List.getElem?_eq_getElem hl, hc _ _ (List.getElem?_eq_getElem (by omega)), hc _ _ (List.getElem?_eq_getElem hl)⟩
theorem Rd.weak (h : Rd w F size A n xs) (hF : ∀ b, F b → G b) : Rd w G size A n xs :=
  ⟨h.1, fun hn => let ⟨b, o, e, hb, hc⟩ := h.2 hn; ⟨b, o, e, hF b hb, hc⟩⟩
theorem Rd.chg (h : Rd w F size A n xs) (hc : Chg S w w') (hs : ∀ b, F b → ¬ S b) : Rd w' F size A n xs :=
  ⟨h.1, fun hn => let ⟨b, o, e, hb, hx⟩ := h.2 hn; ⟨b, o, e, hb, fun j u hu => hc.cell (hs b hb) (hx j u hu)⟩⟩
theorem Rd.below (h : Rd w F size A n xs) (hc : Below w.heap.size w w') : Rd w' F size A n xs := h.chg (Chg.of_below (S := Nil) hc) (fun _ _ hf => hf)
theorem Rd.drew (h : Rd w F size A n xs) : Rd w.drew F size A n xs := h
theorem Rd.drewN (h : Rd w F size A n xs) (k : Nat) : Rd (w.drewN k) F size A n xs := h
theorem Rd.alloc (h : Rd w F size A n xs) (o : Obj) : Rd (w.alloc o) F size A n xs := h.below ((Below.refl _ _).alloc (Nat.le_refl _) _)
theorem Rd.setCell (h : Rd w F size A n xs) {p : Addr} (hp : ¬ F p.block) (u : Value) : Rd (w.setCell p u) F size A n xs :=
  h.chg (S := One p.block) ((Chg.refl (One p.block) w).setCell (p := p) (fun _ => rfl) u) (fun b hb e => by have e : b = p.block := e; subst e; exact hp hb)
theorem Rd.lt (h : Rd w F size A n xs) (hsz : 0 < size) : Rd w (fun b => F b ∧ b < w.heap.size) size A n xs :=
  ⟨h.1, fun hn => by
    obtain ⟨b, o, e, hb, hx⟩ := h.2 hn
    have h0 : 0 < xs.length := by rw [h.1]; exact Nat.mul_pos hn hsz
    exact ⟨b, o, e, ⟨hb, cell_lt (hx 0 _ (List.getElem?_eq_getElem h0))⟩, hx⟩⟩
/-- the cut x[k:] -/
theorem Rd.cut (h : Rd w F size A n xs) {k cap : Nat} (hk : k ≤ n) (hc : n ≤ cap) :
    Rd w F size (if cap = k then A else A.map (·.add (k * size))) (n - k) (xs.drop (k * size)) := by
  refine ⟨by rw [List.length_drop, h.1, Nat.sub_mul], fun hn => ?_⟩
  obtain ⟨b, o, rfl, hb, hcell⟩ := h.2 (by omega)
  rw [if_neg (by omega)]
  refine ⟨b, o + k * size, ?_, hb, fun j u hu => ?_⟩
  · simp only [Option.map_some, Addr.add]
    split
    · simp_all
    · rfl
  · rw [Nat.add_assoc]
    exact hcell _ u (by rw [← hu, List.getElem?_drop])
/-- the cut x[:k] -/
theorem Rd.take (h : Rd w F size A n xs) {k : Nat} (hk : k ≤ n) : Rd w F size A k (xs.take (k * size)) := by
  refine ⟨by rw [List.length_take, h.1]; exact Nat.min_eq_left (Nat.mul_le_mul_right _ hk), fun hn => ?_⟩
  obtain ⟨b, o, rfl, hb, hcell⟩ := h.2 (by omega)
  exact ⟨b, o, rfl, hb, fun j u hu => hcell j u (by
    rw [List.getElem?_take] at hu
    split at hu
    · exact hu
    · cases hu)⟩
theorem add_eq (b o k : Nat) : (Addr.mk b o none).add k = ⟨b, o + k, none⟩ := by
  unfold Addr.add; split
  · simp_all
  · rfl
theorem Rd.cells {b o : Nat} (h : Rd w F size (some ⟨b, o, none⟩) n xs) : ∀ j u, xs[j]? = some u → w.cell? ((⟨b, o, none⟩ : Addr).add j) = some u := by
  intro j u hu
  have hn : 0 < n := by
    rcases Nat.eq_zero_or_pos n with h0 | h0
    · subst h0; rw [h.empty] at hu; simp at hu
    · exact h0
  obtain ⟨b', o', e, _, hc⟩ := h.2 hn
  injection e with e
  injection e with e1 e2
  subst e1; subst e2
  rw [add_eq]; exact hc j u hu
theorem Rd.of_own {base : Nat} {e : TypeId} {c : Nat} (h : w.ownsRow base e size (.slice A n c) n xs) : Rd w (From base) size A n xs := by
  refine ⟨h.1, fun hn => ?_⟩
  obtain ⟨g, cap, hv, hbg, hlt⟩ := h.form hn
  have hA : A = some ⟨g, 0, none⟩ := by injection hv
  subst hA
  exact ⟨g, 0, rfl, hbg, fun j u hu => by have := h.cells (g := g) rfl j u hu; rw [add_eq] at this; exact this⟩
end

/-- bytes as values -/
def bv (c : UInt8) : Value := .int .u8 c.toNat
def bvs (bs : List UInt8) : List Value := bs.map bv
theorem bvs_len (bs : List UInt8) : (bvs bs).length = bs.length := by simp [bvs]
theorem bvs_one (bs : List UInt8) : ∀ u ∈ bvs bs, u.oneCell' = true := by
  intro u hu; simp only [bvs, List.mem_map] at hu; obtain ⟨c, _, rfl⟩ := hu; rfl
theorem bvs_at {bs : List UInt8} {k : Nat} {u : Value} (h : (bvs bs)[k]? = some u) : ∃ c, bs[k]? = some c ∧ u = bv c := by
  simp only [bvs, List.getElem?_map, Option.map_eq_some_iff] at h
  obtain ⟨c, h1, h2⟩ := h
  exact ⟨c, h1, h2.symm⟩

theorem bvs_take (bs : List UInt8) (k : Nat) : (bvs bs).take k = bvs (bs.take k) := by simp [bvs, List.map_take]
theorem bvs_drop (bs : List UInt8) (k : Nat) : (bvs bs).drop k = bvs (bs.drop k) := by simp [bvs, List.map_drop]
theorem Rd.take1 {w : World} {F : Nat → Prop} {A : Option Addr} {n k : Nat} {bs : List UInt8} (h : Rd w F 1 A n (bvs bs)) (hk : k ≤ n) : Rd w F 1 A k (bvs (bs.take k)) := by
  have := h.take hk
  rwa [Nat.mul_one, bvs_take] at this
theorem take_len {α : Type} {l : List α} {k : Nat} (h : k ≤ l.length) : k = (l.take k).length := by simp; omega

/-- the value of a slice of bytes -/
def SB (w : World) (F : Nat → Prop) (v : Value) (bs : List UInt8) : Prop := ∃ A n c, v = .slice A n c ∧ n ≤ c ∧ c ≤ maxLen ∧ n = bs.length ∧ Rd w F 1 A n (bvs bs)

section
variable {S F G : Nat → Prop} {w w' : World} {v : Value} {bs : List UInt8}
theorem SB.nil (w : World) (F : Nat → Prop) : SB w F (.slice none 0 0) [] := ⟨none, 0, 0, rfl, Nat.le_refl _, by simp [maxLen], rfl, Rd.none_ _ _ _ _⟩
theorem SB.weak (h : SB w F v bs) (hF : ∀ b, F b → G b) : SB w G v bs := let ⟨A, n, c, h1, h2, h3, h4, h5⟩ := h; ⟨A, n, c, h1, h2, h3, h4, h5.weak hF⟩
theorem SB.chg (h : SB w F v bs) (hc : Chg S w w') (hs : ∀ b, F b → ¬ S b) : SB w' F v bs := let ⟨A, n, c, h1, h2, h3, h4, h5⟩ := h; ⟨A, n, c, h1, h2, h3, h4, h5.chg hc hs⟩
theorem SB.below (h : SB w F v bs) (hc : Below w.heap.size w w') : SB w' F v bs := let ⟨A, n, c, h1, h2, h3, h4, h5⟩ := h; ⟨A, n, c, h1, h2, h3, h4, h5.below hc⟩
end
theorem SB.lt {w : World} {F : Nat → Prop} {v : Value} {bs : List UInt8} (h : SB w F v bs) : SB w (fun b => F b ∧ b < w.heap.size) v bs :=
  let ⟨A, n, c, h1, h2, h3, h4, h5⟩ := h; ⟨A, n, c, h1, h2, h3, h4, h5.lt Nat.zero_lt_one⟩
theorem SB.and {w : World} {F G : Nat → Prop} {v : Value} {bs : List UInt8} (h : SB w F v bs) (hG : ∀ b, b < w.heap.size → F b → G b) : SB w G v bs := h.lt.weak (fun b hb => hG b hb.2 hb.1)
theorem Rd.and {w : World} {F G : Nat → Prop} {size n : Nat} {A : Option Addr} {xs : List Value} (h : Rd w F size A n xs) (hsz : 0 < size) (hG : ∀ b, b < w.heap.size → F b → G b) : Rd w G size A n xs := (h.lt hsz).weak (fun b hb => hG b hb.2 hb.1)
/-- a slice of one element that has just been made -/
theorem Rd.one (w : World) (u : Value) (t : TypeId) : Rd (w.alloc (.cells #[u] t)) (From w.heap.size) 1 (some ⟨w.heap.size, 0, none⟩) 1 [u] :=
  ⟨rfl, fun _ => ⟨w.heap.size, 0, rfl, Nat.le_refl _, fun j x hj => by
    rw [(Blk.new w t #[u]).cell]
    match j, hj with
    | 0, hj => simpa using hj⟩⟩
/-- no cell of the block is frozen -/
def SoftAt (w : World) (b : Nat) : Prop := ∀ o, w.frozen? ⟨b, o, none⟩ = false
/-- of F, and not frozen -/
def Soft (F : Nat → Prop) (w : World) : Nat → Prop := fun b => F b ∧ SoftAt w b
section
variable {S F G : Nat → Prop} {w w' : World}
theorem SoftAt.chg {b : Nat} (h : SoftAt w b) (hc : Chg S w w') (hb : b < w.heap.size) (hs : ¬ S b) : SoftAt w' b :=
  fun o => (World.frozen?_of_block (w := w) (a := ⟨b, o, none⟩) (hc.block b hb hs)).trans (h o)
theorem Blk.soft {g : Nat} {t : TypeId} {cs : Array Value} (h : Blk w g t cs) : SoftAt w g := h.frozen
theorem Rd.soft_of_own {base : Nat} {e : TypeId} {size n c : Nat} {A : Option Addr} {xs : List Value} (h : w.ownsRow base e size (.slice A n c) n xs) : Rd w (Soft (From base) w) size A n xs := by
  refine ⟨h.1, fun hn => ?_⟩
  obtain ⟨g, cap, hv, hbg, hlt⟩ := h.form hn
  have hA : A = some ⟨g, 0, none⟩ := by injection hv
  subst hA
  refine ⟨g, 0, rfl, ⟨hbg, ?_⟩, fun j u hu => by have := h.cells (g := g) rfl j u hu; rw [add_eq] at this; exact this⟩
  rcases h.2 with ⟨e, _⟩ | ⟨g', cap', cur, e, _, hg, _⟩
  · cases e
  · injection e with e1 e2 e3
    injection e1 with e1
    injection e1 with e1 e2
    subst e1
    exact (show Blk w g _ cur from hg).frozen
theorem Rd.soft_chg {size n : Nat} {A : Option Addr} {xs : List Value} (h : Rd w (Soft F w) size A n xs) (hsz : 0 < size) (hc : Chg S w w') (hs : ∀ b, F b → ¬ S b) : Rd w' (Soft F w') size A n xs :=
  ((h.lt hsz).chg hc (fun b hb => hs b hb.1.1)).weak (fun b hb => ⟨hb.1.1, hb.1.2.chg hc hb.2 (hs b hb.1.1)⟩)
theorem SB.soft_chg {v : Value} {bs : List UInt8} (h : SB w (Soft F w) v bs) (hc : Chg S w w') (hs : ∀ b, F b → ¬ S b) : SB w' (Soft F w') v bs :=
  let ⟨A, n, c, h1, h2, h3, h4, h5⟩ := h; ⟨A, n, c, h1, h2, h3, h4, h5.soft_chg Nat.zero_lt_one hc hs⟩
theorem Soft.weak (hF : ∀ b, F b → G b) : ∀ b, Soft F w b → Soft G w b := fun b hb => ⟨hF b hb.1, hb.2⟩
end
end Go.Proofs.Ytpbnngfiinihmaa

namespace Go.Proofs.Ytpbnngfiinihmaa
open Go.RowKit

/-- l: a list of entries, in the slice of n elements at A; its cells, and its texts, lie in blocks of F -/
def Ents (w : World) (F : Nat → Prop) (A : Option Addr) (n : Nat) (l : List Ent) : Prop :=
  Hid (n = l.length) ∧ ∃ vs, Rd w F 2 A n vs ∧ ∀ (i : Nat) (e : Ent), l[i]? = some e → ∃ u v, vs[2 * i]? = some u ∧ vs[2 * i + 1]? = some v ∧ SB w F u e.1 ∧ SB w F v e.2

section
variable {S F G : Nat → Prop} {w w' : World} {A : Option Addr} {n : Nat} {l : List Ent}
theorem Ents.len (h : Ents w F A n l) : n = l.length := h.1
theorem Ents.nil (w : World) (F : Nat → Prop) (A : Option Addr) : Ents w F A 0 [] := ⟨rfl, [], Rd.none_ _ _ _ _, fun i e h => by simp at h⟩
theorem Ents.weak (h : Ents w F A n l) (hF : ∀ b, F b → G b) : Ents w G A n l :=
  let ⟨h1, vs, h2, h3⟩ := h; ⟨h1, vs, h2.weak hF, fun i e he => let ⟨u, v, a, b, c, d⟩ := h3 i e he; ⟨u, v, a, b, c.weak hF, d.weak hF⟩⟩
theorem Ents.chg (h : Ents w F A n l) (hc : Chg S w w') (hs : ∀ b, F b → ¬ S b) : Ents w' F A n l :=
  let ⟨h1, vs, h2, h3⟩ := h; ⟨h1, vs, h2.chg hc hs, fun i e he => let ⟨u, v, a, b, c, d⟩ := h3 i e he; ⟨u, v, a, b, c.chg hc hs, d.chg hc hs⟩⟩
theorem Ents.below (h : Ents w F A n l) (hb : Below w.heap.size w w') : Ents w' F A n l := h.chg (Chg.of_below (S := Nil) hb) (fun _ _ hf => hf)
/-- one entry: its two cells, and the two texts -/
theorem Ents.at_ {k : Nat} (h : Ents w F A n l) (hk : k < n) : ∃ b o Ak nk ck Av nv cv key val, A = some ⟨b, o, none⟩ ∧ F b ∧ l[k]? = some (key, val) ∧
    w.cell? ⟨b, o + k * 2, none⟩ = some (.slice Ak nk ck) ∧ w.cell? ⟨b, o + k * 2 + 1, none⟩ = some (.slice Av nv cv) ∧
    nk ≤ ck ∧ ck ≤ maxLen ∧ Hid (nk = key.length) ∧ Rd w F 1 Ak nk (bvs key) ∧ nv ≤ cv ∧ cv ≤ maxLen ∧ Hid (nv = val.length) ∧ Rd w F 1 Av nv (bvs val) := by
  obtain ⟨h1, vs, h2, h3⟩ := h
  have hl : k < l.length := by have : n = l.length := h1; omega
  obtain ⟨b, o, u, v, hA, hF, e1, e2, c1, c2⟩ := h2.at2 hk
  obtain ⟨u', v', e1', e2', s1, s2⟩ := h3 k l[k] (List.getElem?_eq_getElem hl)
  rw [e1] at e1'; rw [e2] at e2'
  injection e1' with e1'; injection e2' with e2'
  subst e1'; subst e2'
  obtain ⟨Ak, nk, ck, rfl, k1, k2, k3, k4⟩ := s1
  obtain ⟨Av, nv, cv, rfl, v1, v2, v3, v4⟩ := s2
  rw [Nat.mul_comm 2 k] at c1 c2
  rw [← Nat.add_assoc] at c2
  exact ⟨b, o, Ak, nk, ck, Av, nv, cv, l[k].1, l[k].2, hA, hF, List.getElem?_eq_getElem hl, c1, c2, k1, k2, k3, k4, v1, v2, v3, v4⟩
end
end Go.Proofs.Ytpbnngfiinihmaa
