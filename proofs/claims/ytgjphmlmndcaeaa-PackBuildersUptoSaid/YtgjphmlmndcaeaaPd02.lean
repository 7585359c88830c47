/- Laws over any program: texts compared by the library's own function, over slices of bytes; texts turned into strings. WALKS: the smallest functions: atomic words; texts compared. Keys, values and entries in plain lists of bytes: bounds, what two texts have in common, the least text between two, lists that rise. No program in sight. Small lemmas, copied as the guide's page extra-small tells: quiet regions, results, make, pointers, the row's last step. -/
import Derived.Test.YtgjphmlmndcaeaaPd01
import Derived.Lib.Bytealg
import Derived.WalkKit
import Derived.WalkLawsBesides
import Derived.WalkSpells
import Derived.Test.YtgjphmlmndcaeaaChecked
import Derived.Lib.Hide
import Derived.Outline
import Derived.RowKit
import Derived.Deep.QuietTactic
import Derived.Tactics
import Derived.Laws.MakeOwn
import Derived.Laws.Entries
import Derived.LaidEqlPtr
import Derived.Below
import Derived.ChangeSame
set_option linter.unusedVariables false
set_option linter.unusedSimpArgs false
namespace Go.Proofs.Ytgjphmlmndcaeaa
open Go.RowKit

theorem run_loadBytes {P : Program} (w : World) (b : Nat) : ∀ (bs : List UInt8) (o : Nat) (acc : ByteArray), (∀ j u, (bvs bs)[j]? = some u → w.cell? ⟨b, o + j, none⟩ = some u) →
    (Extern.Bytes.loadBytes ⟨b, o, none⟩ bs.length acc).run P w = .ok ⟨acc.data ++ bs.toArray⟩ w
  | [], o, acc, _ => by
    obtain ⟨d⟩ := acc
    simp [Extern.Bytes.loadBytes]
  | c :: bs, o, acc, h => by
    have h0 : w.cell? ⟨b, o, none⟩ = some (.int .u8 c.toNat) := by simpa [bvs, bv] using h 0 (bv c) (by simp [bvs])
    have ih := run_loadBytes (P := P) w b bs (o + 1) (acc.push c) (fun j u hj => by
      have := h (j + 1) u (by simpa [bvs] using hj)
      rw [Nat.add_assoc, Nat.add_comm 1 j]; exact this)
    simp only [List.length_cons, Extern.Bytes.loadBytes, Sem.run_bind]
    simp only [run_load, h0, Result.andThen]
    have e : (Addr.mk b o none).add 1 = ⟨b, o + 1, none⟩ := by simp [Addr.add]
    have e2 : ((c.toNat : Int)).toNat.toUInt8 = c := by simp
    rw [e, e2, ih]
    congr 1
    obtain ⟨d⟩ := acc
    simp [ByteArray.push]

theorem run_bytesOf {P : Program} {w : World} {F : Nat → Prop} {A : Option Addr} {n c : Nat} {bs : List UInt8} (h : Rd w F 1 A n (bvs bs)) (hn : n = bs.length) :
    (Extern.Bytes.bytesOf (.slice A n c)).run P w = .ok ⟨bs.toArray⟩ w := by
  cases A with
  | none =>
    have h0 : n = 0 := by
      rcases Nat.eq_zero_or_pos n with h0 | h0
      · exact h0
      · obtain ⟨_, _, e, _⟩ := h.2 h0; cases e
    subst h0
    have : bs = [] := List.eq_nil_of_length_eq_zero hn.symm
    subst this
    simp [Extern.Bytes.bytesOf]
    rfl
  | some ad =>
    rcases Nat.eq_zero_or_pos n with h0 | h0
    · subst h0
      have : bs = [] := List.eq_nil_of_length_eq_zero hn.symm
      subst this
      simp [Extern.Bytes.bytesOf, Extern.Bytes.loadBytes]
      rfl
    · obtain ⟨b, o, e, _, hc⟩ := h.2 h0
      injection e with e
      subst e
      subst hn
      simp only [Extern.Bytes.bytesOf]
      rw [run_loadBytes w b bs o .empty hc]
      have e : ByteArray.empty.data ++ bs.toArray = bs.toArray := by
        show #[] ++ bs.toArray = bs.toArray
        simp
      rw [e]

/-- the library's comparison, over two slices of bytes -/
theorem run_compareSlices {P : Program} {w : World} {F G : Nat → Prop} {A B : Option Addr} {n m c d : Nat} {xs ys : List UInt8} (h : Rd w F 1 A n (bvs xs)) (hn : n = xs.length) (k : Rd w G 1 B m (bvs ys)) (hm : m = ys.length) :
    (Extern.BytealgCompare.compare #[.slice A n c, .slice B m d]).run P w = .ok (.int .i64 (Lib.compareBytes xs ys)) w := by
  change Sem.run P (do pure (goInt (Extern.BytealgCompare.cmp (← Extern.Bytes.bytesOf (.slice A n c)) (← Extern.Bytes.bytesOf (.slice B m d))))) w = _
  simp only [Sem.run_bind, Sem.run_pure, run_bytesOf h hn, run_bytesOf k hm, Result.andThen]
  rw [Lib.cmp_eq]
  rfl
end Go.Proofs.Ytgjphmlmndcaeaa

namespace Go.Proofs.Ytgjphmlmndcaeaa
open Go.RowKit

theorem u64load_any (b o : Nat) (x : Int) (w : World) (h : w.cell? ⟨b, o, none⟩ = some (.int .u64 x)) :
    Calls Try.prog 52 #[.pointer (some ⟨b, o, none⟩)] w fun e w' => e = .returned (.int .u64 x) ∧ w = w' := by
  have hl := run_call_load (P := Try.prog) Try.func82 (by kernel_rfl) (by kernel_rfl) (by kernel_rfl) .u64 (by kernel_rfl) h
  go_enter Try.func52, Try.ntmps52
  go_wp2
  go_ret
  exact ⟨rfl, rfl⟩
theorem i64load_any (b o : Nat) (x : Int) (w : World) (h : w.cell? ⟨b, o, none⟩ = some (.int .i64 x)) :
    Calls Try.prog 78 #[.pointer (some ⟨b, o, none⟩)] w fun e w' => e = .returned (.int .i64 x) ∧ w = w' := by
  have hl := run_call_load (P := Try.prog) Try.func98 (by kernel_rfl) (by kernel_rfl) (by kernel_rfl) .i64 (by kernel_rfl) h
  go_enter Try.func78, Try.ntmps78
  go_wp2
  go_ret
  exact ⟨rfl, rfl⟩
theorem u64store_any (b o : Nat) (u : Value) (y : Int) (w : World) (h : w.cell? ⟨b, o, none⟩ = some u) (hf : w.frozen? ⟨b, o, none⟩ = false) :
    Calls Try.prog 119 #[.pointer (some ⟨b, o, none⟩), .int .u64 y] w fun e w' => e = .returned (.tuple #[]) ∧ w.setCell ⟨b, o, none⟩ (.int .u64 y) = w' := by
  have hl := run_call_store (P := Try.prog) Try.func125 (by kernel_rfl) (by kernel_rfl) (by kernel_rfl) (by kernel_rfl) (k := .u64) (y := y) h hf
  go_enter Try.func119, Try.ntmps119
  go_wp2
  go_end0
  exact ⟨rfl, rfl⟩
theorem i64store_any (b o : Nat) (u : Value) (y : Int) (w : World) (h : w.cell? ⟨b, o, none⟩ = some u) (hf : w.frozen? ⟨b, o, none⟩ = false) :
    Calls Try.prog 89 #[.pointer (some ⟨b, o, none⟩), .int .i64 y] w fun e w' => e = .returned (.tuple #[]) ∧ w.setCell ⟨b, o, none⟩ (.int .i64 y) = w' := by
  have hl := run_call_store (P := Try.prog) Try.func102 (by kernel_rfl) (by kernel_rfl) (by kernel_rfl) (by kernel_rfl) (k := .i64) (y := y) h hf
  go_enter Try.func89, Try.ntmps89
  go_wp2
  go_end0
  exact ⟨rfl, rfl⟩
theorem u64add_any (b o : Nat) (x y : Int) (w : World) (h : w.cell? ⟨b, o, none⟩ = some (.int .u64 x)) (hf : w.frozen? ⟨b, o, none⟩ = false) :
    Calls Try.prog 121 #[.pointer (some ⟨b, o, none⟩), .int .u64 y] w fun e w' => e = .returned (.int .u64 (IntKind.u64.wrap (x + y))) ∧ w.setCell ⟨b, o, none⟩ (.int .u64 (IntKind.u64.wrap (x + y))) = w' := by
  obtain ⟨s, hs⟩ : ∃ s, s = IntKind.u64.wrap (x + y) := ⟨_, rfl⟩
  rw [← hs]
  have hl := run_call_add (P := Try.prog) Try.func126 (by kernel_rfl) (by kernel_rfl) (by kernel_rfl) .u64 (by kernel_rfl) (x := x) (y := y) (s := s) h hf (by rw [hs]; rfl)
  clear hs
  go_enter Try.func121, Try.ntmps121
  go_wp2
  go_ret
  exact ⟨rfl, rfl⟩
theorem u64cas_hit (b o : Nat) (x z : Int) (w : World) (h : w.cell? ⟨b, o, none⟩ = some (.int .u64 x)) (hf : w.frozen? ⟨b, o, none⟩ = false) :
    Calls Try.prog 118 #[.pointer (some ⟨b, o, none⟩), .int .u64 x, .int .u64 z] w fun e w' => e = .returned (.bool true) ∧ w.setCell ⟨b, o, none⟩ (.int .u64 z) = w' := by
  have hl := run_call_cas_hit (P := Try.prog) Try.func124 (by kernel_rfl) (by kernel_rfl) (by kernel_rfl) .u64 (by kernel_rfl) (y := z) h hf
  go_enter Try.func118, Try.ntmps118
  go_wp2
  go_ret
  exact ⟨rfl, rfl⟩
theorem u64cas_miss (b o : Nat) (x y z : Int) (w : World) (h : w.cell? ⟨b, o, none⟩ = some (.int .u64 x)) (hf : w.frozen? ⟨b, o, none⟩ = false) (hne : ¬ x = y) :
    Calls Try.prog 118 #[.pointer (some ⟨b, o, none⟩), .int .u64 y, .int .u64 z] w fun e w' => e = .returned (.bool false) ∧ w = w' := by
  have hl := run_call_cas_miss (P := Try.prog) Try.func124 (by kernel_rfl) (by kernel_rfl) (by kernel_rfl) .u64 (by kernel_rfl) (y := z) h hf hne
  go_enter Try.func118, Try.ntmps118
  go_wp2
  go_ret
  exact ⟨rfl, rfl⟩
theorem i64cas_hit (b o : Nat) (x z : Int) (w : World) (h : w.cell? ⟨b, o, none⟩ = some (.int .i64 x)) (hf : w.frozen? ⟨b, o, none⟩ = false) :
    Calls Try.prog 95 #[.pointer (some ⟨b, o, none⟩), .int .i64 x, .int .i64 z] w fun e w' => e = .returned (.bool true) ∧ w.setCell ⟨b, o, none⟩ (.int .i64 z) = w' := by
  have hl := run_call_cas_hit (P := Try.prog) Try.func109 (by kernel_rfl) (by kernel_rfl) (by kernel_rfl) .i64 (by kernel_rfl) (y := z) h hf
  go_enter Try.func95, Try.ntmps95
  go_wp2
  go_ret
  exact ⟨rfl, rfl⟩
theorem i64cas_miss (b o : Nat) (x y z : Int) (w : World) (h : w.cell? ⟨b, o, none⟩ = some (.int .i64 x)) (hf : w.frozen? ⟨b, o, none⟩ = false) (hne : ¬ x = y) :
    Calls Try.prog 95 #[.pointer (some ⟨b, o, none⟩), .int .i64 y, .int .i64 z] w fun e w' => e = .returned (.bool false) ∧ w = w' := by
  have hl := run_call_cas_miss (P := Try.prog) Try.func109 (by kernel_rfl) (by kernel_rfl) (by kernel_rfl) .i64 (by kernel_rfl) (y := z) h hf hne
  go_enter Try.func95, Try.ntmps95
  go_wp2
  go_ret
  exact ⟨rfl, rfl⟩

theorem compare_any (A B : Option Addr) (n m c d : Nat) (F G : Nat → Prop) (xs ys : List UInt8) (w : World) (h : Rd w F 1 A n (bvs xs)) (hn : n = xs.length) (k : Rd w G 1 B m (bvs ys)) (hm : m = ys.length) :
    Calls Try.prog 36 #[.slice A n c, .slice B m d] w fun e w' => e = .returned (.int .i64 (Lib.compareBytes xs ys)) ∧ w = w' := by
  have hl : (callFunc 66 #[.slice A n c, .slice B m d]).run Try.prog w = .ok (.value (.int .i64 (Lib.compareBytes xs ys))) w := by
    rw [run_callFunc_extern Try.func66 (by kernel_rfl) (by kernel_rfl) (by kernel_rfl) (e := Extern.BytealgCompare.compare) (by kernel_rfl), run_compareSlices h hn k hm]
    rfl
  clear h k hn hm
  go_enter Try.func36, Try.ntmps36
  go_wp2
  go_ret
  exact ⟨rfl, rfl⟩
end Go.Proofs.Ytgjphmlmndcaeaa

namespace Go.Proofs.Ytgjphmlmndcaeaa
open Go.Lib (compareBytes)

abbrev Ent := List UInt8 × List UInt8

def keyE (k : List UInt8) : Int := if 1 ≤ k.length ∧ k.length ≤ 64 then 0 else 3
def valE (v : List UInt8) : Int := if v.length ≤ 256 then 0 else 3
def entE (e : Ent) : Int := if 1 ≤ e.1.length ∧ e.1.length ≤ 64 ∧ e.2.length ≤ 256 then 0 else 3

theorem keyE_cases (k : List UInt8) : keyE k = 0 ∨ keyE k = 3 := by unfold keyE; split <;> simp
theorem valE_cases (k : List UInt8) : valE k = 0 ∨ valE k = 3 := by unfold valE; split <;> simp
theorem entE_cases (e : Ent) : entE e = 0 ∨ entE e = 3 := by unfold entE; split <;> simp
theorem entE_max (e : Ent) : max (keyE e.1) (valE e.2) = entE e := by
  unfold keyE valE entE
  by_cases h1 : 1 ≤ e.1.length ∧ e.1.length ≤ 64 <;> by_cases h2 : e.2.length ≤ 256
  · rw [if_pos h1, if_pos h2, if_pos ⟨h1.1, h1.2, h2⟩]; rfl
  · rw [if_pos h1, if_neg h2, if_neg (fun h => h2 h.2.2)]; rfl
  · rw [if_neg h1, if_pos h2, if_neg (fun h => h1 ⟨h.1, h.2.1⟩)]; rfl
  · rw [if_neg h1, if_neg h2, if_neg (fun h => h2 h.2.2)]; rfl
theorem entE_key {e : Ent} (h : keyE e.1 ≠ 0) : entE e = keyE e.1 := by
  have := entE_max e
  rcases keyE_cases e.1 with hk | hk
  · exact absurd hk h
  · rcases valE_cases e.2 with hv | hv <;> rw [hk, hv] at this <;> rw [hk, ← this] <;> rfl
theorem entE_val {e : Ent} (h : keyE e.1 = 0) : entE e = valE e.2 := by
  have := entE_max e
  rw [h] at this
  rcases valE_cases e.2 with hv | hv <;> rw [hv] at this <;> rw [hv, ← this] <;> rfl

/-- how many bytes two texts have in common at their beginnings -/
def comm : List UInt8 → List UInt8 → Nat
  | x :: xs, y :: ys => if x = y then comm xs ys + 1 else 0
  | _, _ => 0

theorem comm_le : ∀ (a b : List UInt8), comm a b ≤ a.length ∧ comm a b ≤ b.length
  | [], _ => by simp [comm]
  | _ :: _, [] => by simp [comm]
  | x :: xs, y :: ys => by
    have := comm_le xs ys
    unfold comm; split <;> simp <;> omega
/-- the bytes ahead are the same -/
theorem comm_same : ∀ (a b : List UInt8) (k : Nat), k < comm a b → a[k]? = b[k]?
  | [], _, k, h => by simp [comm] at h
  | _ :: _, [], k, h => by simp [comm] at h
  | x :: xs, y :: ys, k, h => by
    unfold comm at h
    split at h
    · rename_i e; subst e
      cases k with
      | zero => rfl
      | succ k => simpa using comm_same xs ys k (by omega)
    · omega
/-- the byte there is another one -/
theorem comm_other : ∀ (a b : List UInt8), comm a b < a.length → comm a b < b.length → a[comm a b]? ≠ b[comm a b]?
  | [], _, h, _ => by simp [comm] at h
  | _ :: _, [], _, h => by simp [comm] at h
  | x :: xs, y :: ys, h1, h2 => by
    unfold comm at h1 h2 ⊢
    by_cases e : x = y
    · simp only [e, if_true, List.length_cons] at h1 h2 ⊢
      simpa using comm_other xs ys (by omega) (by omega)
    · simp [e]
/-- it is the number: the bytes ahead the same, and an end or another byte there -/
theorem comm_eq (a b : List UInt8) (n : Nat) (h : ∀ k, k < n → a[k]? = b[k]?) (ha : n ≤ a.length) (hb : n ≤ b.length) (hn : n = a.length ∨ n = b.length ∨ a[n]? ≠ b[n]?) : n = comm a b := by
  rcases Nat.lt_trichotomy n (comm a b) with h1 | h1 | h1
  · have hl := comm_le a b
    rcases hn with hn | hn | hn
    · omega
    · omega
    · exact absurd (comm_same a b n h1) hn
  · exact h1
  · exact absurd (h _ h1) (comm_other a b (by omega) (by omega))

theorem compare_range : ∀ (a b : List UInt8), compareBytes a b = -1 ∨ compareBytes a b = 0 ∨ compareBytes a b = 1
  | [], [] => by simp [compareBytes]
  | [], _ :: _ => by simp [compareBytes]
  | _ :: _, [] => by simp [compareBytes]
  | x :: xs, y :: ys => by
    unfold compareBytes
    split
    · simp
    · split
      · simp
      · exact compare_range xs ys
/-- the comparison, by what is in common -/
def cmpC (a b : List UInt8) : Int :=
  if comm a b = a.length ∧ comm a b = b.length then 0
  else if comm a b = a.length then -1
  else if comm a b = b.length then 1
  else if a.getD (comm a b) 0 < b.getD (comm a b) 0 then -1 else 1
theorem cmpC_eq : ∀ (a b : List UInt8), compareBytes a b = cmpC a b
  | [], [] => by simp [compareBytes, cmpC, comm]
  | [], _ :: _ => by simp [compareBytes, cmpC, comm]
  | _ :: _, [] => by simp [compareBytes, cmpC, comm]
  | x :: xs, y :: ys => by
    have ih := cmpC_eq xs ys
    unfold compareBytes
    by_cases e : x = y
    · subst e
      have hlt : ¬ x < x := UInt8.lt_irrefl x
      rw [if_neg hlt, if_neg hlt, ih]
      unfold cmpC
      simp only [comm, if_true, List.length_cons, Nat.add_right_cancel_iff, List.getD_cons_succ]
    · have hc : comm (x :: xs) (y :: ys) = 0 := by simp [comm, e]
      have hv : cmpC (x :: xs) (y :: ys) = if x < y then -1 else 1 := by
        unfold cmpC
        rw [hc]
        simp
      rw [hv]
      by_cases hlt : x < y
      · rw [if_pos hlt, if_pos hlt]
      · have : y < x := UInt8.lt_of_le_of_ne (UInt8.not_lt.1 hlt) (Ne.symm e)
        rw [if_neg hlt, if_neg hlt, if_pos this]

/-- below: the first list is the lesser -/
theorem compare_lt_iff (a b : List UInt8) : compareBytes a b < 0 ↔ (comm a b < b.length ∧ (comm a b = a.length ∨ a.getD (comm a b) 0 < b.getD (comm a b) 0)) := by
  have hl := comm_le a b
  rw [cmpC_eq]
  unfold cmpC
  by_cases h1 : comm a b = a.length
  · by_cases h2 : comm a b = b.length
    · rw [if_pos ⟨h1, h2⟩]; simp; omega
    · rw [if_neg (fun h => h2 h.2), if_pos h1]; simp [h1]; omega
  · rw [if_neg (fun h => h1 h.1), if_neg h1]
    by_cases h2 : comm a b = b.length
    · rw [if_pos h2]; simp; omega
    · rw [if_neg h2]
      by_cases h3 : a.getD (comm a b) 0 < b.getD (comm a b) 0
      · rw [if_pos h3]; simp only [show (-1 : Int) < 0 by omega, true_iff]; exact ⟨by omega, .inr h3⟩
      · rw [if_neg h3]; simp only [show ¬ (1 : Int) < 0 by omega, false_iff]; rintro ⟨_, h | h⟩ <;> contradiction

theorem getD_take (l : List UInt8) (n k : Nat) (h : k < n) : (l.take n).getD k 0 = l.getD k 0 := by
  simp [List.getD, h]
/-- of a shorter beginning -/
theorem comm_take (a b : List UInt8) (n : Nat) (hn : n ≤ b.length) : comm a (b.take n) = min n (comm a b) := by
  have hl := comm_le a b
  symm
  refine comm_eq a (b.take n) _ (fun k hk => ?_) (by omega) (by simp; omega) ?_
  · rw [List.getElem?_take, if_pos (by omega)]
    exact comm_same a b k (by omega)
  · rcases Nat.lt_or_ge (comm a b) n with h | h
    · rw [Nat.min_eq_right (by omega)]
      by_cases h1 : comm a b = a.length
      · exact .inl h1
      · refine .inr (.inr ?_)
        rw [List.getElem?_take, if_pos h]
        exact comm_other a b (by omega) (by omega)
    · rw [Nat.min_eq_left h]
      exact .inr (.inl (by simp; omega))
/-- the least beginning of b above a is the one behind what they have in common -/
theorem between_least {a b : List UInt8} {n : Nat} (hn : n ≤ b.length) : compareBytes a (b.take n) < 0 ↔ (compareBytes a b < 0 ∧ comm a b < n) := by
  have hl := comm_le a b
  have hc := comm_take a b n hn
  rw [compare_lt_iff, compare_lt_iff, hc, List.length_take]
  rcases Nat.lt_or_ge (comm a b) n with h | h
  · have e : min n (comm a b) = comm a b := by omega
    rw [e, getD_take _ _ _ h]
    constructor
    · rintro ⟨h1, h2⟩; exact ⟨⟨by omega, h2⟩, h⟩
    · rintro ⟨⟨h1, h2⟩, _⟩; exact ⟨by omega, h2⟩
  · constructor
    · rintro ⟨h1, _⟩; omega
    · rintro ⟨_, h1⟩; omega

/-- the shortest text above a that is not above b, and the error -/
def betw (a b : List UInt8) : List UInt8 × Int := if compareBytes a b < 0 then (b.take (comm a b + 1), 0) else ([], 51)

/-- what is wrong with an entry of a list -/
def badAt (l : List Ent) (i : Nat) : Int :=
  if entE (l.getD i ([], [])) ≠ 0 then entE (l.getD i ([], []))
  else if 0 < i ∧ 0 ≤ compareBytes (l.getD (i - 1) ([], [])).1 (l.getD i ([], [])).1 then 51 else 0
/-- the first entry that is wrong, and the error -/
def sortedOf (l : List Ent) : Int × Int :=
  match (List.range l.length).find? (fun i => badAt l i != 0) with
  | some i => ((i : Int), badAt l i)
  | none => (0, 0)

theorem find_range_some {p : Nat → Bool} {n i : Nat} (hi : i < n) (h : ∀ j, j < i → p j = false) (hp : p i = true) : (List.range n).find? p = some i := by
  rw [List.find?_range_eq_some]
  exact ⟨hp, by simpa using hi, fun j hj => by simp [h j hj]⟩
theorem find_range_none {p : Nat → Bool} {n : Nat} (h : ∀ j, j < n → p j = false) : (List.range n).find? p = none := by
  rw [List.find?_eq_none]
  intro j hj
  simp [h j (by simpa using hj)]
theorem sorted_at {l : List Ent} {i : Nat} (hi : i < l.length) (h : ∀ j, j < i → badAt l j = 0) (hb : badAt l i ≠ 0) : sortedOf l = ((i : Int), badAt l i) := by
  unfold sortedOf
  rw [find_range_some (i := i) hi (fun j hj => by simp [h j hj]) (by simpa using hb)]
theorem sorted_ok {l : List Ent} (h : ∀ j, j < l.length → badAt l j = 0) : sortedOf l = (0, 0) := by
  unfold sortedOf
  rw [find_range_none (fun j hj => by simp [h j hj])]
/-- a list that rises -/
def Rising (l : List Ent) : Prop := ∀ j, j < l.length → badAt l j = 0
theorem sorted_iff (l : List Ent) : (sortedOf l).2 = 0 ↔ Rising l := by
  constructor
  · intro h j hj
    unfold sortedOf at h
    cases hf : (List.range l.length).find? (fun i => badAt l i != 0) with
    | none =>
      have := (List.find?_eq_none.1 hf) j (by simpa using hj)
      simpa using this
    | some i =>
      rw [hf] at h
      have := List.find?_some hf
      simp only at h
      simp [h] at this
  · intro h; rw [sorted_ok h]
theorem badAt_bad {l : List Ent} {i : Nat} {e : Ent} (he : l[i]? = some e) (h : entE e ≠ 0) : badAt l i = entE e := by
  have hd : l.getD i ([], []) = e := by simp [List.getD, he]
  unfold badAt; rw [hd, if_pos h]
theorem badAt_order {l : List Ent} {i : Nat} {d e : Ent} (he : l[i]? = some e) (hd : l[i - 1]? = some d) (h : entE e = 0) (hi : 0 < i) (hc : 0 ≤ compareBytes d.1 e.1) : badAt l i = 51 := by
  have e1 : l.getD i ([], []) = e := by simp [List.getD, he]
  have e2 : l.getD (i - 1) ([], []) = d := by simp [List.getD, hd]
  unfold badAt; rw [e1, e2, if_neg (by simpa using h), if_pos ⟨hi, hc⟩]
theorem badAt_first {l : List Ent} {e : Ent} (he : l[0]? = some e) (h : entE e = 0) : badAt l 0 = 0 := by
  have e1 : l.getD 0 ([], []) = e := by simp [List.getD, he]
  unfold badAt; rw [e1, if_neg (by simpa using h), if_neg (fun h => by omega)]
theorem badAt_fine {l : List Ent} {i : Nat} {d e : Ent} (he : l[i]? = some e) (hd : l[i - 1]? = some d) (h : entE e = 0) (hc : compareBytes d.1 e.1 < 0) : badAt l i = 0 := by
  have e1 : l.getD i ([], []) = e := by simp [List.getD, he]
  have e2 : l.getD (i - 1) ([], []) = d := by simp [List.getD, hd]
  unfold badAt; rw [e1, e2, if_neg (by simpa using h), if_neg (fun h => by omega)]
end Go.Proofs.Ytgjphmlmndcaeaa

namespace Go.Proofs.Ytgjphmlmndcaeaa
open Go.RowKit Go.WideShapes Go.ChangeShapes
theorem quiet_add {P : Program} {f : FuncId} {args : Array Value} {w : World} {a n : Nat} {v : Value}
    (h : Calls P f args (w.drewN (a + n)) fun e w' => e = .returned v ∧ ∃ m, w' = (w.drewN (a + n)).drewN m) :
    Calls P f args (w.drewN (a + n)) fun e w'' => e = .returned v ∧ ∃ m, w'' = w.drewN (a + m) :=
  h.mono fun _ _ ⟨he, m, hm⟩ => ⟨he, n + m, by rw [hm, World.drewN_drewN, Nat.add_assoc]⟩
theorem quiet_add_same {P : Program} {f : FuncId} {args : Array Value} {w : World} {a n : Nat} {v : Value}
    (h : Calls P f args (w.drewN (a + n)) fun e w' => e = .returned v ∧ w' = w.drewN (a + n)) :
    Calls P f args (w.drewN (a + n)) fun e w'' => e = .returned v ∧ ∃ m, w'' = w.drewN (a + m) :=
  h.mono fun _ _ ⟨he, hm⟩ => ⟨he, n, hm⟩
theorem quiet_add_left {P : Program} {f : FuncId} {args : Array Value} {w : World} {a n : Nat} {v : Value}
    (h : Calls P f args (w.drewN (a + n)) fun e w' => e = .returned v ∧ w.drewN (a + n) = w') :
    Calls P f args (w.drewN (a + n)) fun e w'' => e = .returned v ∧ ∃ m, w'' = w.drewN (a + m) :=
  h.mono fun _ _ ⟨he, hm⟩ => ⟨he, n, hm.symm⟩
theorem quiet_left {P : Program} {f : FuncId} {args : Array Value} {w : World} {n : Nat} {v : Value}
    (h : Calls P f args (w.drewN n) fun e w' => e = .returned v ∧ w.drewN n = w') : Calls P f args (w.drewN n) fun e w'' => e = .returned v ∧ ∃ m, w'' = w.drewN m :=
  h.mono fun _ _ ⟨he, hm⟩ => ⟨he, n, hm.symm⟩

theorem results_tmp4 {fn : Func} {t u v x : Tmp} (h : fn.results = #[.tmp t, .tmp u, .tmp v, .tmp x]) (tmps : Array Value) (P : Program) (w : World) :
    (results fn tmps).run P w = .ok (.tuple #[tmps.getD t undef, tmps.getD u undef, tmps.getD v undef, tmps.getD x undef]) w := by simp [results, h]
theorem results_tmp5 {fn : Func} {t u v x y : Tmp} (h : fn.results = #[.tmp t, .tmp u, .tmp v, .tmp x, .tmp y]) (tmps : Array Value) (P : Program) (w : World) :
    (results fn tmps).run P w = .ok (.tuple #[tmps.getD t undef, tmps.getD u undef, tmps.getD v undef, tmps.getD x undef, tmps.getD y undef]) w := by simp [results, h]

theorem run_make_rowN {P : Program} (t e : TypeId) (i : TypeInfo) (z : Value) (ht : P.underlying t = some (.slice e)) (hi : P.info? e = some i) (hz : i.zero = some z)
    (kl kc : IntKind) (n c : Nat) (hnc : n ≤ c) (hbytes : i.bytes * c ≤ 281474976710656) (h63 : c ≤ 9223372036854775807) (w : World) :
    (Instr.makeSlice t (.int kl (n : Int)) (.int kc (c : Int))).run P w = .ok (.slice (some ⟨w.heap.size, 0, none⟩) n c) (w.alloc (.cells (madeCells z.cells (c * i.size)) e)) := by
  have hb : (i.bytes : Int) * (c : Int) ≤ 281474976710656 := by
    have h : ((i.bytes * c : Nat) : Int) ≤ 281474976710656 := by omega
    rwa [Int.natCast_mul] at h
  have hr := run_make (P := P) w t e i z ht hi hz kl kc n c (by omega) (by omega) hb (by omega)
  simp only [Int.toNat_natCast] at hr
  exact hr
theorem run_makeMap_hint {P : Program} (t k e : TypeId) (kd : IntKind) (n : Int) (ht : P.underlying t = some (.map k e)) (w : World) :
    (Instr.makeMap t (some (.int kd n))).run P w = .ok (.map (some w.heap.size)) (w.alloc (.map #[] 0)) := by
  simp [Instr.makeMap, run_underlying ht]; rfl

theorem run_neq_ptr_other {P : Program} (w : World) {tp te : TypeId} {j : TypeInfo} {a b : Addr} {ca cb : Array Value} {ta tb : TypeId} (hp : P.underlying tp = some (.pointer te)) (hte : P.info? te = some j) (hsz : j.size ≠ 0)
    (hne : a ≠ b) (ha : w.heap[a.block]? = some (.cells ca ta (0, 0))) (hb : w.heap[b.block]? = some (.cells cb tb (0, 0))) :
    (binOp .neq tp (.pointer (some a)) (.pointer (some b))).run P w = .ok (.bool true) w := by
  have h : ∀ d : Nat, (Op.equalIn (d + 1) tp (.pointer (some a)) (.pointer (some b))).run P w = .ok false w := fun d => by
    simp [Op.equalIn, run_underlying hp, sizeOf, typeInfo, hte, hsz, run_sameAddr_other w hne ha hb]
  simp only [binOp]
  simp [Op.equal, Op.maxDepth, h 9999]

section
variable {H : Type} {enc : TypeId × Value → H} {P : Program}
theorem post_of_below {f : Func} {s : ChangeSpec} {apart fresh handsOn again : Bool} {W W' : World} {args : Array Value} {v : Value} {ds gs : List (DataW H)} {before pa pv : List MemPlace}
    (hW : DataW.Whole enc P f.params.toList s.vars apart W args.toList ds gs before)
    (hres : ∀ (b : Nat) (sp : Nat → Bool) (hd : Bool), DataW.TrodAll enc P W' b sp hd f.resultTypes.toList (v.resultList f.resultTypes.size) (s.fn H (ds ++ gs)).results [])
    (hargs : ∀ sp : Nat → Bool, (∀ p ∈ before, sp p.block = true) → DataW.TrodAll enc P W' 0 sp true f.params.toList args.toList (s.fn H (ds ++ gs)).args pa)
    (hvars : ∀ sp : Nat → Bool, (∀ p ∈ before, sp p.block = true) → DataW.TrodVars enc P W' sp s.vars (s.fn H (ds ++ gs)).vars pv)
    (hps : before = pa ++ pv) (hb : Below W.heap.size W W')
    (hok : ∀ (j : Nat) (t : TypeId) (r : Value), f.resultTypes[j]? = some t → (v.resultList f.resultTypes.size)[j]? = some r → Value.okWide P W' .any 0 t r) :
    s.post enc P f apart fresh handsOn again W args v W' := by
  have hlt : ∀ p ∈ before, p.block < W.heap.size := fun p hp => hW.lt p hp
  have hold : ∀ p ∈ before, (fun b => decide (b < W.heap.size)) p.block = true := fun p hp => by simpa using hlt p hp
  refine ⟨ds, gs, before, [], pa, pv, hW, hres _ _ _, hargs _ hold, hvars _ hold, World.keptBut_mono (fun p hp => ⟨hp, ?_⟩) (hb.frame (· ∈ before)), fun _ => ?_⟩
  · rw [hps, List.mem_append] at hp
    exact Or.inr hp
  · obtain ⟨_, _, _, _, _, hz, hn⟩ := hW
    refine ⟨hok, _, _, ([] ++ pa) ++ pv, ⟨[] ++ pa, pv, trodAll_append (hargs _ (fun _ _ => rfl)) (hres _ _ _), hvars _ (fun _ _ => rfl), rfl, ?_, ?_⟩, ?_⟩
    · intro b off hp
      have hin : MemPlace.cell b off ∈ before := by rw [hps]; simpa using hp
      rw [hb.frozen (hlt _ hin)]
      exact hz b off hin
    · intro ha
      have := hn ha
      rw [hps] at this
      simpa using this
    · intro p hp _
      rw [hps]
      simpa using hp
end
end Go.Proofs.Ytgjphmlmndcaeaa
