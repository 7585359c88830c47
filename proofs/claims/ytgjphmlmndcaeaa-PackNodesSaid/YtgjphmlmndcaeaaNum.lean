/- How many nodes a packed tree has, in plain integers: the levels one by one. No program in sight. -/
import Derived.RowKit
namespace Go.Proofs.Ytgjphmlmndcaeaa

def cfgOk (nd lf inn fl bl : Int) : Prop := 1 ≤ nd ∧ nd ≤ 65536 ∧ 2 ≤ lf ∧ lf ≤ 64 ∧ 3 ≤ inn ∧ inn ≤ 64 ∧ 1 ≤ fl ∧ fl ≤ lf ∧ 1 ≤ bl ∧ bl ≤ 64
instance (nd lf inn fl bl : Int) : Decidable (cfgOk nd lf inn fl bl) := by unfold cfgOk; infer_instance
def cfgE (nd lf inn fl bl : Int) : Int := if cfgOk nd lf inn fl bl then 0 else 1

theorem cfgE_ok {nd lf inn fl bl : Int} (h : cfgOk nd lf inn fl bl) : cfgE nd lf inn fl bl = 0 := by simp [cfgE, h]
theorem cfgE_bad {nd lf inn fl bl : Int} (h : ¬ cfgOk nd lf inn fl bl) : cfgE nd lf inn fl bl = 1 := by simp [cfgE, h]

/-- into how many parts of so many at most -/
def parts (n most : Int) : Int := if n = 0 then 1 else if 0 < n % most then n / most + 1 else n / most

theorem parts_max {n most : Int} (hn : 0 ≤ n) (hm : 1 ≤ most) : max 1 (n / most + min 1 (n % most)) = parts n most := by
  have hd := Int.mul_ediv_add_emod n most
  have h0 := Int.emod_nonneg n (show most ≠ 0 by omega)
  have h1 : 0 ≤ n / most := Int.ediv_nonneg hn (by omega)
  unfold parts
  by_cases hz : n = 0
  · subst hz; simp; omega
  · simp only [hz, if_false]
    by_cases hr : 0 < n % most
    · simp only [hr, if_true]; omega
    · simp only [hr, if_false]
      have : n % most = 0 := by omega
      have : n / most ≠ 0 := by
        intro h; rw [h] at hd; simp at hd; omega
      omega

theorem parts_pos {n most : Int} (hn : 0 ≤ n) (hm : 1 ≤ most) : 1 ≤ parts n most := by
  rw [← parts_max hn hm]; omega

theorem parts_le {n most b : Int} (hn : 0 ≤ n) (hm : 3 ≤ most) (hb : 1 ≤ b) (h : n ≤ 3 * b) : parts n most ≤ b := by
  have hd := Int.mul_ediv_add_emod n most
  have h0 := Int.emod_nonneg n (show most ≠ 0 by omega)
  have h1 : 0 ≤ n / most := Int.ediv_nonneg hn (by omega)
  have h3 : 3 * (n / most) ≤ most * (n / most) := Int.mul_le_mul_of_nonneg_right hm h1
  unfold parts
  by_cases hz : n = 0
  · simp [hz]; omega
  · simp only [hz, if_false]
    split <;> omega

theorem parts_bound {n most : Int} (hn : 0 ≤ n) : parts n most ≤ n + 1 := by
  have h := Int.ediv_le_self most hn
  unfold parts
  by_cases hz : n = 0
  · simp [hz]
  · simp only [hz, if_false]
    split <;> omega

theorem quo_rem_le {m q : Int} (hm : 0 ≤ m) (hq : 1 ≤ q) : m / q + m % q ≤ m := by
  have hd := Int.mul_ediv_add_emod m q
  have h1 : 0 ≤ m / q := Int.ediv_nonneg hm (by omega)
  have h3 : 1 * (m / q) ≤ q * (m / q) := Int.mul_le_mul_of_nonneg_right hq h1
  omega

theorem parts_self {n most : Int} (hn : 0 ≤ n) (hm : 1 ≤ most) : parts n most ≤ max 1 n := by
  have h := quo_rem_le hn hm
  have h0 := Int.emod_nonneg n (show most ≠ 0 by omega)
  unfold parts
  by_cases hz : n = 0
  · simp [hz]; omega
  · simp only [hz, if_false]
    split <;> omega

/-- the levels: so many at most; how many nodes there are, and the error -/
def lv (nd inn : Int) : Nat → Int → Int → Int × Int
  | 0, _, _ => (0, 2)
  | k + 1, m, all => if nd - all < m then (0, 2) else if m = 1 then (all + m, 0) else lv nd inn k (parts m inn) (all + m)

theorem lv_full {nd inn m all : Int} {k : Nat} (h : nd - all < m) : lv nd inn k m all = (0, 2) := by
  cases k with
  | zero => rfl
  | succ k => simp [lv, h]
theorem lv_one {nd inn m all : Int} {k : Nat} (h : ¬ nd - all < m) (h1 : m = 1) : lv nd inn (k + 1) m all = (all + m, 0) := by
  rw [lv, if_neg h, if_pos h1]
theorem lv_step {nd inn m all : Int} {k : Nat} (h : ¬ nd - all < m) (h1 : ¬ m = 1) : lv nd inn (k + 1) m all = lv nd inn k (parts m inn) (all + m) := by simp [lv, h, h1]

/-- the answer -/
def nodesOf (nd lf inn fl bl n : Int) : Int × Int :=
  if cfgOk nd lf inn fl bl then (if n < 0 then (0, 1) else lv nd inn 32 (parts n fl) 0) else (0, 1)

theorem nodesOf_bad {nd lf inn fl bl n : Int} (h : ¬ cfgOk nd lf inn fl bl) : nodesOf nd lf inn fl bl n = (0, 1) := by simp [nodesOf, h]
theorem nodesOf_neg {nd lf inn fl bl n : Int} (h : n < 0) : nodesOf nd lf inn fl bl n = (0, 1) := by simp [nodesOf, h]
theorem nodesOf_ok {nd lf inn fl bl n : Int} (h : cfgOk nd lf inn fl bl) (hn : ¬ n < 0) : nodesOf nd lf inn fl bl n = lv nd inn 32 (parts n fl) 0 := by simp [nodesOf, h, hn]

/-- the state of the unbounded loop: its fuel is enough -/
def Enough (m : Int) (k : Nat) : Prop := m ≤ 3 ^ k ∨ k = 31

theorem enough_start (m : Int) : Enough m 31 := .inr rfl
theorem enough_step {nd inn m all : Int} {k : Nat} (hi : 3 ≤ inn) (ha : 0 ≤ all) (hnd : nd ≤ 65536) (hm : 1 ≤ m) (h1 : ¬ m = 1) (hf : ¬ nd - all < m) (h : Enough m k) :
    ∃ j, k = j + 1 ∧ Enough (parts m inn) j := by
  cases k with
  | zero => rcases h with h | h <;> simp at h; omega
  | succ j =>
    refine ⟨j, rfl, .inl (parts_le (by omega) hi ?_ ?_)⟩
    · have : (0 : Int) < 3 ^ j := Int.pow_pos (by omega)
      omega
    · rcases h with h | h
      · have e : (3 : Int) ^ (j + 1) = 3 * 3 ^ j := by rw [Int.pow_succ]; omega
        omega
      · have hj : j = 30 := by omega
        subst hj
        have e : (3 : Int) ^ 30 = 205891132094649 := by decide
        rw [e]; omega
end Go.Proofs.Ytgjphmlmndcaeaa
