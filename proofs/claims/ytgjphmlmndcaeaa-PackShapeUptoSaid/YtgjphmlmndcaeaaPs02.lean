/- How many nodes a packed tree has, in plain integers: the levels one by one. No program in sight. WALKS: how many nodes a packed tree has. Keys, values and entries in plain lists of bytes: bounds, what two texts have in common, the least text between two, lists that rise. No program in sight. The order of texts: what follows from compareBytes. No program in sight. -/
import Derived.RowKit
import Derived.Test.YtgjphmlmndcaeaaChecked
import Derived.WalkKit
import Derived.WalkLawsBesides
import Derived.Deep.QuietTactic
import Derived.BigQuiet
import Derived.Lib.Hide
import Derived.WalkSmall
import Derived.LoopTactic
import Derived.Lib.MinMax
import Derived.Outline
import Derived.StillTailTactics
import Derived.Deep.RegionHeld3
import Derived.BigRegion
import Derived.Lib.Bytealg
set_option linter.unusedVariables false
set_option linter.unusedSimpArgs false
namespace Go.Proofs.Ytgjphmlmndcaeaa

def cfgOk (nd lf inn fl bl : Int) : Prop := 1 ≤ nd ∧ nd ≤ 65536 ∧ 2 ≤ lf ∧ lf ≤ 64 ∧ 3 ≤ inn ∧ inn ≤ 64 ∧ 1 ≤ fl ∧ fl ≤ lf ∧ 1 ≤ bl ∧ bl ≤ 64
instance (nd lf inn fl bl : Int) : Decidable (cfgOk nd lf inn fl bl) := by unfold cfgOk; infer_instance
def cfgE (nd lf inn fl bl : Int) : Int := if cfgOk nd lf inn fl bl then 0 else 1

theorem cfgE_ok {nd lf inn fl bl : Int} (h : cfgOk nd lf inn fl bl) : cfgE nd lf inn fl bl = 0 := by simp [cfgE, h]
theorem cfgE_bad {nd lf inn fl bl : Int} (h : ¬ cfgOk nd lf inn fl bl) : cfgE nd lf inn fl bl = 1 := by simp [cfgE, h]

/-- into how many parts of so many at most -/
def parts (n most : Int) : Int := if n = 0 then 1 else if 0 < n % most then n / most + 1 else n / most

theorem parts_max {n most : Int} (hn : 0 ≤ n) (hm : 1 ≤ most) : max 1 (n / most + min 1 (n % most)) = parts n most := by
  have hd := Int.mul_ediv_add_emod n most
  have h0 := Int.emod_nonneg n (show most ≠ 0 by omega)
  have h1 : 0 ≤ n / most := Int.ediv_nonneg hn (by omega)
  unfold parts
  by_cases hz : n = 0
  · subst hz; simp; omega
  · simp only [hz, if_false]
    by_cases hr : 0 < n % most
    · simp only [hr, if_true]; omega
    · simp only [hr, if_false]
      have : n % most = 0 := by omega
      have : n / most ≠ 0 := by
        intro h; rw [h] at hd; simp at hd; omega
      omega

theorem parts_pos {n most : Int} (hn : 0 ≤ n) (hm : 1 ≤ most) : 1 ≤ parts n most := by
  rw [← parts_max hn hm]; omega

theorem parts_le {n most b : Int} (hn : 0 ≤ n) (hm : 3 ≤ most) (hb : 1 ≤ b) (h : n ≤ 3 * b) : parts n most ≤ b := by
  have hd := Int.mul_ediv_add_emod n most
  have h0 := Int.emod_nonneg n (show most ≠ 0 by omega)
  have h1 : 0 ≤ n / most := Int.ediv_nonneg hn (by omega)
  have h3 : 3 * (n / most) ≤ most * (n / most) := Int.mul_le_mul_of_nonneg_right hm h1
  unfold parts
  by_cases hz : n = 0
  · simp [hz]; omega
  · simp only [hz, if_false]
    split <;> omega

theorem parts_bound {n most : Int} (hn : 0 ≤ n) : parts n most ≤ n + 1 := by
  have h := Int.ediv_le_self most hn
  unfold parts
  by_cases hz : n = 0
  · simp [hz]
  · simp only [hz, if_false]
    split <;> omega

theorem quo_rem_le {m q : Int} (hm : 0 ≤ m) (hq : 1 ≤ q) : m / q + m % q ≤ m := by
  have hd := Int.mul_ediv_add_emod m q
  have h1 : 0 ≤ m / q := Int.ediv_nonneg hm (by omega)
  have h3 : 1 * (m / q) ≤ q * (m / q) := Int.mul_le_mul_of_nonneg_right hq h1
  omega

theorem parts_self {n most : Int} (hn : 0 ≤ n) (hm : 1 ≤ most) : parts n most ≤ max 1 n := by
  have h := quo_rem_le hn hm
  have h0 := Int.emod_nonneg n (show most ≠ 0 by omega)
  unfold parts
  by_cases hz : n = 0
  · simp [hz]; omega
  · simp only [hz, if_false]
    split <;> omega

/-- the levels: so many at most; how many nodes there are, and the error -/
def lv (nd inn : Int) : Nat → Int → Int → Int × Int
  | 0, _, _ => (0, 2)
  | k + 1, m, all => if nd - all < m then (0, 2) else if m = 1 then (all + m, 0) else lv nd inn k (parts m inn) (all + m)

theorem lv_full {nd inn m all : Int} {k : Nat} (h : nd - all < m) : lv nd inn k m all = (0, 2) := by
  cases k with
  | zero => rfl
  | succ k => simp [lv, h]
theorem lv_one {nd inn m all : Int} {k : Nat} (h : ¬ nd - all < m) (h1 : m = 1) : lv nd inn (k + 1) m all = (all + m, 0) := by
  rw [lv, if_neg h, if_pos h1]
theorem lv_step {nd inn m all : Int} {k : Nat} (h : ¬ nd - all < m) (h1 : ¬ m = 1) : lv nd inn (k + 1) m all = lv nd inn k (parts m inn) (all + m) := by simp [lv, h, h1]

/-- the answer -/
def nodesOf (nd lf inn fl bl n : Int) : Int × Int :=
  if cfgOk nd lf inn fl bl then (if n < 0 then (0, 1) else lv nd inn 32 (parts n fl) 0) else (0, 1)

theorem nodesOf_bad {nd lf inn fl bl n : Int} (h : ¬ cfgOk nd lf inn fl bl) : nodesOf nd lf inn fl bl n = (0, 1) := by simp [nodesOf, h]
theorem nodesOf_neg {nd lf inn fl bl n : Int} (h : n < 0) : nodesOf nd lf inn fl bl n = (0, 1) := by simp [nodesOf, h]
theorem nodesOf_ok {nd lf inn fl bl n : Int} (h : cfgOk nd lf inn fl bl) (hn : ¬ n < 0) : nodesOf nd lf inn fl bl n = lv nd inn 32 (parts n fl) 0 := by simp [nodesOf, h, hn]

/-- the state of the unbounded loop: its fuel is enough -/
def Enough (m : Int) (k : Nat) : Prop := m ≤ 3 ^ k ∨ k = 31

theorem enough_start (m : Int) : Enough m 31 := .inr rfl
theorem enough_step {nd inn m all : Int} {k : Nat} (hi : 3 ≤ inn) (ha : 0 ≤ all) (hnd : nd ≤ 65536) (hm : 1 ≤ m) (h1 : ¬ m = 1) (hf : ¬ nd - all < m) (h : Enough m k) :
    ∃ j, k = j + 1 ∧ Enough (parts m inn) j := by
  cases k with
  | zero => rcases h with h | h <;> simp at h; omega
  | succ j =>
    refine ⟨j, rfl, .inl (parts_le (by omega) hi ?_ ?_)⟩
    · have : (0 : Int) < 3 ^ j := Int.pow_pos (by omega)
      omega
    · rcases h with h | h
      · have e : (3 : Int) ^ (j + 1) = 3 * 3 ^ j := by rw [Int.pow_succ]; omega
        omega
      · have hj : j = 30 := by omega
        subst hj
        have e : (3 : Int) ^ 30 = 205891132094649 := by decide
        rw [e]; omega
end Go.Proofs.Ytgjphmlmndcaeaa

namespace Go.Proofs.Ytgjphmlmndcaeaa
open Go.RowKit

theorem between_any (n a b : Int) (w : World) :
    Calls Try.prog 53 #[.int .i64 n, .int .i64 a, .int .i64 b] w fun e w' => e = .returned (.bool (decide (a ≤ n ∧ n ≤ b))) ∧ w = w' := by
  go_enter Try.func53, Try.ntmps53
  go_wp2
  all_goals go_ret
  all_goals (refine ⟨?_, rfl⟩)
  · have h : a ≤ n := by assumption
    simp [h]
  · have h : n < a := by assumption
    have h2 : ¬ a ≤ n := by omega
    simp [h2]

theorem nret_int {k : IntKind} {a b : Int} (h : a = b) : Ending.returned (.int k a) = .returned (.int k b) := by rw [h]

theorem config_any (nd lf inn fl bl : Int) (w : World) :
    Calls Try.prog 30 #[.agg #[.int .i64 nd, .int .i64 lf, .int .i64 inn, .int .i64 fl, .int .i64 bl]] w fun e w' => e = .returned (.int .i64 (cfgE nd lf inn fl bl)) ∧ Below w.heap.size w w' := by
  go_enter Try.func30, Try.ntmps30
  go_wp2_with (go_at_call 53; refine (between_any _ _ _ _).mono ?_; rintro e w' ⟨rfl, rfl⟩)
  all_goals go_ret
  all_goals (refine ⟨nret_int ?_, (Below.refl _ _).alloc (Nat.le_refl _) _⟩)
  · rw [cfgE_ok (by unfold cfgOk; omega)]
  all_goals (rw [cfgE_bad (by unfold cfgOk; omega)])

theorem rconfig_any (nd lf inn fl bl : Int) (w : World) :
    Calls Try.prog 11 #[.agg #[.int .i64 nd, .int .i64 lf, .int .i64 inn, .int .i64 fl, .int .i64 bl]] w fun e w' => e = .returned (.int .i64 (cfgE nd lf inn fl bl)) ∧ Below w.heap.size w w' := by
  go_enter Try.func11, Try.ntmps11
  go_wp2
  all_goals go_ret
  all_goals (refine ⟨nret_int ?_, (Below.refl _ _).alloc (Nat.le_refl _) _⟩)
  all_goals first | (rw [cfgE_bad (by unfold cfgOk; omega)]) | (rw [cfgE_ok (by unfold cfgOk; omega)])

theorem parts_any (n m : Int) (hn : 0 ≤ n) (hn2 : n ≤ 9223372036854775807) (hm : 1 ≤ m) (hm2 : m ≤ 9223372036854775807) (w : World) :
    Calls Try.prog 31 #[.int .i64 n, .int .i64 m] w fun e w' => e = .returned (.int .i64 (parts n m)) ∧ w = w' := by
  have hq := Int.ediv_le_self m hn
  have hq0 : 0 ≤ n / m := Int.ediv_nonneg hn (by omega)
  have hr := Int.emod_nonneg n (show m ≠ 0 by omega)
  have hs := quo_rem_le hn hm
  by_cases hz : n = 0
  · have hb : (n == 0) = true := by simpa using hz
    have hq1 : n / m ≤ 0 := by omega
    go_enter Try.func31, Try.ntmps31
    go_wp2
    all_goals go_ret
    all_goals (refine ⟨nret_int ?_, rfl⟩)
    all_goals (subst hz; simp [parts])
  · have hb : (n == 0) = false := by simpa using hz
    by_cases h : 0 < n % m
    · go_enter Try.func31, Try.ntmps31
      go_wp2
      go_ret
      exact ⟨nret_int (by simp [parts, hz, h]), rfl⟩
    · go_enter Try.func31, Try.ntmps31
      go_wp2
      go_ret
      exact ⟨nret_int (by simp only [parts, hz, if_false]; omega), rfl⟩

def nodesV (p : Int × Int) : Value := .tuple #[.int .i64 p.1, .int .i64 p.2]

theorem nodes_bad (nd lf inn fl bl n : Int) (w : World) (hc : ¬ cfgOk nd lf inn fl bl ∨ n < 0) :
    Calls Try.prog 8 #[.agg #[.int .i64 nd, .int .i64 lf, .int .i64 inn, .int .i64 fl, .int .i64 bl], .int .i64 n] w fun e w' => e = .returned (nodesV (0, 1)) ∧ Below w.heap.size w w' := by
  by_cases h : cfgOk nd lf inn fl bl
  · have hn : n < 0 := hc.resolve_left (by simpa using h)
    have he := cfgE_ok h
    go_enter Try.func8, Try.ntmps8
    go_wp2_with fail
    go_wp2_with (go_at_call 30; refine (config_any _ _ _ _ _ _).mono ?_; rintro e w' ⟨rfl, hb⟩)
    go_ret2
    exact ⟨rfl, ((Below.refl _ _).alloc (Nat.le_refl _) _).trans (hb.mono (by simp))⟩
  · have he := cfgE_bad h
    go_enter Try.func8, Try.ntmps8
    go_wp2_with (go_at_call 30; refine (config_any _ _ _ _ _ _).mono ?_; rintro e w' ⟨rfl, hb⟩)
    go_ret2
    exact ⟨rfl, ((Below.refl _ _).alloc (Nat.le_refl _) _).trans (hb.mono (by simp))⟩

/-- what lay in memory lies there still -/
theorem nbcell {B : Nat} {W w1 : World} (hb : Below B W w1) {b o : Nat} (h : b < B) {v : Value} (hv : W.cell? ⟨b, o, none⟩ = some v) : w1.cell? ⟨b, o, none⟩ = some v :=
  (hb.cell (p := ⟨b, o, none⟩) h).trans hv

theorem nodes_ok (nd lf inn fl bl n : Int) (w : World) (h : cfgOk nd lf inn fl bl) (hn : ¬ n < 0) (hn2 : n ≤ 9223372036854775807) :
    Calls Try.prog 8 #[.agg #[.int .i64 nd, .int .i64 lf, .int .i64 inn, .int .i64 fl, .int .i64 bl], .int .i64 n] w fun e w' => e = .returned (nodesV (nodesOf nd lf inn fl bl n)) ∧ Below w.heap.size w w' := by
  have he := cfgE_ok h
  have hN := nodesOf_ok h hn
  have HN := Lib.hid hN
  clear hN
  have hc : 1 ≤ nd ∧ nd ≤ 65536 ∧ 2 ≤ lf ∧ lf ≤ 64 ∧ 3 ≤ inn ∧ inn ≤ 64 ∧ 1 ≤ fl ∧ fl ≤ lf ∧ 1 ≤ bl ∧ bl ≤ 64 := h
  obtain ⟨c1, c2, c3, c4, c5, c6, c7, c8, c9, c10⟩ := hc
  go_enter Try.func8, Try.ntmps8
  go_wp2_with (go_at_call 30; refine (config_any _ _ _ _ _ _).mono ?_; rintro e w' ⟨rfl, hb⟩)
  have b1 : Below w.heap.size w w' := ((Below.refl _ _).alloc (Nat.le_refl _) _).trans (hb.mono (by simp))
  have k0 : w'.cell? ⟨w.heap.size, 0, none⟩ = some (.int .i64 nd) := nbcell hb (by simp) (by simp)
  have k2 : w'.cell? ⟨w.heap.size, 2, none⟩ = some (.int .i64 inn) := nbcell hb (by simp) (by simp)
  have k3 : w'.cell? ⟨w.heap.size, 3, none⟩ = some (.int .i64 fl) := nbcell hb (by simp) (by simp)
  clear hb
  go_quiet (fail)
  go_wp2
  go_loopw [6, 7, 8, 19] (fun all many most i wr => ∃ (a m q : Int) (k : Nat), k ≤ 32 ∧ all = .int .i64 a ∧ many = .int .i64 m ∧ most = .int .i64 q ∧ i = .int .i64 k ∧ 0 ≤ a ∧ a ≤ nd ∧ 0 ≤ m ∧ m ≤ 9223372036854775807 ∧ 1 ≤ q ∧ q ≤ 64 ∧
      Hid (nodesOf nd lf inn fl bl n = lv nd inn (32 - k) (parts m q) a) ∧ Below w.heap.size w wr ∧ wr.cell? ⟨w.heap.size, 0, none⟩ = some (.int .i64 nd) ∧ wr.cell? ⟨w.heap.size, 2, none⟩ = some (.int .i64 inn))
    (fun _ _ _ i _ => 32 - (intOf i).toNat)
  case atStart => exact ⟨0, n, fl, 0, by omega, rfl, rfl, rfl, rfl, by omega, by omega, by omega, by omega, by omega, by omega, HN, below_drewN b1 _, by simpa using k0, by simpa using k2⟩
  case round =>
    obtain ⟨a, m, q, k, hk, rfl, rfl, rfl, rfl, ha, ha2, hm, hm2, hq, hq2, HR, hbl, e0, e2⟩ := hrel
    clear k0 k2 k3 b1 HN
    have hqq := Int.ediv_le_self q hm
    have hq0 : 0 ≤ m / q := Int.ediv_nonneg hm (by omega)
    have hr := Int.emod_nonneg m (show q ≠ 0 by omega)
    have hs : m / q + m % q ≤ m := quo_rem_le hm hq
    have HP := Lib.hid (parts_max hm hq)
    have hpp := parts_pos hm hq
    have hpb := parts_bound (most := q) hm
    by_cases hlt : k < 32
    · obtain ⟨j, hj⟩ : ∃ j, 32 - k = j + 1 := ⟨31 - k, by omega⟩
      have HJ := Lib.hid hj
      clear hj
      go_wp2
      go_region
      go_wp2
      · have hf : nd - a < max 1 (m / q + min 1 (m % q)) := by assumption
        rw [HP.out] at hf
        have hfin : nodesOf nd lf inn fl bl n = (0, 2) := by rw [HR.out]; exact lv_full hf
        go_ret2
        exact ⟨by rw [hfin]; rfl, (below_drewN hbl _)⟩
      · have hf : max 1 (m / q + min 1 (m % q)) ≤ nd - a := by assumption
        have h1 : (max 1 (m / q + min 1 (m % q)) == 1) = true := by assumption
        rw [HP.out] at hf h1
        have hfin : nodesOf nd lf inn fl bl n = (a + parts m q, 0) := by rw [HR.out, HJ.out]; exact lv_one (by omega) (by simpa using h1)
        go_ret2
        exact ⟨by rw [hfin, HP.out]; rfl, (below_drewN hbl _)⟩
      · have hf : max 1 (m / q + min 1 (m % q)) ≤ nd - a := by assumption
        have h1 : (max 1 (m / q + min 1 (m % q)) == 1) = false := by assumption
        rw [HP.out] at hf h1
        have hfin : nodesOf nd lf inn fl bl n = lv nd inn (32 - (k + 1)) (parts (parts m q) inn) (a + parts m q) := by
          rw [HR.out, HJ.out, lv_step (by omega) (by simpa using h1)]
          congr 1
          have := HJ.out; omega
        go_roundw
        case rel => exact ⟨a + parts m q, parts m q, inn, k + 1, by omega, by rw [HP.out], by rw [HP.out], rfl, by go_num, by omega, by omega, by omega, by omega, by omega, by omega, Lib.hid hfin, below_drewN hbl _, by simpa using e0, by simpa using e2⟩
        case measure => simp [intOf]; omega
    · have hk2 : k = 32 := by omega
      have hfin : nodesOf nd lf inn fl bl n = (0, 2) := by rw [HR.out, hk2]; rfl
      have HF := Lib.hid hfin
      clear hk2 hfin
      go_wp2
      go_ret2
      exact ⟨by rw [HF.out]; rfl, hbl⟩
end Go.Proofs.Ytgjphmlmndcaeaa

namespace Go.Proofs.Ytgjphmlmndcaeaa
open Go.Lib (compareBytes)

abbrev Ent := List UInt8 × List UInt8

def keyE (k : List UInt8) : Int := if 1 ≤ k.length ∧ k.length ≤ 64 then 0 else 3
def valE (v : List UInt8) : Int := if v.length ≤ 256 then 0 else 3
def entE (e : Ent) : Int := if 1 ≤ e.1.length ∧ e.1.length ≤ 64 ∧ e.2.length ≤ 256 then 0 else 3

theorem keyE_cases (k : List UInt8) : keyE k = 0 ∨ keyE k = 3 := by unfold keyE; split <;> simp
theorem valE_cases (k : List UInt8) : valE k = 0 ∨ valE k = 3 := by unfold valE; split <;> simp
theorem entE_cases (e : Ent) : entE e = 0 ∨ entE e = 3 := by unfold entE; split <;> simp
theorem entE_max (e : Ent) : max (keyE e.1) (valE e.2) = entE e := by
  unfold keyE valE entE
  by_cases h1 : 1 ≤ e.1.length ∧ e.1.length ≤ 64 <;> by_cases h2 : e.2.length ≤ 256
  · rw [if_pos h1, if_pos h2, if_pos ⟨h1.1, h1.2, h2⟩]; rfl
  · rw [if_pos h1, if_neg h2, if_neg (fun h => h2 h.2.2)]; rfl
  · rw [if_neg h1, if_pos h2, if_neg (fun h => h1 ⟨h.1, h.2.1⟩)]; rfl
  · rw [if_neg h1, if_neg h2, if_neg (fun h => h2 h.2.2)]; rfl
theorem entE_key {e : Ent} (h : keyE e.1 ≠ 0) : entE e = keyE e.1 := by
  have := entE_max e
  rcases keyE_cases e.1 with hk | hk
  · exact absurd hk h
  · rcases valE_cases e.2 with hv | hv <;> rw [hk, hv] at this <;> rw [hk, ← this] <;> rfl
theorem entE_val {e : Ent} (h : keyE e.1 = 0) : entE e = valE e.2 := by
  have := entE_max e
  rw [h] at this
  rcases valE_cases e.2 with hv | hv <;> rw [hv] at this <;> rw [hv, ← this] <;> rfl

/-- how many bytes two texts have in common at their beginnings -/
def comm : List UInt8 → List UInt8 → Nat
  | x :: xs, y :: ys => if x = y then comm xs ys + 1 else 0
  | _, _ => 0

theorem comm_le : ∀ (a b : List UInt8), comm a b ≤ a.length ∧ comm a b ≤ b.length
  | [], _ => by simp [comm]
  | _ :: _, [] => by simp [comm]
  | x :: xs, y :: ys => by
    have := comm_le xs ys
    unfold comm; split <;> simp <;> omega
/-- the bytes ahead are the same -/
theorem comm_same : ∀ (a b : List UInt8) (k : Nat), k < comm a b → a[k]? = b[k]?
  | [], _, k, h => by simp [comm] at h
  | _ :: _, [], k, h => by simp [comm] at h
  | x :: xs, y :: ys, k, h => by
    unfold comm at h
    split at h
    · rename_i e; subst e
      cases k with
      | zero => rfl
      | succ k => simpa using comm_same xs ys k (by omega)
    · omega
/-- the byte there is another one -/
theorem comm_other : ∀ (a b : List UInt8), comm a b < a.length → comm a b < b.length → a[comm a b]? ≠ b[comm a b]?
  | [], _, h, _ => by simp [comm] at h
  | _ :: _, [], _, h => by simp [comm] at h
  | x :: xs, y :: ys, h1, h2 => by
    unfold comm at h1 h2 ⊢
    by_cases e : x = y
    · simp only [e, if_true, List.length_cons] at h1 h2 ⊢
      simpa using comm_other xs ys (by omega) (by omega)
    · simp [e]
/-- it is the number: the bytes ahead the same, and an end or another byte there -/
theorem comm_eq (a b : List UInt8) (n : Nat) (h : ∀ k, k < n → a[k]? = b[k]?) (ha : n ≤ a.length) (hb : n ≤ b.length) (hn : n = a.length ∨ n = b.length ∨ a[n]? ≠ b[n]?) : n = comm a b := by
  rcases Nat.lt_trichotomy n (comm a b) with h1 | h1 | h1
  · have hl := comm_le a b
    rcases hn with hn | hn | hn
    · omega
    · omega
    · exact absurd (comm_same a b n h1) hn
  · exact h1
  · exact absurd (h _ h1) (comm_other a b (by omega) (by omega))

theorem compare_range : ∀ (a b : List UInt8), compareBytes a b = -1 ∨ compareBytes a b = 0 ∨ compareBytes a b = 1
  | [], [] => by simp [compareBytes]
  | [], _ :: _ => by simp [compareBytes]
  | _ :: _, [] => by simp [compareBytes]
  | x :: xs, y :: ys => by
    unfold compareBytes
    split
    · simp
    · split
      · simp
      · exact compare_range xs ys
/-- the comparison, by what is in common -/
def cmpC (a b : List UInt8) : Int :=
  if comm a b = a.length ∧ comm a b = b.length then 0
  else if comm a b = a.length then -1
  else if comm a b = b.length then 1
  else if a.getD (comm a b) 0 < b.getD (comm a b) 0 then -1 else 1
theorem cmpC_eq : ∀ (a b : List UInt8), compareBytes a b = cmpC a b
  | [], [] => by simp [compareBytes, cmpC, comm]
  | [], _ :: _ => by simp [compareBytes, cmpC, comm]
  | _ :: _, [] => by simp [compareBytes, cmpC, comm]
  | x :: xs, y :: ys => by
    have ih := cmpC_eq xs ys
    unfold compareBytes
    by_cases e : x = y
    · subst e
      have hlt : ¬ x < x := UInt8.lt_irrefl x
      rw [if_neg hlt, if_neg hlt, ih]
      unfold cmpC
      simp only [comm, if_true, List.length_cons, Nat.add_right_cancel_iff, List.getD_cons_succ]
    · have hc : comm (x :: xs) (y :: ys) = 0 := by simp [comm, e]
      have hv : cmpC (x :: xs) (y :: ys) = if x < y then -1 else 1 := by
        unfold cmpC
        rw [hc]
        simp
      rw [hv]
      by_cases hlt : x < y
      · rw [if_pos hlt, if_pos hlt]
      · have : y < x := UInt8.lt_of_le_of_ne (UInt8.not_lt.1 hlt) (Ne.symm e)
        rw [if_neg hlt, if_neg hlt, if_pos this]

/-- below: the first list is the lesser -/
theorem compare_lt_iff (a b : List UInt8) : compareBytes a b < 0 ↔ (comm a b < b.length ∧ (comm a b = a.length ∨ a.getD (comm a b) 0 < b.getD (comm a b) 0)) := by
  have hl := comm_le a b
  rw [cmpC_eq]
  unfold cmpC
  by_cases h1 : comm a b = a.length
  · by_cases h2 : comm a b = b.length
    · rw [if_pos ⟨h1, h2⟩]; simp; omega
    · rw [if_neg (fun h => h2 h.2), if_pos h1]; simp [h1]; omega
  · rw [if_neg (fun h => h1 h.1), if_neg h1]
    by_cases h2 : comm a b = b.length
    · rw [if_pos h2]; simp; omega
    · rw [if_neg h2]
      by_cases h3 : a.getD (comm a b) 0 < b.getD (comm a b) 0
      · rw [if_pos h3]; simp only [show (-1 : Int) < 0 by omega, true_iff]; exact ⟨by omega, .inr h3⟩
      · rw [if_neg h3]; simp only [show ¬ (1 : Int) < 0 by omega, false_iff]; rintro ⟨_, h | h⟩ <;> contradiction

theorem getD_take (l : List UInt8) (n k : Nat) (h : k < n) : (l.take n).getD k 0 = l.getD k 0 := by
  simp [List.getD, h]
/-- of a shorter beginning -/
theorem comm_take (a b : List UInt8) (n : Nat) (hn : n ≤ b.length) : comm a (b.take n) = min n (comm a b) := by
  have hl := comm_le a b
  symm
  refine comm_eq a (b.take n) _ (fun k hk => ?_) (by omega) (by simp; omega) ?_
  · rw [List.getElem?_take, if_pos (by omega)]
    exact comm_same a b k (by omega)
  · rcases Nat.lt_or_ge (comm a b) n with h | h
    · rw [Nat.min_eq_right (by omega)]
      by_cases h1 : comm a b = a.length
      · exact .inl h1
      · refine .inr (.inr ?_)
        rw [List.getElem?_take, if_pos h]
        exact comm_other a b (by omega) (by omega)
    · rw [Nat.min_eq_left h]
      exact .inr (.inl (by simp; omega))
/-- the least beginning of b above a is the one behind what they have in common -/
theorem between_least {a b : List UInt8} {n : Nat} (hn : n ≤ b.length) : compareBytes a (b.take n) < 0 ↔ (compareBytes a b < 0 ∧ comm a b < n) := by
  have hl := comm_le a b
  have hc := comm_take a b n hn
  rw [compare_lt_iff, compare_lt_iff, hc, List.length_take]
  rcases Nat.lt_or_ge (comm a b) n with h | h
  · have e : min n (comm a b) = comm a b := by omega
    rw [e, getD_take _ _ _ h]
    constructor
    · rintro ⟨h1, h2⟩; exact ⟨⟨by omega, h2⟩, h⟩
    · rintro ⟨⟨h1, h2⟩, _⟩; exact ⟨by omega, h2⟩
  · constructor
    · rintro ⟨h1, _⟩; omega
    · rintro ⟨_, h1⟩; omega

/-- the shortest text above a that is not above b, and the error -/
def betw (a b : List UInt8) : List UInt8 × Int := if compareBytes a b < 0 then (b.take (comm a b + 1), 0) else ([], 51)

/-- what is wrong with an entry of a list -/
def badAt (l : List Ent) (i : Nat) : Int :=
  if entE (l.getD i ([], [])) ≠ 0 then entE (l.getD i ([], []))
  else if 0 < i ∧ 0 ≤ compareBytes (l.getD (i - 1) ([], [])).1 (l.getD i ([], [])).1 then 51 else 0
/-- the first entry that is wrong, and the error -/
def sortedOf (l : List Ent) : Int × Int :=
  match (List.range l.length).find? (fun i => badAt l i != 0) with
  | some i => ((i : Int), badAt l i)
  | none => (0, 0)

theorem find_range_some {p : Nat → Bool} {n i : Nat} (hi : i < n) (h : ∀ j, j < i → p j = false) (hp : p i = true) : (List.range n).find? p = some i := by
  rw [List.find?_range_eq_some]
  exact ⟨hp, by simpa using hi, fun j hj => by simp [h j hj]⟩
theorem find_range_none {p : Nat → Bool} {n : Nat} (h : ∀ j, j < n → p j = false) : (List.range n).find? p = none := by
  rw [List.find?_eq_none]
  intro j hj
  simp [h j (by simpa using hj)]
theorem sorted_at {l : List Ent} {i : Nat} (hi : i < l.length) (h : ∀ j, j < i → badAt l j = 0) (hb : badAt l i ≠ 0) : sortedOf l = ((i : Int), badAt l i) := by
  unfold sortedOf
  rw [find_range_some (i := i) hi (fun j hj => by simp [h j hj]) (by simpa using hb)]
theorem sorted_ok {l : List Ent} (h : ∀ j, j < l.length → badAt l j = 0) : sortedOf l = (0, 0) := by
  unfold sortedOf
  rw [find_range_none (fun j hj => by simp [h j hj])]
/-- a list that rises -/
def Rising (l : List Ent) : Prop := ∀ j, j < l.length → badAt l j = 0
theorem sorted_iff (l : List Ent) : (sortedOf l).2 = 0 ↔ Rising l := by
  constructor
  · intro h j hj
    unfold sortedOf at h
    cases hf : (List.range l.length).find? (fun i => badAt l i != 0) with
    | none =>
      have := (List.find?_eq_none.1 hf) j (by simpa using hj)
      simpa using this
    | some i =>
      rw [hf] at h
      have := List.find?_some hf
      simp only at h
      simp [h] at this
  · intro h; rw [sorted_ok h]
theorem badAt_bad {l : List Ent} {i : Nat} {e : Ent} (he : l[i]? = some e) (h : entE e ≠ 0) : badAt l i = entE e := by
  have hd : l.getD i ([], []) = e := by simp [List.getD, he]
  unfold badAt; rw [hd, if_pos h]
theorem badAt_order {l : List Ent} {i : Nat} {d e : Ent} (he : l[i]? = some e) (hd : l[i - 1]? = some d) (h : entE e = 0) (hi : 0 < i) (hc : 0 ≤ compareBytes d.1 e.1) : badAt l i = 51 := by
  have e1 : l.getD i ([], []) = e := by simp [List.getD, he]
  have e2 : l.getD (i - 1) ([], []) = d := by simp [List.getD, hd]
  unfold badAt; rw [e1, e2, if_neg (by simpa using h), if_pos ⟨hi, hc⟩]
theorem badAt_first {l : List Ent} {e : Ent} (he : l[0]? = some e) (h : entE e = 0) : badAt l 0 = 0 := by
  have e1 : l.getD 0 ([], []) = e := by simp [List.getD, he]
  unfold badAt; rw [e1, if_neg (by simpa using h), if_neg (fun h => by omega)]
theorem badAt_fine {l : List Ent} {i : Nat} {d e : Ent} (he : l[i]? = some e) (hd : l[i - 1]? = some d) (h : entE e = 0) (hc : compareBytes d.1 e.1 < 0) : badAt l i = 0 := by
  have e1 : l.getD i ([], []) = e := by simp [List.getD, he]
  have e2 : l.getD (i - 1) ([], []) = d := by simp [List.getD, hd]
  unfold badAt; rw [e1, e2, if_neg (by simpa using h), if_neg (fun h => by omega)]
end Go.Proofs.Ytgjphmlmndcaeaa

namespace Go.Proofs.Ytgjphmlmndcaeaa
open Go.Lib (compareBytes)
theorem cb_swap : ∀ (a b : List UInt8), compareBytes b a = - compareBytes a b
  | [], [] => by simp [compareBytes]
  | [], _ :: _ => by simp [compareBytes]
  | _ :: _, [] => by simp [compareBytes]
  | x :: xs, y :: ys => by
    have ih := cb_swap xs ys
    unfold compareBytes
    by_cases h1 : x < y
    · rw [if_pos h1, if_neg (UInt8.lt_asymm h1), if_pos h1]; rfl
    · by_cases h2 : y < x
      · rw [if_pos h2, if_neg h1, if_pos h2]
      · rw [if_neg h1, if_neg h2, if_neg h2, if_neg h1]; exact ih
theorem cb_refl : ∀ (a : List UInt8), compareBytes a a = 0
  | [] => by simp [compareBytes]
  | x :: xs => by
    unfold compareBytes
    rw [if_neg (UInt8.lt_irrefl x), if_neg (UInt8.lt_irrefl x)]
    exact cb_refl xs
theorem cb_eq : ∀ (a b : List UInt8), compareBytes a b = 0 → a = b
  | [], [], _ => rfl
  | [], _ :: _, h => by simp [compareBytes] at h
  | _ :: _, [], h => by simp [compareBytes] at h
  | x :: xs, y :: ys, h => by
    unfold compareBytes at h
    by_cases h1 : x < y
    · rw [if_pos h1] at h; simp at h
    · by_cases h2 : y < x
      · rw [if_neg h1, if_pos h2] at h; simp at h
      · rw [if_neg h1, if_neg h2] at h
        have e : x = y := UInt8.le_antisymm (UInt8.not_lt.1 h2) (UInt8.not_lt.1 h1)
        rw [e, cb_eq xs ys h]
theorem cb_trans : ∀ (a b c : List UInt8), compareBytes a b < 0 → compareBytes b c < 0 → compareBytes a c < 0
  | _, [], [], h1, h2 => by simp [compareBytes] at h2
  | [], _, [], h1, h2 => by
    rename_i b
    cases b <;> simp [compareBytes] at h2
  | _ :: _, [], _, h1, _ => by simp [compareBytes] at h1
  | _, _ :: _, [], _, h2 => by simp [compareBytes] at h2
  | [], _, _ :: _, _, _ => by simp [compareBytes]
  | x :: xs, y :: ys, z :: zs, h1, h2 => by
    have ih := cb_trans xs ys zs
    unfold compareBytes at h1 h2 ⊢
    by_cases a1 : x < y
    · by_cases b1 : y < z
      · rw [if_pos (UInt8.lt_trans a1 b1)]; simp
      · by_cases b2 : z < y
        · rw [if_neg b1, if_pos b2] at h2; simp at h2
        · have e : y = z := UInt8.le_antisymm (UInt8.not_lt.1 b2) (UInt8.not_lt.1 b1)
          subst e
          rw [if_pos a1]; simp
    · by_cases a2 : y < x
      · rw [if_neg a1, if_pos a2] at h1; simp at h1
      · have e : x = y := UInt8.le_antisymm (UInt8.not_lt.1 a2) (UInt8.not_lt.1 a1)
        subst e
        rw [if_neg a1, if_neg a1] at h1
        by_cases b1 : x < z
        · rw [if_pos b1]; simp
        · by_cases b2 : z < x
          · rw [if_neg b1, if_pos b2] at h2; simp at h2
          · rw [if_neg b1, if_neg b2] at h2 ⊢
            exact ih h1 h2
/-- one text lies ahead of another one -/
def TLt (a b : List UInt8) : Prop := compareBytes a b < 0
/-- one text does not lie behind another one -/
def TLe (a b : List UInt8) : Prop := compareBytes a b ≤ 0
section
variable {a b c : List UInt8}
theorem TLt.trans (h : TLt a b) (k : TLt b c) : TLt a c := cb_trans a b c h k
theorem TLt.le (h : TLt a b) : TLe a b := Int.le_of_lt h
theorem TLe.cases (h : TLe a b) : a = b ∨ TLt a b := by
  unfold TLe at h
  unfold TLt
  by_cases e : compareBytes a b = 0
  · exact .inl (cb_eq a b e)
  · exact .inr (by omega)
theorem TLe.refl (a : List UInt8) : TLe a a := by unfold TLe; rw [cb_refl]; omega
theorem TLt.trans_le (h : TLt a b) (k : TLe b c) : TLt a c := by
  rcases k.cases with e | k
  · subst e; exact h
  · exact h.trans k
theorem TLe.trans_lt (h : TLe a b) (k : TLt b c) : TLt a c := by
  rcases h.cases with e | h
  · subst e; exact k
  · exact h.trans k
theorem TLe.trans (h : TLe a b) (k : TLe b c) : TLe a c := by
  rcases h.cases with e | h
  · subst e; exact k
  · exact (h.trans_le k).le
theorem TLt.irrefl (h : TLt a a) : False := by unfold TLt at h; rw [cb_refl] at h; omega
theorem TLt.ne (h : TLt a b) : a ≠ b := fun e => by subst e; exact h.irrefl
theorem TLe.ge (h : TLe a b) : 0 ≤ compareBytes b a := by have h : compareBytes a b ≤ 0 := h; rw [cb_swap]; omega
theorem TLt.gt (h : TLt a b) : 0 < compareBytes b a := by have h : compareBytes a b < 0 := h; rw [cb_swap]; omega
theorem TLt.pos (h : TLt a b) : b ≠ [] := by
  intro e; subst e
  unfold TLt at h
  cases a <;> simp [compareBytes] at h
theorem TLe.take : ∀ (n : Nat) (b : List UInt8), TLe (b.take n) b
  | 0, [] => TLe.refl _
  | 0, _ :: _ => by simp [TLe, compareBytes]
  | n + 1, [] => TLe.refl _
  | n + 1, x :: xs => by
    have := TLe.take n xs
    unfold TLe at this ⊢
    rw [List.take_succ_cons]
    unfold compareBytes
    rw [if_neg (UInt8.lt_irrefl x), if_neg (UInt8.lt_irrefl x)]
    exact this
/-- what lies between two texts -/
theorem betw_ok (h : TLt a b) (hb : b.length ≤ 64) : TLt a (betw a b).1 ∧ TLe (betw a b).1 b ∧ 1 ≤ (betw a b).1.length ∧ (betw a b).1.length ≤ 64 := by
  have h' : compareBytes a b < 0 := h
  have e : betw a b = (b.take (comm a b + 1), 0) := by unfold betw; rw [if_pos h']
  have hlt := (compare_lt_iff a b).1 h'
  rw [e]
  refine ⟨(between_least (by omega)).2 ⟨h', by omega⟩, TLe.take _ _, ?_, ?_⟩
  · simp only [List.length_take]; omega
  · simp only [List.length_take]; omega
end
end Go.Proofs.Ytgjphmlmndcaeaa
