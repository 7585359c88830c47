/- WALKS: how many nodes a packed tree has. -/
import Derived.Test.YtgjphmlmndcaeaaChecked
import Derived.Test.YtgjphmlmndcaeaaNum
import Derived.WalkKit
import Derived.WalkLawsBesides
import Derived.Deep.QuietTactic
import Derived.BigQuiet
import Derived.Lib.Hide
import Derived.WalkSmall
import Derived.LoopTactic
import Derived.Lib.MinMax
import Derived.Outline
import Derived.StillTailTactics
import Derived.Deep.RegionHeld3
import Derived.BigRegion
namespace Go.Proofs.Ytgjphmlmndcaeaa
open Go.RowKit

theorem between_any (n a b : Int) (w : World) :
    Calls Try.prog 53 #[.int .i64 n, .int .i64 a, .int .i64 b] w fun e w' => e = .returned (.bool (decide (a ≤ n ∧ n ≤ b))) ∧ w = w' := by
  go_enter Try.func53, Try.ntmps53
  go_wp2
  all_goals go_ret
  all_goals (refine ⟨?_, rfl⟩)
  · have h : a ≤ n := by assumption
    simp [h]
  · have h : n < a := by assumption
    have h2 : ¬ a ≤ n := by omega
    simp [h2]

theorem ret_int {k : IntKind} {a b : Int} (h : a = b) : Ending.returned (.int k a) = .returned (.int k b) := by rw [h]

theorem config_any (nd lf inn fl bl : Int) (w : World) :
    Calls Try.prog 30 #[.agg #[.int .i64 nd, .int .i64 lf, .int .i64 inn, .int .i64 fl, .int .i64 bl]] w fun e w' => e = .returned (.int .i64 (cfgE nd lf inn fl bl)) ∧ Below w.heap.size w w' := by
  go_enter Try.func30, Try.ntmps30
  go_wp2_with (go_at_call 53; refine (between_any _ _ _ _).mono ?_; rintro e w' ⟨rfl, rfl⟩)
  all_goals go_ret
  all_goals (refine ⟨ret_int ?_, (Below.refl _ _).alloc (Nat.le_refl _) _⟩)
  · rw [cfgE_ok (by unfold cfgOk; omega)]
  all_goals (rw [cfgE_bad (by unfold cfgOk; omega)])

theorem rconfig_any (nd lf inn fl bl : Int) (w : World) :
    Calls Try.prog 11 #[.agg #[.int .i64 nd, .int .i64 lf, .int .i64 inn, .int .i64 fl, .int .i64 bl]] w fun e w' => e = .returned (.int .i64 (cfgE nd lf inn fl bl)) ∧ Below w.heap.size w w' := by
  go_enter Try.func11, Try.ntmps11
  go_wp2
  all_goals go_ret
  all_goals (refine ⟨ret_int ?_, (Below.refl _ _).alloc (Nat.le_refl _) _⟩)
  all_goals first | (rw [cfgE_bad (by unfold cfgOk; omega)]) | (rw [cfgE_ok (by unfold cfgOk; omega)])

theorem parts_any (n m : Int) (hn : 0 ≤ n) (hn2 : n ≤ 9223372036854775807) (hm : 1 ≤ m) (hm2 : m ≤ 9223372036854775807) (w : World) :
    Calls Try.prog 31 #[.int .i64 n, .int .i64 m] w fun e w' => e = .returned (.int .i64 (parts n m)) ∧ w = w' := by
  have hq := Int.ediv_le_self m hn
  have hq0 : 0 ≤ n / m := Int.ediv_nonneg hn (by omega)
  have hr := Int.emod_nonneg n (show m ≠ 0 by omega)
  have hs := quo_rem_le hn hm
  by_cases hz : n = 0
  · have hb : (n == 0) = true := by simpa using hz
    have hq1 : n / m ≤ 0 := by omega
    go_enter Try.func31, Try.ntmps31
    go_wp2
    all_goals go_ret
    all_goals (refine ⟨ret_int ?_, rfl⟩)
    all_goals (subst hz; simp [parts])
  · have hb : (n == 0) = false := by simpa using hz
    by_cases h : 0 < n % m
    · go_enter Try.func31, Try.ntmps31
      go_wp2
      go_ret
      exact ⟨ret_int (by simp [parts, hz, h]), rfl⟩
    · go_enter Try.func31, Try.ntmps31
      go_wp2
      go_ret
      exact ⟨ret_int (by simp only [parts, hz, if_false]; omega), rfl⟩

def nodesV (p : Int × Int) : Value := .tuple #[.int .i64 p.1, .int .i64 p.2]

theorem nodes_bad (nd lf inn fl bl n : Int) (w : World) (hc : ¬ cfgOk nd lf inn fl bl ∨ n < 0) :
    Calls Try.prog 8 #[.agg #[.int .i64 nd, .int .i64 lf, .int .i64 inn, .int .i64 fl, .int .i64 bl], .int .i64 n] w fun e w' => e = .returned (nodesV (0, 1)) ∧ Below w.heap.size w w' := by
  by_cases h : cfgOk nd lf inn fl bl
  · have hn : n < 0 := hc.resolve_left (by simpa using h)
    have he := cfgE_ok h
    go_enter Try.func8, Try.ntmps8
    go_wp2_with fail
    go_wp2_with (go_at_call 30; refine (config_any _ _ _ _ _ _).mono ?_; rintro e w' ⟨rfl, hb⟩)
    go_ret2
    exact ⟨rfl, ((Below.refl _ _).alloc (Nat.le_refl _) _).trans (hb.mono (by simp))⟩
  · have he := cfgE_bad h
    go_enter Try.func8, Try.ntmps8
    go_wp2_with (go_at_call 30; refine (config_any _ _ _ _ _ _).mono ?_; rintro e w' ⟨rfl, hb⟩)
    go_ret2
    exact ⟨rfl, ((Below.refl _ _).alloc (Nat.le_refl _) _).trans (hb.mono (by simp))⟩

/-- what lay in memory lies there still -/
theorem bcell {B : Nat} {W w1 : World} (hb : Below B W w1) {b o : Nat} (h : b < B) {v : Value} (hv : W.cell? ⟨b, o, none⟩ = some v) : w1.cell? ⟨b, o, none⟩ = some v :=
  (hb.cell (p := ⟨b, o, none⟩) h).trans hv

theorem nodes_ok (nd lf inn fl bl n : Int) (w : World) (h : cfgOk nd lf inn fl bl) (hn : ¬ n < 0) (hn2 : n ≤ 9223372036854775807) :
    Calls Try.prog 8 #[.agg #[.int .i64 nd, .int .i64 lf, .int .i64 inn, .int .i64 fl, .int .i64 bl], .int .i64 n] w fun e w' => e = .returned (nodesV (nodesOf nd lf inn fl bl n)) ∧ Below w.heap.size w w' := by
  have he := cfgE_ok h
  have hN := nodesOf_ok h hn
  have HN := Lib.hid hN
  clear hN
  have hc : 1 ≤ nd ∧ nd ≤ 65536 ∧ 2 ≤ lf ∧ lf ≤ 64 ∧ 3 ≤ inn ∧ inn ≤ 64 ∧ 1 ≤ fl ∧ fl ≤ lf ∧ 1 ≤ bl ∧ bl ≤ 64 := h
  obtain ⟨c1, c2, c3, c4, c5, c6, c7, c8, c9, c10⟩ := hc
  go_enter Try.func8, Try.ntmps8
  go_wp2_with (go_at_call 30; refine (config_any _ _ _ _ _ _).mono ?_; rintro e w' ⟨rfl, hb⟩)
  have b1 : Below w.heap.size w w' := ((Below.refl _ _).alloc (Nat.le_refl _) _).trans (hb.mono (by simp))
  have k0 : w'.cell? ⟨w.heap.size, 0, none⟩ = some (.int .i64 nd) := bcell hb (by simp) (by simp)
  have k2 : w'.cell? ⟨w.heap.size, 2, none⟩ = some (.int .i64 inn) := bcell hb (by simp) (by simp)
  have k3 : w'.cell? ⟨w.heap.size, 3, none⟩ = some (.int .i64 fl) := bcell hb (by simp) (by simp)
  clear hb
  go_quiet (fail)
  go_wp2
  go_loopw [6, 7, 8, 19] (fun all many most i wr => ∃ (a m q : Int) (k : Nat), k ≤ 32 ∧ all = .int .i64 a ∧ many = .int .i64 m ∧ most = .int .i64 q ∧ i = .int .i64 k ∧ 0 ≤ a ∧ a ≤ nd ∧ 0 ≤ m ∧ m ≤ 9223372036854775807 ∧ 1 ≤ q ∧ q ≤ 64 ∧
      Hid (nodesOf nd lf inn fl bl n = lv nd inn (32 - k) (parts m q) a) ∧ Below w.heap.size w wr ∧ wr.cell? ⟨w.heap.size, 0, none⟩ = some (.int .i64 nd) ∧ wr.cell? ⟨w.heap.size, 2, none⟩ = some (.int .i64 inn))
    (fun _ _ _ i _ => 32 - (intOf i).toNat)
  case atStart => exact ⟨0, n, fl, 0, by omega, rfl, rfl, rfl, rfl, by omega, by omega, by omega, by omega, by omega, by omega, HN, below_drewN b1 _, by simpa using k0, by simpa using k2⟩
  case round =>
    obtain ⟨a, m, q, k, hk, rfl, rfl, rfl, rfl, ha, ha2, hm, hm2, hq, hq2, HR, hbl, e0, e2⟩ := hrel
    clear k0 k2 k3 b1 HN
    have hqq := Int.ediv_le_self q hm
    have hq0 : 0 ≤ m / q := Int.ediv_nonneg hm (by omega)
    have hr := Int.emod_nonneg m (show q ≠ 0 by omega)
    have hs : m / q + m % q ≤ m := quo_rem_le hm hq
    have HP := Lib.hid (parts_max hm hq)
    have hpp := parts_pos hm hq
    have hpb := parts_bound (most := q) hm
    by_cases hlt : k < 32
    · obtain ⟨j, hj⟩ : ∃ j, 32 - k = j + 1 := ⟨31 - k, by omega⟩
      have HJ := Lib.hid hj
      clear hj
      go_wp2
      go_region
      go_wp2
      · have hf : nd - a < max 1 (m / q + min 1 (m % q)) := by assumption
        rw [HP.out] at hf
        have hfin : nodesOf nd lf inn fl bl n = (0, 2) := by rw [HR.out]; exact lv_full hf
        go_ret2
        exact ⟨by rw [hfin]; rfl, (below_drewN hbl _)⟩
      · have hf : max 1 (m / q + min 1 (m % q)) ≤ nd - a := by assumption
        have h1 : (max 1 (m / q + min 1 (m % q)) == 1) = true := by assumption
        rw [HP.out] at hf h1
        have hfin : nodesOf nd lf inn fl bl n = (a + parts m q, 0) := by rw [HR.out, HJ.out]; exact lv_one (by omega) (by simpa using h1)
        go_ret2
        exact ⟨by rw [hfin, HP.out]; rfl, (below_drewN hbl _)⟩
      · have hf : max 1 (m / q + min 1 (m % q)) ≤ nd - a := by assumption
        have h1 : (max 1 (m / q + min 1 (m % q)) == 1) = false := by assumption
        rw [HP.out] at hf h1
        have hfin : nodesOf nd lf inn fl bl n = lv nd inn (32 - (k + 1)) (parts (parts m q) inn) (a + parts m q) := by
          rw [HR.out, HJ.out, lv_step (by omega) (by simpa using h1)]
          congr 1
          have := HJ.out; omega
        go_roundw
        case rel => exact ⟨a + parts m q, parts m q, inn, k + 1, by omega, by rw [HP.out], by rw [HP.out], rfl, by go_num, by omega, by omega, by omega, by omega, by omega, by omega, Lib.hid hfin, below_drewN hbl _, by simpa using e0, by simpa using e2⟩
        case measure => simp [intOf]; omega
    · have hk2 : k = 32 := by omega
      have hfin : nodesOf nd lf inn fl bl n = (0, 2) := by rw [HR.out, hk2]; rfl
      have HF := Lib.hid hfin
      clear hk2 hfin
      go_wp2
      go_ret2
      exact ⟨by rw [HF.out]; rfl, hbl⟩
end Go.Proofs.Ytgjphmlmndcaeaa
