/- WALKS: the document's number of nodes; the live question; the law. -/
import Derived.Test.YtgjphmlmndcaeaaNodes
import Derived.Deep.LoopGhost
namespace Go.Proofs.Ytgjphmlmndcaeaa
open Go.RowKit

theorem rnodes_bad (nd lf inn fl bl n : Int) (w : World) (hc : ¬ cfgOk nd lf inn fl bl ∨ n < 0) :
    Calls Try.prog 9 #[.agg #[.int .i64 nd, .int .i64 lf, .int .i64 inn, .int .i64 fl, .int .i64 bl], .int .i64 n] w fun e w' => e = .returned (nodesV (0, 1)) ∧ Below w.heap.size w w' := by
  by_cases h : cfgOk nd lf inn fl bl
  · have hn : n < 0 := hc.resolve_left (by simpa using h)
    have he := cfgE_ok h
    go_enter Try.func9, Try.ntmps9
    go_wp2_with (go_at_call 11; refine (rconfig_any _ _ _ _ _ _).mono ?_; rintro e w' ⟨rfl, hb⟩)
    go_ret2
    exact ⟨rfl, ((Below.refl _ _).alloc (Nat.le_refl _) _).trans (hb.mono (by simp))⟩
  · have he := cfgE_bad h
    go_enter Try.func9, Try.ntmps9
    go_wp2_with (go_at_call 11; refine (rconfig_any _ _ _ _ _ _).mono ?_; rintro e w' ⟨rfl, hb⟩)
    go_ret2
    exact ⟨rfl, ((Below.refl _ _).alloc (Nat.le_refl _) _).trans (hb.mono (by simp))⟩

theorem rnodes_ok (nd lf inn fl bl n : Int) (w : World) (h : cfgOk nd lf inn fl bl) (hn : ¬ n < 0) (hn2 : n ≤ 9223372036854775807) :
    Calls Try.prog 9 #[.agg #[.int .i64 nd, .int .i64 lf, .int .i64 inn, .int .i64 fl, .int .i64 bl], .int .i64 n] w fun e w' => e = .returned (nodesV (nodesOf nd lf inn fl bl n)) ∧ Below w.heap.size w w' := by
  have he := cfgE_ok h
  have HN := Lib.hid (nodesOf_ok h hn)
  have hc : 1 ≤ nd ∧ nd ≤ 65536 ∧ 2 ≤ lf ∧ lf ≤ 64 ∧ 3 ≤ inn ∧ inn ≤ 64 ∧ 1 ≤ fl ∧ fl ≤ lf ∧ 1 ≤ bl ∧ bl ≤ 64 := h
  obtain ⟨c1, c2, c3, c4, c5, c6, c7, c8, c9, c10⟩ := hc
  have p1 := parts_pos (n := n) (most := fl) (by omega) (by omega)
  have p2 := parts_self (n := n) (most := fl) (by omega) (by omega)
  go_enter Try.func9, Try.ntmps9
  go_wp2_with (go_at_call 11; refine (rconfig_any _ _ _ _ _ _).mono ?_; rintro e w' ⟨rfl, hb⟩; have b1 : Below w.heap.size w w' := ((Below.refl _ _).alloc (Nat.le_refl _) _).trans (hb.mono (by simp)); have k0 : w'.cell? ⟨w.heap.size, 0, none⟩ = some (.int .i64 nd) := bcell hb (by simp) (by simp); have k2 : w'.cell? ⟨w.heap.size, 2, none⟩ = some (.int .i64 inn) := bcell hb (by simp) (by simp); have k3 : w'.cell? ⟨w.heap.size, 3, none⟩ = some (.int .i64 fl) := bcell hb (by simp) (by simp); clear hb)
  go_wp2_with (go_at_call 31; refine (parts_any _ _ (by omega) (by omega) (by omega) (by omega) _).mono ?_; rintro e w' ⟨rfl, rfl⟩)
  go_loopg [7, 8] 32 (fun g m all wr => ∃ (a q : Int) (k : Nat), g = k + 1 ∧ all = .int .i64 a ∧ m = .int .i64 q ∧ 0 ≤ a ∧ a ≤ nd ∧ 1 ≤ q ∧ q ≤ 9223372036854775807 ∧ Enough q k ∧
      Hid (nodesOf nd lf inn fl bl n = lv nd inn (k + 1) q a) ∧ wr = w')
  case atStart => exact ⟨0, parts n fl, 31, rfl, rfl, rfl, by omega, by omega, by omega, by omega, enough_start _, HN, rfl⟩
  case round =>
    obtain ⟨a, q, k, hg, rfl, rfl, ha, ha2, hq, hq2, HE, HR, rfl⟩ := hrel
    have HG := Lib.hid hg
    clear hg HN
    by_cases hf : nd - a < q
    · have HF := Lib.hid (HR.out.trans (lv_full hf))
      go_wp2
      go_ret2
      exact ⟨by rw [HF.out]; rfl, b1⟩
    · by_cases h1 : q = 1
      · have HF := Lib.hid (HR.out.trans (lv_one hf h1))
        subst h1
        go_wp2
        go_ret2
        exact ⟨by rw [HF.out]; rfl, b1⟩
      · obtain ⟨j, hj, HE2⟩ := enough_step c5 ha c2 hq h1 hf HE
        have HF := Lib.hid (HR.out.trans (lv_step hf h1))
        have HJ := Lib.hid hj
        clear hj
        have hb1 : (q == 1) = false := by simpa using h1
        have p3 := parts_pos (n := q) (most := inn) (by omega) (by omega)
        have p4 := parts_self (n := q) (most := inn) (by omega) (by omega)
        go_wp2_with (go_at_call 31; refine (parts_any _ _ (by omega) (by omega) (by omega) (by omega) _).mono ?_; rintro e w' ⟨rfl, rfl⟩)
        go_roundg k
        case measure => have := HG.out; omega
        case rel => exact ⟨a + q, parts q inn, j, HJ.out, rfl, rfl, by omega, by omega, by omega, by omega, HE2, by have := HF.out; rw [HJ.out] at this; exact this, rfl⟩
end Go.Proofs.Ytgjphmlmndcaeaa
