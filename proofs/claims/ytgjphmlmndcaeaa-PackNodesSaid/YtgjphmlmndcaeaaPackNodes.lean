/- 'PackNodes' returns true for every configuration and every list of numbers; each argument reads behind the call as before it. No condition. -/
import Derived.Test.YtgjphmlmndcaeaaRows
import Derived.Test.YtgjphmlmndcaeaaNodesR
import Derived.ProofKit
import Derived.Test.YtgjphmlmndcaeaaAgg
import Derived.Below
import Derived.Carry
import Derived.Deep.RegionHeld3
import Derived.OpenShut
import Derived.ShutString
import Derived.ChangeOld
import Derived.Lib.SmallJoins
namespace Go.Proofs.Ytgjphmlmndcaeaa
open Go.RowKit

theorem lives_any (w : World) : Calls Try.prog 7 #[] w fun e w' => e = .returned (.bool true) ∧ Below w.heap.size w w' := by
  have hv : nodesOf 9 4 3 2 1 6 = (4, 0) := by decide
  have HV := Lib.hid hv
  clear hv
  go_enter Try.func7, Try.ntmps7
  go_wp2_with (go_at_call 8; refine (nodes_ok 9 4 3 2 1 6 _ (by decide) (by decide) (by decide)).mono ?_; rintro e w' ⟨rfl, hb⟩; rw [HV.out]; simp only [nodesV])
  go_ret
  exact ⟨rfl, hb⟩

theorem nodes_any (nd lf inn fl bl n : Int) (w : World) (hn2 : n ≤ 9223372036854775807) :
    Calls Try.prog 8 #[.agg #[.int .i64 nd, .int .i64 lf, .int .i64 inn, .int .i64 fl, .int .i64 bl], .int .i64 n] w fun e w' => e = .returned (nodesV (nodesOf nd lf inn fl bl n)) ∧ Below w.heap.size w w' := by
  by_cases h : ¬ cfgOk nd lf inn fl bl ∨ n < 0
  · have e : nodesOf nd lf inn fl bl n = (0, 1) := by rcases h with h | h; exact nodesOf_bad h; exact nodesOf_neg h
    rw [e]; exact nodes_bad _ _ _ _ _ _ _ h
  · exact nodes_ok _ _ _ _ _ _ _ (by by_cases hc : cfgOk nd lf inn fl bl; exact hc; exact absurd (.inl hc) h) (fun hn => h (.inr hn)) hn2
theorem rnodes_any (nd lf inn fl bl n : Int) (w : World) (hn2 : n ≤ 9223372036854775807) :
    Calls Try.prog 9 #[.agg #[.int .i64 nd, .int .i64 lf, .int .i64 inn, .int .i64 fl, .int .i64 bl], .int .i64 n] w fun e w' => e = .returned (nodesV (nodesOf nd lf inn fl bl n)) ∧ Below w.heap.size w w' := by
  by_cases h : ¬ cfgOk nd lf inn fl bl ∨ n < 0
  · have e : nodesOf nd lf inn fl bl n = (0, 1) := by rcases h with h | h; exact nodesOf_bad h; exact nodesOf_neg h
    rw [e]; exact rnodes_bad _ _ _ _ _ _ _ h
  · exact rnodes_ok _ _ _ _ _ _ _ (by by_cases hc : cfgOk nd lf inn fl bl; exact hc; exact absurd (.inl hc) h) (fun hn => h (.inr hn)) hn2

/-- A slice of integers that came in: it is nil; or it leads to a row of 'cap' cells, the numbers 'zs'. -/
def IsRow (k : IntKind) (w : World) (a : Option Addr) (len cap : Nat) (zs : List Int) : Prop :=
  (a = none ∧ len = 0 ∧ cap = 0 ∧ zs = []) ∨
  ∃ x, a = some x ∧ len ≤ cap ∧ cap ≤ maxLen ∧ zs.length = cap ∧ (∀ i, i < zs.length → w.cell? (x.add i) = some (.int k (zs.getD i 0))) ∧ ∀ n ∈ zs, (Lit.int k n).wf = true

theorem addr_add (b off k : Nat) : (Addr.mk b off none).add k = ⟨b, off + k, none⟩ := by
  unfold Addr.add; split
  · simp_all
  · rfl
theorem cell_lt {w : World} {b o : Nat} {v : Value} (h : w.cell? ⟨b, o, none⟩ = some v) : b < w.heap.size := by
  by_cases hlt : b < w.heap.size
  · exact hlt
  · simp [World.cell?, Array.getElem?_eq_none (show w.heap.size ≤ b by omega)] at h

theorem bkeep {w0 w1 : World} (hb : Below w0.heap.size w0 w1) {b o : Nat} {v : Value} (hv : w0.cell? ⟨b, o, none⟩ = some v) : w1.cell? ⟨b, o, none⟩ = some v :=
  bcell hb (cell_lt hv) hv

theorem row_at {w wr : World} {a : Option Addr} {len cap k : Nat} {zs : List Int} (h : IsRow .i64 w a len cap zs) (hlt : k < len) (hbl : Below w.heap.size w wr) :
    ∃ b off, a = some ⟨b, off, none⟩ ∧ b < w.heap.size ∧ ∃ n : Int, wr.cell? ⟨b, off + k, none⟩ = some (.int .i64 n) ∧ -9223372036854775808 ≤ n ∧ n ≤ 9223372036854775807 := by
  rcases h with ⟨_, h, _, _⟩ | ⟨x, hx, hl, hm, hzl, hc, hwf⟩
  · omega
  · obtain ⟨b, off, spot⟩ := x
    have h0 := hc k (by omega)
    have hc0 := hc 0 (by omega)
    have hspot : spot = none := by simpa [Addr.add] using World.cell?_spot hc0
    subst hspot
    have hw := hwf (zs.getD k 0) (by simp [List.getD, List.getElem?_eq_getElem (show k < zs.length by omega)])
    have hw2 : -9223372036854775808 ≤ zs.getD k 0 ∧ zs.getD k 0 ≤ 9223372036854775807 := by simpa [Lit.wf, IntKind.min, IntKind.max, IntKind.signed, IntKind.bits] using hw
    rw [addr_add] at h0
    exact ⟨b, off, hx, cell_lt h0, zs.getD k 0, bcell hbl (cell_lt h0) h0, hw2.1, hw2.2⟩

theorem s_keep {w w0 w1 : World} {b o : Nat} {v0 v1 v2 v3 v4 v5 : Value} (hb : Below w0.heap.size w0 w1)
    (h : Below w.heap.size w w0 ∧ w.heap.size + 1 ≤ w0.heap.size ∧ w0.cell? ⟨w.heap.size, 0, none⟩ = some v0 ∧ w0.cell? ⟨w.heap.size, 1, none⟩ = some v1 ∧ w0.cell? ⟨w.heap.size, 2, none⟩ = some v2 ∧ w0.cell? ⟨w.heap.size, 3, none⟩ = some v3 ∧ w0.cell? ⟨w.heap.size, 4, none⟩ = some v4 ∧ w0.cell? ⟨b, o, none⟩ = some v5) :
    Below w.heap.size w w1 ∧ w.heap.size + 1 ≤ w1.heap.size ∧ w1.cell? ⟨w.heap.size, 0, none⟩ = some v0 ∧ w1.cell? ⟨w.heap.size, 1, none⟩ = some v1 ∧ w1.cell? ⟨w.heap.size, 2, none⟩ = some v2 ∧ w1.cell? ⟨w.heap.size, 3, none⟩ = some v3 ∧ w1.cell? ⟨w.heap.size, 4, none⟩ = some v4 ∧ w1.cell? ⟨b, o, none⟩ = some v5 := by
  obtain ⟨h1, h2, c0, c1, c2, c3, c4, c5⟩ := h
  have hz := hb.size
  exact ⟨h1.trans (hb.mono (by omega)), by omega, bkeep hb c0, bkeep hb c1, bkeep hb c2, bkeep hb c3, bkeep hb c4, bkeep hb c5⟩

theorem law_any (nd lf inn fl bl : Int) (a : Option Addr) (len cap : Nat) (zs : List Int) (w : World) (hr : IsRow .i64 w a len cap zs) :
    Calls Try.prog 3 #[.agg #[.int .i64 nd, .int .i64 lf, .int .i64 inn, .int .i64 fl, .int .i64 bl], .slice a len cap] w fun e w' => e = .returned (.bool true) ∧ Below w.heap.size w w' := by
  have hm0 : len ≤ 9223372036854775807 := by
    rcases hr with ⟨_, h, _, _⟩ | ⟨_, _, h, h2, _⟩
    · omega
    · unfold maxLen at h2; omega
  have HR := Lib.hid hr
  clear hr
  go_enter Try.func3, Try.ntmps3
  go_wp2_with (go_at_call 7; refine (lives_any _).mono ?_; rintro e w' ⟨rfl, hb⟩)
  have b1 : Below w.heap.size w w' := ((Below.refl _ _).alloc (Nat.le_refl _) _).trans (hb.mono (by simp))
  have k0 : w'.cell? ⟨w.heap.size, 0, none⟩ = some (.int .i64 nd) := bcell hb (by simp) (by simp)
  have k1 : w'.cell? ⟨w.heap.size, 1, none⟩ = some (.int .i64 lf) := bcell hb (by simp) (by simp)
  have k2 : w'.cell? ⟨w.heap.size, 2, none⟩ = some (.int .i64 inn) := bcell hb (by simp) (by simp)
  have k3 : w'.cell? ⟨w.heap.size, 3, none⟩ = some (.int .i64 fl) := bcell hb (by simp) (by simp)
  have k4 : w'.cell? ⟨w.heap.size, 4, none⟩ = some (.int .i64 bl) := bcell hb (by simp) (by simp)
  have z1 : w.heap.size + 1 ≤ w'.heap.size := by have := hb.size; simpa using this
  go_loopw [6] (fun i wr => ∃ k : Nat, k ≤ len ∧ i = .int .i64 k ∧ Below w.heap.size w wr ∧ w.heap.size + 1 ≤ wr.heap.size ∧ wr.cell? ⟨w.heap.size, 0, none⟩ = some (.int .i64 nd) ∧ wr.cell? ⟨w.heap.size, 1, none⟩ = some (.int .i64 lf) ∧ wr.cell? ⟨w.heap.size, 2, none⟩ = some (.int .i64 inn) ∧ wr.cell? ⟨w.heap.size, 3, none⟩ = some (.int .i64 fl) ∧ wr.cell? ⟨w.heap.size, 4, none⟩ = some (.int .i64 bl))
    (fun i _ => len - (intOf i).toNat)
  case atStart => exact ⟨0, by omega, rfl, b1, z1, k0, k1, k2, k3, k4⟩
  case round =>
    clear hb k0 k1 k2 k3 k4 b1
    obtain ⟨k, hk, rfl, hbl, hz, k0, k1, k2, k3, k4⟩ := hrel
    by_cases hlt : k < len
    · obtain ⟨b, off, hx, hbw, n, hn, hn1, hn2⟩ := row_at HR.out hlt hbl
      subst hx
      go_wp2_with fail
      go_region_held3 (fun w' => Below w.heap.size w w' ∧ w.heap.size + 1 ≤ w'.heap.size ∧ w'.cell? ⟨w.heap.size, 0, none⟩ = some (.int .i64 nd) ∧ w'.cell? ⟨w.heap.size, 1, none⟩ = some (.int .i64 lf) ∧ w'.cell? ⟨w.heap.size, 2, none⟩ = some (.int .i64 inn) ∧ w'.cell? ⟨w.heap.size, 3, none⟩ = some (.int .i64 fl) ∧ w'.cell? ⟨w.heap.size, 4, none⟩ = some (.int .i64 bl) ∧ w'.cell? ⟨b, off + k, none⟩ = some (.int .i64 n))
        (first | exact s_keep hb1 (by assumption) | exact ⟨hbl, hz, k0, k1, k2, k3, k4, hn⟩ | exact ⟨below_drewN hbl 1, hz, k0, k1, k2, k3, k4, hn⟩) (first | (go_at_call 8; refine (nodes_any _ _ _ _ _ _ _ (by omega)).mono ?_; rintro e w1 ⟨rfl, hb1⟩; simp only [nodesV]))
      have hS : Below w.heap.size w w1 ∧ w.heap.size + 1 ≤ w1.heap.size ∧ w1.cell? ⟨w.heap.size, 0, none⟩ = some (.int .i64 nd) ∧ w1.cell? ⟨w.heap.size, 1, none⟩ = some (.int .i64 lf) ∧ w1.cell? ⟨w.heap.size, 2, none⟩ = some (.int .i64 inn) ∧ w1.cell? ⟨w.heap.size, 3, none⟩ = some (.int .i64 fl) ∧ w1.cell? ⟨w.heap.size, 4, none⟩ = some (.int .i64 bl) ∧ w1.cell? ⟨b, off + k, none⟩ = some (.int .i64 n) := by assumption
      clear hbl hz k0 k1 k2 k3 k4 hn hb1
      obtain ⟨hbl, hz, k0, k1, k2, k3, k4, hn⟩ := hS
      go_wp2_with fail
      go_region_held3 (fun w' => Below w.heap.size w w' ∧ w.heap.size + 1 ≤ w'.heap.size ∧ w'.cell? ⟨w.heap.size, 0, none⟩ = some (.int .i64 nd) ∧ w'.cell? ⟨w.heap.size, 1, none⟩ = some (.int .i64 lf) ∧ w'.cell? ⟨w.heap.size, 2, none⟩ = some (.int .i64 inn) ∧ w'.cell? ⟨w.heap.size, 3, none⟩ = some (.int .i64 fl) ∧ w'.cell? ⟨w.heap.size, 4, none⟩ = some (.int .i64 bl) ∧ w'.cell? ⟨b, off + k, none⟩ = some (.int .i64 n))
        (first | exact s_keep hb2 (by assumption) | exact ⟨hbl, hz, k0, k1, k2, k3, k4, hn⟩ | exact ⟨below_drewN hbl 1, hz, k0, k1, k2, k3, k4, hn⟩) (first | (go_at_call 9; refine (rnodes_any _ _ _ _ _ _ _ (by omega)).mono ?_; rintro e w2 ⟨rfl, hb2⟩; simp only [nodesV]))
      have hS : Below w.heap.size w w2 ∧ w.heap.size + 1 ≤ w2.heap.size ∧ w2.cell? ⟨w.heap.size, 0, none⟩ = some (.int .i64 nd) ∧ w2.cell? ⟨w.heap.size, 1, none⟩ = some (.int .i64 lf) ∧ w2.cell? ⟨w.heap.size, 2, none⟩ = some (.int .i64 inn) ∧ w2.cell? ⟨w.heap.size, 3, none⟩ = some (.int .i64 fl) ∧ w2.cell? ⟨w.heap.size, 4, none⟩ = some (.int .i64 bl) ∧ w2.cell? ⟨b, off + k, none⟩ = some (.int .i64 n) := by assumption
      clear hbl hz k0 k1 k2 k3 k4 hn hb2
      obtain ⟨hbl, hz, k0, k1, k2, k3, k4, hn⟩ := hS
      go_wp2
      go_roundw
      case rel => exact ⟨k + 1, by omega, by go_num, hbl, hz, k0, k1, k2, k3, k4⟩
      case measure => simp [intOf]; omega
    · go_wp2
      go_ret
      exact ⟨rfl, hbl⟩

namespace lawPackNodes
open Go.ChangeShapes Go.WideShapes Go.ChangeAt Go.RowKit
open Go.ChangeMaps (open_string shut_string)
set_option linter.unusedVariables false

theorem own : ownKnob Try.prog.godebug = none := by kernel_rfl
theorem laidOut : laidOutB Try.prog = true := by kernel_rfl
theorem cells23 : Try.prog.cellsOf 23 = 5 := by kernel_rfl

set_option maxRecDepth 100000 in
theorem lifted (os : Os) (started : os.Started) (H : Type) (enc : TypeId × Value → H) :
    ReturnsInHanded {} Try.checked os 3 .any (Rows.packNodesSpec.pre6 enc Try.prog Try.f3 Rows.packNodesRow.domain false) (Rows.packNodesSpec.post enc Try.prog Try.f3 false true false false) := by
  refine returnsInHanded_of_change (C := Try.checked) own started (by kernel_rfl) Try.func3
    (ChangeSpec.witness6 (enc := enc) (C := Try.checked) false ⟨#[], #[.agg #[.int .i64 0, .int .i64 0, .int .i64 0, .int .i64 0, .int .i64 0], .slice none 0 0], []⟩ 8 (by kernel_rfl) (by kernel_rfl) (by kernel_rfl) (by kernel_rfl)) ?_
  intro W base args ds gs before hval0 hW hcnd _
  have hval : ∀ (j : Nat) t v, Try.f3.params[j]? = some t → args[j]? = some v → Value.okWide Try.prog W .any base t v := hval0
  have hW' := hW
  obtain ⟨p, q, hA0, hV, rfl, hfz, hnd⟩ := hW
  have hA : DataW.TrodAll enc Try.prog W 0 (fun _ => true) true Try.f3.params.toList args.toList ds p := hA0
  rw [Try.params3] at hA hval
  obtain ⟨v0, vs0, d0, ds0, p0, q0, hargs, rfl, rfl, h0, r0⟩ := trodAll_cons hA
  obtain ⟨v1, vs1, d1, ds1, p1, q1, rfl, rfl, rfl, h1, r1⟩ := trodAll_cons r0
  obtain ⟨rfl, rfl, rfl⟩ := trodAll_nil r1
  obtain rfl : args = #[v0, v1] := by cases args; simp_all
  obtain ⟨rfl, rfl⟩ := trodVars_none hV
  have k0 := h0
  have k1 := h1
  have lt0 : ∀ x ∈ p0, x.block < W.heap.size := by obtain ⟨m, hm⟩ := k0; exact DataW.trod_lt m _ _ _ hm
  have lt1 : ∀ x ∈ p1, x.block < W.heap.size := by obtain ⟨m, hm⟩ := k1; exact DataW.trod_lt m _ _ _ hm
  obtain ⟨c0, c1, c2, c3, c4, y0, y1, y2, y3, y4, n, rfl, _, _, t0, t1, t2, t3, t4⟩ := open_agg5 Try.underlying23 (by kernel_rfl) cells23 (hval 0 23 v0 rfl rfl) h0
  obtain ⟨i0, e0, _, _⟩ := DataW.trod_int Try.underlying3 t0
  obtain ⟨i1, e1, _, _⟩ := DataW.trod_int Try.underlying3 t1
  obtain ⟨i2, e2, _, _⟩ := DataW.trod_int Try.underlying3 t2
  obtain ⟨i3, e3, _, _⟩ := DataW.trod_int Try.underlying3 t3
  obtain ⟨i4, e4, _, _⟩ := DataW.trod_int Try.underlying3 t4
  simp only [List.cons.injEq, and_true] at e0 e1 e2 e3 e4
  subst e0 e1 e2 e3 e4
  obtain ⟨a0, len0, cap0, rfl⟩ := okWide_slice Try.underlying24 (hval 1 24 v1 rfl rfl)
  obtain ⟨z0, w0⟩ : ∃ zs, IsRow .i64 W a0 len0 cap0 zs := by
    obtain ⟨fuel, hf⟩ := h1
    rcases open_ints Try.underlying24 Try.underlying3 (by kernel_rfl) hf with ⟨hcs, _⟩ | ⟨x, l, c, zs, hcs, _, hl, hm, hz, _, hcell, hwz⟩
    · simp [Value.cells] at hcs
      obtain ⟨rfl, rfl, rfl⟩ := hcs
      exact ⟨[], .inl ⟨rfl, rfl, rfl, rfl⟩⟩
    · simp [Value.cells] at hcs
      obtain ⟨rfl, rfl, rfl⟩ := hcs
      exact ⟨zs, .inr ⟨_, rfl, hl, hm, by simpa using hz, hcell, hwz⟩⟩
  clear hA0 hval0
  refine (law_any i0 i1 i2 i3 i4 a0 len0 cap0 z0 W w0).mono fun e W' ⟨he, bel⟩ => ?_
  subst he
  exact ⟨_, rfl, _, _, _, [], _, [], hW', trodAll_mk1 (shut_bool Try.underlying4 _), (trodAll_cons_mk (Below.trod laidOut (by kernel_rfl) (of_decide_eq_true (by kernel_rfl)) k0 bel lt0) (trodAll_cons_mk (Below.trod laidOut (by kernel_rfl) (of_decide_eq_true (by kernel_rfl)) k1 bel lt1) trodAll_mk0)), rfl, bel.frame _, fun h => by cases h⟩

theorem over : Rows.packNodesRow.holds Try.pinned (OpenSpec.ofChange Rows.packNodesSpec) :=
  OpenClaim.holds_of_wide 3 Try.f3 rfl rfl rfl rfl rfl rfl rfl ⟨rfl, rfl, rfl, rfl, rfl⟩ rfl rfl rfl rfl rfl (by kernel_rfl) Try.func3 (by kernel_rfl)
    (of_decide_eq_true (by kernel_rfl)) (by unfold Func.isWrapper; rw [if_neg (of_decide_eq_false (by kernel_rfl))]; exact ⟨rfl, rfl⟩)
    (fun os started H enc _ => lifted os started H enc)

theorem proved : Rows.PackNodesSaid := over
end lawPackNodes
end Go.Proofs.Ytgjphmlmndcaeaa
