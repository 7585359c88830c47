/- 'OrderChecks' returns true for every history; the argument reads behind the call as before it. Condition: what comes in is of bulk at most 1048576. -/
import Derived.Test.YtpbnngfiinihmaaRows
import Derived.Test.YtpbnngfiinihmaaOa16
import Derived.Test.YtpbnngfiinihmaaOa17
import Derived.ProofKit
import Derived.Below
import Derived.Carry
import Derived.OpenShut
import Derived.ShutString
import Derived.ChangeOld
import Derived.Lib.SmallJoins
import Derived.JoinedCond
namespace Go.Proofs.Ytpbnngfiinihmaa
namespace lawOrderChecks
open Go.ChangeShapes Go.WideShapes Go.ChangeAt Go.RowKit
set_option linter.unusedVariables false

theorem own : ownKnob Try.prog.godebug = none := by kernel_rfl
theorem laidOut : laidOutB Try.prog = true := by kernel_rfl

set_option maxRecDepth 100000 in
theorem contract (H : Type) (enc : TypeId × Value → H) (W : World) (base : Nat) (args : Array Value) (ds gs : List (DataW H)) (before : List MemPlace)
    (hval0 : ∀ (j : Nat) t v, Try.f4.params[j]? = some t → args[j]? = some v → Value.okWide Try.prog W .any base t v)
    (hW : DataW.Whole enc Try.prog Try.f4.params.toList Rows.orderChecksSpec.vars false W args.toList ds gs before) (hk : Rows.uptoSmall H (ds ++ gs) = true) :
    Calls Try.prog 4 args W fun e W' => ∃ v, e = .returned v ∧ Rows.orderChecksSpec.post enc Try.prog Try.f4 false true false false W args v W' := by
  have hval : ∀ (j : Nat) t v, Try.f4.params[j]? = some t → args[j]? = some v → Value.okWide Try.prog W .any base t v := hval0
  have hW' := hW
  obtain ⟨p, q, hA0, hV, rfl, hfz, hnd⟩ := hW
  have hA : DataW.TrodAll enc Try.prog W 0 (fun _ => true) true Try.f4.params.toList args.toList ds p := hA0
  rw [Try.params4] at hA hval
  obtain ⟨v0, vs0, d0, ds0, p0, q0, hargs, rfl, rfl, h0, r0⟩ := trodAll_cons hA
  obtain ⟨rfl, rfl, rfl⟩ := trodAll_nil r0
  obtain rfl : args = #[v0] := by cases args; simp_all
  obtain ⟨rfl, rfl⟩ := trodVars_none hV
  have k0 := h0
  have lt0 : ∀ x ∈ p0, x.block < W.heap.size := by obtain ⟨m, hm⟩ := k0; exact DataW.trod_lt m _ _ _ hm
  have hbk : Rows.uptoBulk d0 ≤ 1048576 := by
    have h : Rows.uptoBulkAll ([d0] ++ ([] : List (DataW H))) ≤ 1048576 := of_decide_eq_true hk
    simp only [List.append_nil, Rows.uptoBulkAll] at h
    omega
  obtain ⟨c0, c1, c2, c3, c4, c5, y0, y1, y2, y3, y4, y5, n, rfl, hd, _, t0, t1, t2, t3, t4, t5⟩ := open_agg6 Try.underlying29 (by kernel_rfl) (by kernel_rfl) (hval 0 29 v0 rfl rfl) h0
  have hbs : Rows.uptoBulk y0.1 ≤ 1048576 ∧ Rows.uptoBulk y1.1 ≤ 1048576 ∧ Rows.uptoBulk y4.1 ≤ 1048576 := by
    rw [hd] at hbk
    simp only [Rows.uptoBulk, Rows.uptoBulkAll] at hbk
    omega
  obtain ⟨sA, sn, sc, rfl⟩ := slice_of_trod Try.underlying27 t0
  obtain ⟨cA, cn, cc, rfl⟩ := slice_of_trod Try.underlying22 t1
  obtain ⟨st, rfl⟩ := int_of_trod Try.underlying3 t2
  obtain ⟨dn, rfl⟩ := bool_of_trod t3
  obtain ⟨eA, en, ec, rfl⟩ := slice_of_trod Try.underlying27 t4
  obtain ⟨hA', hn, hc, rfl⟩ := slice_of_trod Try.underlying24 t5
  obtain ⟨start, hS, _, _, hsn, hss⟩ := ents_of_trod t0 hbs.1
  obtain ⟨l, hL, hcc, hcn, hks⟩ := calls_of_trod t1 hbs.2.1
  obtain ⟨endl, hE, _, _, hen, _⟩ := ents_of_trod t4 hbs.2.2
  clear hA0 hval0
  refine (checks_all sA cA eA hA' sn sc cn cc en ec hn hc st dn start endl l W hS hL hE hsn hcn hen hcc hss hks).mono fun e W' ⟨he, bel⟩ => ?_
  subst he
  exact ⟨_, rfl, _, _, _, [], _, [], hW', trodAll_mk1 (shut_bool Try.underlying4 _), (trodAll_cons_mk (Below.trod laidOut (by kernel_rfl) (of_decide_eq_true (by kernel_rfl)) k0 bel lt0) trodAll_mk0), rfl, bel.frame _, fun h => by cases h⟩

set_option maxRecDepth 100000 in
theorem lifted (os : Os) (started : os.Started) (H : Type) (enc : TypeId × Value → H) (F : Stop.Interp) :
    ReturnsInHanded {} Try.checked os 4 .any ((Rows.OpenSpec.upto Rows.orderChecksSpec).pre6 enc Try.prog Try.f4 Rows.orderChecksUptoRow.domain false) (((Rows.OpenSpec.upto Rows.orderChecksSpec).at F).post enc Try.prog Try.f4 false true false false) := by
  refine returnsInHanded_of_cond (C := Try.checked) (s := Rows.OpenSpec.upto Rows.orderChecksSpec) (k := Rows.uptoSmall) rfl own started (by kernel_rfl) Try.func4
    (OpenSpec.witness (enc := enc) (C := Try.checked) (s := Rows.OpenSpec.upto Rows.orderChecksSpec) (k := Rows.uptoSmall) rfl false ⟨#[], #[.agg #[.slice none 0 0, .slice none 0 0, .int .i64 0, .bool false, .slice none 0 0, .slice none 0 0]], []⟩ 8 (by kernel_rfl) (by kernel_rfl) (by kernel_rfl)
      (x := ([.agg [.nil, .nil, .lit (.int .i64 0), .lit (.bool false), .nil, .nil]], [], [])) (by kernel_rfl) rfl (by kernel_rfl)) ?_
  intro W base args ds gs before hval hW _ hk _
  exact contract H enc W base args ds gs before hval hW hk

theorem proved : Rows.OrderChecksUptoSaid :=
  OpenClaim.holds_of_cond 4 Try.f4 rfl rfl rfl rfl rfl rfl rfl ⟨rfl, rfl, rfl, rfl, rfl⟩ rfl rfl rfl rfl rfl (by kernel_rfl) Try.func4 (by kernel_rfl)
    (of_decide_eq_true (by kernel_rfl)) (by unfold Func.isWrapper; rw [if_neg (of_decide_eq_false (by kernel_rfl))]; exact ⟨rfl, rfl⟩)
    (fun os started H enc _ F => lifted os started H enc F)
end lawOrderChecks
end Go.Proofs.Ytpbnngfiinihmaa
