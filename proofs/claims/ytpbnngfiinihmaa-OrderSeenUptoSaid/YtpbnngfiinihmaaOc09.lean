/- A whole call loaded, and laid into a new variable, at one stroke. WALKS: the document's maps: coppiceref20.Map, good, Counts, does. WALKS: coppiceref20.answer. WALKS: order.of, order.table.does, order.right. -/
import Derived.Test.YtpbnngfiinihmaaOc02
import Derived.Test.YtpbnngfiinihmaaChecked
import Derived.Deep.MidRow
import Derived.Deep.WholeRow
import Derived.Test.YtpbnngfiinihmaaOc08
import Derived.Test.YtpbnngfiinihmaaOc07
set_option linter.unusedVariables false
set_option linter.unusedSimpArgs false
namespace Go.Proofs.Ytpbnngfiinihmaa
open Go.RowKit
theorem call_size : (Try.prog.info? 48).map (·.size) = some 17 := by kernel_rfl
theorem op_size : (Try.prog.info? 46).map (·.size) = some 7 := by kernel_rfl
section
variable {ops : Array Oper} {rest : List Oper} {op : Oper} {a : Act} {w : World} {Q : Exit → Act → World → Prop} {c : CallD} {y : CallX} {b o : Nat}
theorem CallAt.range (h : CallAt w b o c y) : w.rangeAt b o (callCs c y).toList := by
  intro j v hj
  have hlt : j < 17 := (List.getElem?_eq_some_iff.1 hj).1
  obtain ⟨c0, c1, c2, c3, c4, c5, c6, c7, c8, c9, c10, c11, c12, c13, c14, c15, c16⟩ := h
  match j, hlt with
  | 0, _ => injection hj with hj; subst hj; exact c0
  | 1, _ => injection hj with hj; subst hj; exact c1
  | 2, _ => injection hj with hj; subst hj; exact c2
  | 3, _ => injection hj with hj; subst hj; exact c3
  | 4, _ => injection hj with hj; subst hj; exact c4
  | 5, _ => injection hj with hj; subst hj; exact c5
  | 6, _ => injection hj with hj; subst hj; exact c6
  | 7, _ => injection hj with hj; subst hj; exact c7
  | 8, _ => injection hj with hj; subst hj; exact c8
  | 9, _ => injection hj with hj; subst hj; exact c9
  | 10, _ => injection hj with hj; subst hj; exact c10
  | 11, _ => injection hj with hj; subst hj; exact c11
  | 12, _ => injection hj with hj; subst hj; exact c12
  | 13, _ => injection hj with hj; subst hj; exact c13
  | 14, _ => injection hj with hj; subst hj; exact c14
  | 15, _ => injection hj with hj; subst hj; exact c15
  | 16, _ => injection hj with hj; subst hj; exact c16
theorem wpList_load_call (hgd : op.guard = none) (x : Operand) (ho : op.op = .load 48 x) (hx : a.eval x = .pointer (some ⟨b, o, none⟩)) (hc : CallAt w b o c y)
    (h : wpList Try.prog ops Q rest (a.put op.dst (callV c y)) w) : wpList Try.prog ops Q (op :: rest) a w :=
  wpList_load_mid hgd 48 x ho b o hx (callCs c y).toList _ hc.range Try.underlying48 rfl call_size h
theorem op_range (hc : CallAt w b o c y) : w.rangeAt b (o + 2) [.int .i64 c.kd, .slice y.kA y.kn y.kc, .slice y.vA y.vn y.vc, .slice y.hA y.hn y.hc, .int .i64 y.mo, .slice y.tA y.tn y.tc, .int .i64 y.fa] := by
  intro j v hj
  have hlt : j < 7 := (List.getElem?_eq_some_iff.1 hj).1
  obtain ⟨c0, c1, c2, c3, c4, c5, c6, c7, c8, c9, c10, c11, c12, c13, c14, c15, c16⟩ := hc
  match j, hlt with
  | 0, _ => injection hj with hj; subst hj; exact c2
  | 1, _ => injection hj with hj; subst hj; exact c3
  | 2, _ => injection hj with hj; subst hj; exact c4
  | 3, _ => injection hj with hj; subst hj; exact c5
  | 4, _ => injection hj with hj; subst hj; exact c6
  | 5, _ => injection hj with hj; subst hj; exact c7
  | 6, _ => injection hj with hj; subst hj; exact c8
theorem wpList_load_op (hgd : op.guard = none) (x : Operand) (ho : op.op = .load 46 x) (hx : a.eval x = .pointer (some ⟨b, o + 2, none⟩)) (hc : CallAt w b o c y)
    (h : wpList Try.prog ops Q rest (a.put op.dst (opV c y)) w) : wpList Try.prog ops Q (op :: rest) a w :=
  wpList_load_mid hgd 46 x ho b (o + 2) hx [.int .i64 c.kd, .slice y.kA y.kn y.kc, .slice y.vA y.vn y.vc, .slice y.hA y.hn y.hc, .int .i64 y.mo, .slice y.tA y.tn y.tc, .int .i64 y.fa] _ (op_range hc) Try.underlying46 rfl op_size h
/-- under a guard that is met -/
theorem wpList_load_opw (hw : Region.wanted op (yielded ops a.tmps) = true) (x : Operand) (ho : op.op = .load 46 x) (hx : a.eval x = .pointer (some ⟨b, o + 2, none⟩)) (hc : CallAt w b o c y)
    (h : wpList Try.prog ops Q rest (a.put op.dst (opV c y)) w) : wpList Try.prog ops Q (op :: rest) a w := by
  refine wpList_step fun K hK => ?_
  rw [if_pos hw]
  exact wp_load_mid 46 x ho b (o + 2) hx [.int .i64 c.kd, .slice y.kA y.kn y.kc, .slice y.vA y.vn y.vc, .slice y.hA y.hn y.hc, .int .i64 y.mo, .slice y.tA y.tn y.tc, .int .i64 y.fa] _ (op_range hc) Try.underlying46 rfl op_size (hK _ _ h)
theorem wpList_load_callw (hw : Region.wanted op (yielded ops a.tmps) = true) (x : Operand) (ho : op.op = .load 48 x) (hx : a.eval x = .pointer (some ⟨b, o, none⟩)) (hc : CallAt w b o c y)
    (h : wpList Try.prog ops Q rest (a.put op.dst (callV c y)) w) : wpList Try.prog ops Q (op :: rest) a w := by
  refine wpList_step fun K hK => ?_
  rw [if_pos hw]
  exact wp_load_mid 48 x ho b o hx (callCs c y).toList _ hc.range Try.underlying48 rfl call_size (hK _ _ h)
theorem wpList_store_call (cs : Array Value) (hgd : op.guard = none) (x z : Operand) (ho : op.op = .store 48 x z) (hx : a.eval x = .pointer (some ⟨w.heap.size, 0, none⟩)) (hz : a.eval z = callV c y) (hcs : cs.size = 17)
    (h : wpList Try.prog ops Q rest (a.put op.dst undef) (w.alloc (.cells (callCs c y) 48))) : wpList Try.prog ops Q (op :: rest) a (w.alloc (.cells cs 48)) := by
  refine wpList_plain hgd fun K hK => ?_
  unfold Oper.wp execOp
  have hrun : (storeVar 48 ⟨w.heap.size, 0, none⟩ (.agg (callCs c y))).run Try.prog (w.alloc (.cells cs 48)) = .ok () (w.alloc (.cells (callCs c y) 48)) :=
    run_storeVar_new w _ cs _ call_size hcs (by simp [Value.oneCell'])
  simp only [ho, hx, hz, callV, Instr.storeAt, Instr.sureAddr, Sem.run_bind, Sem.run_pure, Result.andThen_ok, hrun]
  exact hK _ _ h
theorem step_store_call {K : Act → World → Prop} {E : Prop} (g : Nat) (cs : Array Value) (hgd : op.guard = none) (x z : Operand) (ho : op.op = .store 48 x z) (hx : a.eval x = .pointer (some ⟨g, 0, none⟩)) (hz : a.eval z = callV c y)
    (hB : Blk w g 48 cs) (hcs : cs.size = 17)
    (h : ∀ w', Blk w' g 48 (callCs c y) → Chg (One g) w w' → K (a.put op.dst undef) w') : if Region.wanted op (yielded ops a.tmps) = true then Oper.wp Try.prog op a w K Q else E := by
  have hw : Region.wanted op (yielded ops a.tmps) = true := by simp [Region.wanted, hgd]
  rw [if_pos hw]
  unfold Oper.wp execOp
  have hrun : (storeVar 48 ⟨g, 0, none⟩ (.agg (callCs c y))).run Try.prog w = .ok () (w.setRow g (callCs c y)) :=
    run_storeVar_row w g _ _ cs (callCs c y) hB call_size hcs (by simp [Value.oneCell'])
  simp only [ho, hx, hz, callV, Instr.storeAt, Instr.sureAddr, Sem.run_bind, Sem.run_pure, Result.andThen_ok, hrun]
  refine h _ ?_ ⟨rfl, rfl, rfl, by simp [World.setRow], fun k hk hs => ?_⟩
  · unfold Blk at *
    simp [World.setRow, Array.getElem?_modify, hB]
  · have : ¬ g = k := fun e => hs e.symm
    simp [World.setRow, Array.getElem?_modify, this]
theorem yields_load_call {S : World → Prop} (hgd : op.guard = none) (x : Operand) (ho : op.op = .load 48 x) (hx : a.eval x = .pointer (some ⟨b, o, none⟩)) (hS : ∀ w, S w → CallAt w b o c y) :
    YieldsIf Try.prog ops S op (callV c y) a :=
  yieldsIf_load_mid (by simp [Region.wanted, hgd]) 48 x ho b o hx (callCs c y).toList _ (fun w h => (hS w h).range) Try.underlying48 rfl call_size
end
end Go.Proofs.Ytpbnngfiinihmaa

namespace Go.Proofs.Ytpbnngfiinihmaa
open Go.RowKit
open Go.Lib (compareBytes)
set_option maxRecDepth 100000 in
set_option maxHeartbeats 4000000 in
theorem rmap_any (A : Option Addr) (n c : Nat) (l : List Ent) (w : World) (h : Ents w Any A n l) (hn : n ≤ 1048576) (hs : Short 1152921504606 l) :
    Calls Try.prog 29 #[.slice A n c] w (NewEnts w (mapE l)) := by
  have HE := Lib.hid h
  have HN := Lib.hid h.len
  have HS := Lib.hid hs
  clear h hs
  go_enter Try.func29, Try.ntmps29
  go_wp2
  go_loopg [4, 3] n (fun g' iv v wz => ∃ (i mn mc : Nat) (mA : Option Addr), g' = n - i ∧ i ≤ n ∧ iv = .int .i64 i ∧ v = .slice mA mn mc ∧ Ents wz Any mA mn (mapE (l.take i)) ∧ Below w.heap.size w wz)
  case atStart => exact ⟨0, 0, 0, none, by omega, by omega, rfl, rfl, Ents.nil _ _ _, Below.refl _ _⟩
  case round =>
    obtain ⟨i, mn, mc, mA, hg, hi, rfl, rfl, hm, hb⟩ := hrel
    have HG := Lib.hid hg
    have HM := Lib.hid hm
    have HB := Lib.hid hb
    have hml : mn ≤ n := by
      have h1 := hm.len
      have h2 := mapE_len (l.take i)
      rw [List.length_take] at h2
      omega
    clear hg hm hb
    by_cases hlt : i < n
    · obtain ⟨b, o, Ak, nk, ck, Av, nv, cv, key, val, rfl, hmi, c1', c2', s1, s2⟩ := rd_text HE.out hlt
      have c1 := bkeep HB.out c1'
      have c2 := bkeep HB.out c2'
      have HST := Lib.hid (mapE_take hmi)
      have HKL : Hid (key.length ≤ 1152921504606) := Lib.hid (HS.out _ (List.mem_of_getElem? hmi)).1
      have HSH : Hid (Short 1152921504606 (mapE (l.take i))) := Lib.hid (fun e he => HS.out e (mapE_sub l i e he))
      have K1 := Lib.hid (s1.below HB.out)
      have K2 := Lib.hid (s2.below HB.out)
      clear s1 s2 hmi c1' c2'
      go_wp2_with (go_at_call 50; go_loud (refine (rput_any mA Ak Av mn mc nk ck nv cv _ (key, val) wr HM.out (mapE_up _) HSH.out (by omega) K1.out K2.out HKL.out).mono ?_); rintro e w1 ⟨A2, n2, d2, rfl, he2, hb2⟩; have HE2 := Lib.hid he2; have HB2 := Lib.hid (HB.out.trans (hb2.mono HB.out.size)); clear he2 hb2)
      go_roundg (n - (i + 1))
      case measure => have := HG.out; omega
      case rel => exact ⟨i + 1, n2, d2, A2, rfl, by omega, by go_num, rfl, by rw [HST.out]; exact HE2.out, HB2.out⟩
    · have hin : i = n := by omega
      subst hin
      go_wp2
      go_ret
      have hd : l.take i = l := List.take_of_length_le (by have := HN.out; omega)
      have h1 := HM.out
      rw [hd] at h1
      exact ⟨mA, mn, mc, rfl, h1, HB.out⟩
set_option maxRecDepth 100000 in
theorem rgood_any (F : Nat → Prop) (c : CallD) (x : CallX) (w : World) (h : CallW w F c x) : Calls Try.prog 51 #[opV c x] w fun e w' => e = .returned (.bool (decide (goodE c))) ∧ Below w.heap.size w w' := by
  have hk := Lib.hid h.kq
  have hv := Lib.hid h.vq
  clear h
  obtain ⟨kb, hkb⟩ : ∃ kb, kb = decide (keyN x.kn) := ⟨_, rfl⟩
  have HKB := Lib.hid hkb
  clear hkb
  go_enter Try.func51, Try.ntmps51
  go_wp2_with (first | (go_at_call 62; refine (rkey_any _ _ _ _).mono ?_; rintro e w1 ⟨rfl, rfl⟩; rw [← HKB.out]) | (go_at_call 63; refine (rvalue_any _ _ _ _).mono ?_; rintro e w1 ⟨rfl, rfl⟩))
  all_goals (go_ret; refine ⟨ret_bool ?_, (Below.refl _ _).alloc (Nat.le_refl _) _⟩; have h1 := hk.out; have h2 := hv.out; have h3 := HKB.out; simp only [goodE, ← h1, ← h2]; subst h3; (try simp only [decide_eq_true_eq, decide_eq_false_iff_not] at *); simp [keyN] at *; omega)
set_option maxRecDepth 100000 in
set_option maxHeartbeats 4000000 in
theorem counts_any (F : Nat → Prop) (c : CallD) (x : CallX) (w : World) (h : CallW w F c x) : Calls Try.prog 52 #[callV c x] w fun e w' => e = .returned (.bool (decide (countsE c))) ∧ Below w.heap.size w w' := by
  have HW := Lib.hid h
  clear h
  obtain ⟨gb, hgb⟩ : ∃ gb, gb = decide (goodE c) := ⟨_, rfl⟩
  have HGB := Lib.hid hgb
  clear hgb
  go_enter Try.func52, Try.ntmps52
  go_upto_region 1 with fail
  obtain ⟨w1, hw1⟩ : ∃ W, W = w.alloc (.cells (callCs c x) 48) := ⟨_, rfl⟩
  rw [← hw1]
  have HB : Hid (Below w.heap.size w w1) := Lib.hid (by rw [hw1]; exact (Below.refl _ _).alloc (Nat.le_refl _) _)
  have HK : Hid (Blk w1 w.heap.size 48 (callCs c x)) := Lib.hid (by rw [hw1]; exact Blk.new _ _ _)
  have HAT := Lib.hid (CallAt.of_blk HK.out)
  have HW1 := Lib.hid (HW.out.below HB.out)
  clear hw1
  go_upto_region 2 with (first | (refine wpList_load_op rfl (.tmp 4) rfl rfl HAT.out ?_) | (go_at_call 51; go_loud (refine (rgood_any F c x w1 HW1.out).mono ?_); rintro e w2 ⟨rfl, hb2⟩; rw [← HGB.out]; have HB2 := Lib.hid hb2; clear hb2))
  have HK2 := Lib.hid (HK.out.below HB2.out)
  have z2 : w2.cell? ⟨w.heap.size, 2, none⟩ = some (.int .i64 c.kd) := HK2.out.cell 2
  have z11 : w2.cell? ⟨w.heap.size, 11, none⟩ = some (.int .i64 c.pt) := HK2.out.cell 11
  have z13 : w2.cell? ⟨w.heap.size, 13, none⟩ = some (.int .i64 c.er) := HK2.out.cell 13
  have HB3 := Lib.hid (HB.out.trans (HB2.out.mono HB.out.size))
  go_wp2
  all_goals (go_ret; refine ⟨ret_bool ?_, HB3.out⟩; have h3 := HGB.out; simp only [countsE]; clear z2 z11 z13; by_cases hg : goodE c <;> simp [hg] at h3 ⊢ <;> subst h3 <;> simp_all <;> omega)
theorem CallW.key {w : World} {F : Nat → Prop} {c : CallD} {x : CallX} (h : CallW w F c x) : SB w Any (.slice x.kA x.kn x.kc) c.key := SB.mk h.kk h.kl h.kq (h.kr.weak (fun _ _ => trivial))
theorem CallW.val_ {w : World} {F : Nat → Prop} {c : CallD} {x : CallX} (h : CallW w F c x) : SB w Any (.slice x.vA x.vn x.vc) c.val := SB.mk h.vk h.vl h.vq (h.vr.weak (fun _ _ => trivial))
theorem CallW.ans_ {w : World} {F : Nat → Prop} {c : CallD} {x : CallX} (h : CallW w F c x) : SB w Any (.slice x.aA x.an x.ac) c.ans := SB.mk h.ak h.al h.aq (h.ar.weak (fun _ _ => trivial))
set_option maxRecDepth 100000 in
set_option maxHeartbeats 4000000 in
theorem rdoes_any (F : Nat → Prop) (A : Option Addr) (n d : Nat) (m : List Ent) (c : CallD) (x : CallX) (w : World) (h : CallW w F c x) (hm : Ents w Any A n m) (hu : Up m) (hs : Short 1152921504606 m) (hn : n ≤ 1152921504) :
    Calls Try.prog 31 #[.slice A n d, callV c x] w (NewEnts w (doesE m c)) := by
  have HW := Lib.hid h
  have HM := Lib.hid hm
  have HU := Lib.hid hu
  have HS := Lib.hid hs
  clear h hm hu hs
  obtain ⟨gb, hgb⟩ : ∃ gb, gb = decide (countsE c) := ⟨_, rfl⟩
  have HGB := Lib.hid hgb
  clear hgb
  go_enter Try.func31, Try.ntmps31
  go_upto_region 1 with fail
  obtain ⟨w1, hw1⟩ : ∃ W, W = w.alloc (.cells (callCs c x) 48) := ⟨_, rfl⟩
  rw [← hw1]
  have HB : Hid (Below w.heap.size w w1) := Lib.hid (by rw [hw1]; exact (Below.refl _ _).alloc (Nat.le_refl _) _)
  have HK : Hid (Blk w1 w.heap.size 48 (callCs c x)) := Lib.hid (by rw [hw1]; exact Blk.new _ _ _)
  have HAT := Lib.hid (CallAt.of_blk HK.out)
  have HW1 := Lib.hid (HW.out.below HB.out)
  clear hw1
  go_upto_region 2 with (first | (refine wpList_load_call rfl (.tmp 3) rfl rfl HAT.out ?_) | (go_at_call 52; go_loud (refine (counts_any F c x w1 HW1.out).mono ?_); rintro e w2 ⟨rfl, hb2⟩; rw [← HGB.out]; have HB2 := Lib.hid hb2; clear hb2))
  have HK2 := Lib.hid (HK.out.below HB2.out)
  have z2 : w2.cell? ⟨w.heap.size, 2, none⟩ = some (.int .i64 c.kd) := HK2.out.cell 2
  have z3 : w2.cell? ⟨w.heap.size, 3, none⟩ = some (.slice x.kA x.kn x.kc) := HK2.out.cell 3
  have z4 : w2.cell? ⟨w.heap.size, 4, none⟩ = some (.slice x.vA x.vn x.vc) := HK2.out.cell 4
  have HB3 := Lib.hid (HB.out.trans (HB2.out.mono HB.out.size))
  have HW3 := Lib.hid (HW.out.below HB3.out)
  have HM3 := Lib.hid (HM.out.below HB3.out)
  by_cases hc : countsE c
  · have hgt : gb = true := by rw [HGB.out]; simp [hc]
    have HKL : Hid (c.key.length ≤ 1152921504606) := Lib.hid (by have := hc.1.2.1; omega)
    subst hgt
    have HC := Lib.hid hc
    clear hc
    by_cases hk : c.kd = 2
    · have HKD := Lib.hid hk
      rw [hk] at z2
      clear hk
      go_wp2_with (go_at_call 50; go_loud (refine (rput_any A x.kA x.vA n d x.kn x.kc x.vn x.vc m (c.key, c.val) w2 HM3.out HU.out HS.out hn HW3.out.key HW3.out.val_ HKL.out).mono ?_); rintro e w4 ⟨A2, n2, d2, rfl, he2, hb2⟩; have HE2 := Lib.hid he2; have HB4 := Lib.hid hb2; clear he2 hb2)
      go_ret
      exact ⟨A2, n2, d2, rfl, by unfold doesE; rw [if_pos HC.out, if_pos HKD.out]; exact HE2.out, HB3.out.trans (HB4.out.mono HB3.out.size)⟩
    · have HKD := Lib.hid hk
      go_wp2_with (go_at_call 53; go_loud (refine (rcut_any A x.kA n d x.kn x.kc m c.key w2 HM3.out hn HW3.out.key).mono ?_); rintro e w4 ⟨A2, n2, d2, rfl, he2, hb2⟩; have HE2 := Lib.hid he2; have HB4 := Lib.hid hb2; clear he2 hb2)
      go_ret
      exact ⟨A2, n2, d2, rfl, by unfold doesE; rw [if_pos HC.out, if_neg HKD.out]; exact HE2.out, HB3.out.trans (HB4.out.mono HB3.out.size)⟩
  · have hgt : gb = false := by rw [HGB.out]; simp [hc]
    subst hgt
    have HC := Lib.hid hc
    clear hc
    go_wp2
    go_ret
    exact ⟨A, n, d, rfl, by unfold doesE; rw [if_neg HC.out]; exact HM3.out, HB3.out⟩
end Go.Proofs.Ytpbnngfiinihmaa

namespace Go.Proofs.Ytpbnngfiinihmaa
open Go.RowKit
theorem ans_bad {m : List Ent} {c : CallD} (hg : ¬ goodE c) : answerE m c ↔ (c.er = 3 ∧ c.th = false ∧ (c.kd ≠ 1 ∨ c.ans.length = 0)) := by
  unfold answerE; rw [if_neg hg]
  constructor
  · rintro ⟨a, b, h | h⟩
    · exact ⟨a, b, .inl h⟩
    · exact ⟨a, b, .inr (by rw [h]; rfl)⟩
  · rintro ⟨a, b, h | h⟩
    · exact ⟨a, b, .inl h⟩
    · exact ⟨a, b, .inr (List.eq_nil_of_length_eq_zero h)⟩
theorem ans_get {m : List Ent} {c : CallD} (hg : goodE c) (hk : c.kd = 1) : answerE m c ↔ (c.er = 0 ∧ c.th = (hasE m c.key).isSome ∧ c.ans = (hasE m c.key).getD []) := by
  unfold answerE; rw [if_pos hg, if_pos hk]
theorem none_iff {o : Option (List UInt8)} : o = none ↔ o.isSome = false := by cases o <;> simp
theorem ans_full {m : List Ent} {c : CallD} (hg : goodE c) (hk : c.kd = 2) (he : c.er = 2) : answerE m c ↔ (c.th = false ∧ (hasE m c.key).isSome = false) := by
  unfold answerE; rw [if_pos hg, if_neg (by omega), none_iff]
  constructor
  · rintro (⟨_, _, a, b⟩ | ⟨a, _⟩)
    · exact ⟨a, b⟩
    · exact absurd ⟨hk, he⟩ a
  · rintro ⟨a, b⟩; exact .inl ⟨hk, he, a, b⟩
theorem ans_else {m : List Ent} {c : CallD} (hg : goodE c) (hk : c.kd ≠ 1) (he : ¬ (c.kd = 2 ∧ c.er = 2)) : answerE m c ↔ (c.er = 0 ∧ c.th = (hasE m c.key).isSome) := by
  unfold answerE; rw [if_pos hg, if_neg hk]
  constructor
  · rintro (⟨a, b, _⟩ | ⟨_, h⟩)
    · exact absurd ⟨a, b⟩ he
    · exact h
  · rintro h; exact .inr ⟨he, h⟩
set_option maxRecDepth 100000 in
set_option maxHeartbeats 8000000 in
theorem answer_any (F : Nat → Prop) (A : Option Addr) (n d : Nat) (m : List Ent) (c : CallD) (x : CallX) (w : World) (h : CallW w F c x) (hm : Ents w Any A n m) (hn : n ≤ 1152921504) :
    Calls Try.prog 30 #[.slice A n d, callV c x] w fun e w' => e = .returned (.bool (decide (answerE m c))) ∧ Below w.heap.size w w' := by
  have HW := Lib.hid h
  have HM := Lib.hid hm
  clear h hm
  obtain ⟨gb, hgb⟩ : ∃ gb, gb = decide (goodE c) := ⟨_, rfl⟩
  have HGB := Lib.hid hgb
  obtain ⟨tb, htb⟩ : ∃ tb, tb = (hasE m c.key).isSome := ⟨_, rfl⟩
  have HTB := Lib.hid htb
  obtain ⟨vv, hvv⟩ : ∃ vv, vv = (hasE m c.key).getD [] := ⟨_, rfl⟩
  have HVV := Lib.hid hvv
  clear hgb htb hvv
  obtain ⟨AP, hap⟩ : ∃ AP, AP = answerE m c := ⟨_, rfl⟩
  have HAP := Lib.hid hap
  clear hap
  go_enter Try.func30, Try.ntmps30
  go_upto_region 1 with fail
  obtain ⟨w1, hw1⟩ : ∃ W, W = w.alloc (.cells (callCs c x) 48) := ⟨_, rfl⟩
  rw [← hw1]
  have HB : Hid (Below w.heap.size w w1) := Lib.hid (by rw [hw1]; exact (Below.refl _ _).alloc (Nat.le_refl _) _)
  have HK : Hid (Blk w1 w.heap.size 48 (callCs c x)) := Lib.hid (by rw [hw1]; exact Blk.new _ _ _)
  have HW1 := Lib.hid (HW.out.below HB.out)
  have y3 : w1.cell? ⟨w.heap.size, 3, none⟩ = some (.slice x.kA x.kn x.kc) := HK.out.cell 3
  clear hw1
  go_upto_region 2 with (go_at_call 40; go_loud (refine (rhas_any A x.kA n d x.kn x.kc m c.key w1 (HM.out.below HB.out) hn HW1.out.key).mono ?_); rintro e w2 ⟨vA, vn, vc, rfl, hs2, hb2⟩; rw [← HTB.out]; have HS2 := Lib.hid hs2; have HB2 := Lib.hid hb2; clear hs2 hb2)
  have HK2 := Lib.hid (HK.out.below HB2.out)
  have HAT := Lib.hid (CallAt.of_blk HK2.out)
  have HW2 := Lib.hid (HW1.out.below HB2.out)
  clear y3
  go_upto_region 3 with (first | (refine wpList_load_op rfl (.tmp 16) rfl rfl HAT.out ?_) | (go_at_call 51; go_loud (refine (rgood_any F c x w2 HW2.out).mono ?_); rintro e w3 ⟨rfl, hb3⟩; rw [← HGB.out]; have HB3 := Lib.hid hb3; clear hb3))
  have HK3 := Lib.hid (HK2.out.below HB3.out)
  have z2 : w3.cell? ⟨w.heap.size, 2, none⟩ = some (.int .i64 c.kd) := HK3.out.cell 2
  have z13 : w3.cell? ⟨w.heap.size, 13, none⟩ = some (.int .i64 c.er) := HK3.out.cell 13
  have z14 : w3.cell? ⟨w.heap.size, 14, none⟩ = some (.bool c.th) := HK3.out.cell 14
  have z15 : w3.cell? ⟨w.heap.size, 15, none⟩ = some (.slice x.aA x.an x.ac) := HK3.out.cell 15
  have HBB := Lib.hid ((HB.out.trans (HB2.out.mono HB.out.size)).trans (HB3.out.mono (Nat.le_trans HB.out.size HB2.out.size)))
  have HAN := Lib.hid HW2.out.aq
  clear HK HK2 HK3 HAT
  cases gb with
  | false =>
    have hng : ¬ goodE c := of_decide_eq_false HGB.out.symm
    have HP := Lib.hid (ans_bad (m := m) hng)
    clear hng
    go_wp2
    all_goals (go_ret; refine ⟨ret_bool ?_, HBB.out⟩; clear z2 z13 z14 z15; rw [HP.out, ← HAN.out]; try simp_all)
  | true =>
    have hgd : goodE c := of_decide_eq_true HGB.out.symm
    have HGD := Lib.hid hgd
    clear hgd
    by_cases hk1 : c.kd = 1
    · have HP := Lib.hid (ans_get (m := m) HGD.out hk1)
      rw [hk1] at z2
      have q1 := conv_any w3 Any x.aA x.an x.ac c.ans (HW2.out.below HB3.out).ans_.parts.2.2.2 HAN.out
      have q2 := conv_any w3 Any vA vn vc vv (by rw [HVV.out]; exact (HS2.out.below HB3.out).parts.2.2.2) (by rw [HVV.out]; exact HS2.out.parts.2.2.1)
      have q3 := sOf_eq (a := c.ans) (b := vv)
      clear hk1
      go_wp2
      all_goals (go_ret; refine ⟨ret_bool ?_, HBB.out⟩; clear z2 z13 z14 z15 q1 q2 q3; rw [HP.out, ← HTB.out, ← HVV.out]; try simp_all)
    · by_cases hk2 : c.kd = 2
      · rw [hk2] at z2
        by_cases he2 : c.er = 2
        · have HP := Lib.hid (ans_full (m := m) HGD.out hk2 he2)
          rw [he2] at z13
          clear hk1 hk2 he2
          go_wp2
          all_goals (go_ret; refine ⟨ret_bool ?_, HBB.out⟩; clear z2 z13 z14 z15; rw [HP.out, ← HTB.out]; try simp_all)
        · have HP := Lib.hid (ans_else (m := m) HGD.out hk1 (fun h => he2 h.2))
          have he2' : (c.er == 2) = false := by simpa using he2
          clear hk1 hk2 he2
          go_wp2
          all_goals (go_ret; refine ⟨ret_bool ?_, HBB.out⟩; clear z2 z13 z14 z15; rw [HP.out, ← HTB.out]; try simp_all)
      · have HP := Lib.hid (ans_else (m := m) HGD.out hk1 (fun h => hk2 h.1))
        have hk1' : (c.kd == 1) = false := by simpa using hk1
        have hk2' : (c.kd == 2) = false := by simpa using hk2
        clear hk1 hk2
        go_wp2
        all_goals (go_ret; refine ⟨ret_bool ?_, HBB.out⟩; clear z2 z13 z14 z15; rw [HP.out, ← HTB.out]; try simp_all)
end Go.Proofs.Ytpbnngfiinihmaa

namespace Go.Proofs.Ytpbnngfiinihmaa
open Go.RowKit Go.Maps
/-- a new table that reads as m; its texts lie in what was there -/
def NewTab (w : World) (n : Nat) (m : List Ent) (e : Ending) (w' : World) : Prop := e = .returned (.map (some w.heap.size)) ∧ TabM w' w.heap.size n (Under w.heap.size) m ∧ Below w.heap.size w w'
set_option maxRecDepth 100000 in
set_option maxHeartbeats 4000000 in
theorem of_any (A : Option Addr) (n c : Nat) (l : List Ent) (w : World) (h : Ents w Any A n l) (hn : n ≤ 1048576) (hs : Short 1152921504606 l) :
    Calls Try.prog 21 #[.slice A n c] w (NewTab w n (mapE l)) := by
  have HE := Lib.hid h
  have HN := Lib.hid h.len
  have HS := Lib.hid hs
  have hmm := @run_makeMap Try.prog
  clear h hs
  go_enter Try.func21, Try.ntmps21
  go_wp2
  go_loopg [9] n (fun g' iv wz => ∃ (i : Nat), g' = n - i ∧ i ≤ n ∧ iv = .int .i64 i ∧ TabM wz w.heap.size i (Under w.heap.size) (mapE (l.take i)) ∧ Below w.heap.size w wz)
  case atStart => exact ⟨0, by omega, by omega, rfl, TabM.made _ _, (Below.refl _ _).alloc (Nat.le_refl _) _⟩
  case round =>
    obtain ⟨i, hg, hi, rfl, hm, hb⟩ := hrel
    have HG := Lib.hid hg
    have HM := Lib.hid hm
    have HB := Lib.hid hb
    clear hg hm hb
    by_cases hlt : i < n
    · obtain ⟨b, o, Ak, nk, ck, Av, nv, cv, key, val, rfl, hmi, c1', c2', s1, s2⟩ := rd_text HE.out hlt
      have c1 := bkeep HB.out c1'
      have c2 := bkeep HB.out c2'
      have HST := Lib.hid (mapE_take hmi)
      have HKL : Hid (key.length ≤ 1152921504606) := Lib.hid (HS.out _ (List.mem_of_getElem? hmi)).1
      have K1 := Lib.hid ((s1.under (Nat.le_refl _)).below HB.out)
      have K2 := Lib.hid ((s2.under (Nat.le_refl _)).below HB.out)
      clear s1 s2 hmi c1' c2'
      go_upto_region 5 with fail
      obtain ⟨w1, hw1⟩ : ∃ W, W = wr.alloc (.cells #[.slice Ak nk ck, .slice Av nv cv] 38) := ⟨_, rfl⟩
      rw [← hw1]
      have z0 : w1.cell? ⟨wr.heap.size, 0, none⟩ = some (.slice Ak nk ck) := by rw [hw1]; exact (Blk.new _ _ _).cell 0
      have z1 : w1.cell? ⟨wr.heap.size, 1, none⟩ = some (.slice Av nv cv) := by rw [hw1]; exact (Blk.new _ _ _).cell 1
      have hb1 : Below wr.heap.size wr w1 := by rw [hw1]; exact (Below.refl _ _).alloc (Nat.le_refl _) _
      have HM1 := Lib.hid (HM.out.below hb1)
      have L1 := Lib.hid (K1.out.below hb1)
      have L2 := Lib.hid (K2.out.below hb1)
      have HB1 := Lib.hid (HB.out.trans (hb1.mono HB.out.size))
      have q1 := conv_any w1 _ Ak nk ck key L1.out.parts.2.2.2 L1.out.parts.2.2.1
      clear hw1 hb1 c1 c2
      go_wp2_with (at_mapUpdate; go_loud (refine wpList_tab_put rfl (.tmp 13) (.tmp 16) (.tmp 18) rfl rfl HM1.out (by simp only [maxLen]; omega) (key, val) (by have := HKL.out; simp only [maxLen]; omega) (.slice Av nv cv) rfl rfl L2.out (fun h => by have h : w.heap.size < w.heap.size := h; omega) ?_); intro w2 hm2 hc2; have HM2 := Lib.hid hm2; have HC2 := Lib.hid hc2; clear hm2 hc2)
      go_roundg (n - (i + 1))
      case measure => have := HG.out; omega
      case rel => exact ⟨i + 1, rfl, by omega, by go_num, by rw [HST.out]; exact HM2.out, HB1.out.trans (HC2.out.below_of HB1.out.size (fun b hb e => by have e : b = w.heap.size := e; omega))⟩
    · have hin : i = n := by omega
      subst hin
      go_wp2
      go_ret
      have hd : l.take i = l := List.take_of_length_le (by have := HN.out; omega)
      have h1 := HM.out
      rw [hd] at h1
      exact ⟨rfl, h1, HB.out⟩
theorem CallW.keyF {w : World} {F : Nat → Prop} {c : CallD} {x : CallX} (h : CallW w F c x) : SB w F (.slice x.kA x.kn x.kc) c.key := SB.mk h.kk h.kl h.kq h.kr
theorem CallW.valF {w : World} {F : Nat → Prop} {c : CallD} {x : CallX} (h : CallW w F c x) : SB w F (.slice x.vA x.vn x.vc) c.val := SB.mk h.vk h.vl h.vq h.vr
/-- what 'does' leaves -/
def TabDid (w : World) (b n : Nat) (F : Nat → Prop) (m : List Ent) (e : Ending) (w' : World) : Prop := e = .returned (.tuple #[]) ∧ TabM w' b (n + 1) F m ∧ Chg (One b) w w'
set_option maxRecDepth 100000 in
set_option maxHeartbeats 8000000 in
theorem does_any (F : Nat → Prop) (b n : Nat) (m : List Ent) (c : CallD) (x : CallX) (w : World) (h : CallW w F c x) (hT : TabM w b n F m) (hn : n < 1152921504606) (hF : ∀ g, F g → g < w.heap.size ∧ g ≠ b) :
    Calls Try.prog 23 #[.map (some b), callV c x] w (TabDid w b n F (doesE m c)) := by
  have HW := Lib.hid h
  have HT := Lib.hid hT
  have HF := Lib.hid hF
  have hblt := hT.lt
  clear h hT hF
  obtain ⟨gb, hgb⟩ : ∃ gb, gb = decide (goodE c) := ⟨_, rfl⟩
  have HGB := Lib.hid hgb
  clear hgb
  go_enter Try.func23, Try.ntmps23
  go_upto_region 1 with fail
  obtain ⟨w1, hw1⟩ : ∃ W, W = w.alloc (.cells (callCs c x) 48) := ⟨_, rfl⟩
  rw [← hw1]
  have HB : Hid (Below w.heap.size w w1) := Lib.hid (by rw [hw1]; exact (Below.refl _ _).alloc (Nat.le_refl _) _)
  have HK : Hid (Blk w1 w.heap.size 48 (callCs c x)) := Lib.hid (by rw [hw1]; exact Blk.new _ _ _)
  have HAT := Lib.hid (CallAt.of_blk HK.out)
  have HW1 := Lib.hid (HW.out.below HB.out)
  clear hw1
  have z2 : w1.cell? ⟨w.heap.size, 2, none⟩ = some (.int .i64 c.kd) := HK.out.cell 2
  have z11 : w1.cell? ⟨w.heap.size, 11, none⟩ = some (.int .i64 c.pt) := HK.out.cell 11
  have z13 : w1.cell? ⟨w.heap.size, 13, none⟩ = some (.int .i64 c.er) := HK.out.cell 13
  by_cases hp : c.pt < 0
  · go_wp2
    go_end0
    exact ⟨rfl, by unfold doesE; rw [if_neg (fun h => by have := h.2.1; omega)]; exact (HT.out.below HB.out).mono (by omega), Chg.of_below HB.out⟩
  · by_cases he : c.er = 0
    · have HE := Lib.hid he
      have HPT : Hid (0 ≤ c.pt) := Lib.hid (by omega)
      rw [he] at z13
      clear he
      cases gb with
      | false =>
        go_wp2_with (first | (refine wpList_load_opw (by kernel_rfl) (.tmp 14) rfl rfl HAT.out ?_) | (go_at_call 46; go_loud (refine (good_any F c x w1 HW1.out).mono ?_); rintro e w2 ⟨rfl, hb2⟩; rw [← HGB.out]; have HB2 := Lib.hid hb2; clear hb2))
        go_end0
        have hb3 := HB.out.trans (HB2.out.mono HB.out.size)
        exact ⟨rfl, by unfold doesE; rw [if_neg (fun h => of_decide_eq_false HGB.out.symm h.1)]; exact (HT.out.below hb3).mono (by omega), Chg.of_below hb3⟩
      | true =>
        have HG : Hid (goodE c) := Lib.hid (of_decide_eq_true HGB.out.symm)
        go_upto_region 2 with (first | (refine wpList_load_opw (by kernel_rfl) (.tmp 14) rfl rfl HAT.out ?_) | (go_at_call 46; go_loud (refine (good_any F c x w1 HW1.out).mono ?_); rintro e w2 ⟨rfl, hb2⟩; rw [← HGB.out]; have HB2 := Lib.hid hb2; clear hb2))
        have HB3 := Lib.hid (HB.out.trans (HB2.out.mono HB.out.size))
        have HT2 := Lib.hid (HT.out.below HB3.out)
        have HW2 := Lib.hid (HW.out.below HB3.out)
        have HK2 := Lib.hid (HK.out.below HB2.out)
        have y2 : w2.cell? ⟨w.heap.size, 2, none⟩ = some (.int .i64 c.kd) := HK2.out.cell 2
        have y3 : w2.cell? ⟨w.heap.size, 3, none⟩ = some (.slice x.kA x.kn x.kc) := HK2.out.cell 3
        have y4 : w2.cell? ⟨w.heap.size, 4, none⟩ = some (.slice x.vA x.vn x.vc) := HK2.out.cell 4
        have q1 := conv_any w2 _ x.kA x.kn x.kc c.key HW2.out.kr HW2.out.kq
        have HKL : Hid (c.key.length ≤ maxLen) := Lib.hid (by have := HG.out.2.1; simp only [maxLen]; omega)
        have hFb : ¬ F b := fun h => (HF.out b h).2 rfl
        clear z2 z11 z13
        by_cases hk2 : c.kd = 2
        · have HK2' := Lib.hid hk2
          rw [hk2] at y2
          clear hk2
          go_wp2_with (at_mapUpdate; go_loud (refine wpList_tab_put rfl (.tmp 24) (.tmp 28) (.tmp 31) rfl rfl HT2.out (by simp only [maxLen]; omega) (c.key, c.val) HKL.out (.slice x.vA x.vn x.vc) rfl rfl HW2.out.valF hFb ?_); intro w3 hm3 hc3; have HM3 := Lib.hid hm3; have HC3 := Lib.hid hc3; clear hm3 hc3)
          go_end0
          exact ⟨rfl, by unfold doesE; rw [if_pos ⟨HG.out, HPT.out, HE.out, .inl HK2'.out⟩, if_pos HK2'.out]; exact HM3.out, (Chg.of_below HB3.out).trans HC3.out (fun b _ h => h)⟩
        · have HN2 := Lib.hid hk2
          have hk2' : (c.kd == 2) = false := by simpa using hk2
          clear hk2
          by_cases hk3 : c.kd = 3
          · have HK3 := Lib.hid hk3
            rw [hk3] at y2
            clear hk3 hk2'
            go_wp2_with (at_delete; go_loud (refine wpList_tab_cut rfl (.tmp 37) (.tmp 41) rfl rfl HT2.out c.key HKL.out rfl hFb ?_); intro w3 hm3 hc3; have HM3 := Lib.hid hm3; have HC3 := Lib.hid hc3; clear hm3 hc3)
            go_end0
            exact ⟨rfl, by unfold doesE; rw [if_pos ⟨HG.out, HPT.out, HE.out, .inr HK3.out⟩, if_neg HN2.out]; exact HM3.out.mono (by omega), (Chg.of_below HB3.out).trans HC3.out (fun b _ h => h)⟩
          · have HN3 := Lib.hid hk3
            have hk3' : (c.kd == 3) = false := by simpa using hk3
            clear hk3
            go_wp2
            go_end0
            exact ⟨rfl, by unfold doesE; rw [if_neg (fun h => h.2.2.2.elim HN2.out HN3.out)]; exact HT2.out.mono (by omega), Chg.of_below HB3.out⟩
    · have he' : (c.er == 0) = false := by simpa using he
      have HE := Lib.hid he
      clear he
      go_wp2
      go_end0
      exact ⟨rfl, by unfold doesE; rw [if_neg (fun h => HE.out h.2.2.1)]; exact (HT.out.below HB.out).mono (by omega), Chg.of_below HB.out⟩
end Go.Proofs.Ytpbnngfiinihmaa
