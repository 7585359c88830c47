/- WALKS: coppiceref20.answer. WALKS: order.of, order.table.does, order.right. WALKS: order.right. WALKS: order.right, whole. -/
import Derived.Test.YtpbnngfiinihmaaOb07
import Derived.Test.YtpbnngfiinihmaaOb09
import Derived.Laws.StructEq
set_option linter.unusedVariables false
set_option linter.unusedSimpArgs false
namespace Go.Proofs.Ytpbnngfiinihmaa
open Go.RowKit
theorem ans_bad {m : List Ent} {c : CallD} (hg : ¬ goodE c) : answerE m c ↔ (c.er = 3 ∧ c.th = false ∧ (c.kd ≠ 1 ∨ c.ans.length = 0)) := by
  unfold answerE; rw [if_neg hg]
  constructor
  · rintro ⟨a, b, h | h⟩
    · exact ⟨a, b, .inl h⟩
    · exact ⟨a, b, .inr (by rw [h]; rfl)⟩
  · rintro ⟨a, b, h | h⟩
    · exact ⟨a, b, .inl h⟩
    · exact ⟨a, b, .inr (List.eq_nil_of_length_eq_zero h)⟩
theorem ans_get {m : List Ent} {c : CallD} (hg : goodE c) (hk : c.kd = 1) : answerE m c ↔ (c.er = 0 ∧ c.th = (hasE m c.key).isSome ∧ c.ans = (hasE m c.key).getD []) := by
  unfold answerE; rw [if_pos hg, if_pos hk]
theorem none_iff {o : Option (List UInt8)} : o = none ↔ o.isSome = false := by cases o <;> simp
theorem ans_full {m : List Ent} {c : CallD} (hg : goodE c) (hk : c.kd = 2) (he : c.er = 2) : answerE m c ↔ (c.th = false ∧ (hasE m c.key).isSome = false) := by
  unfold answerE; rw [if_pos hg, if_neg (by omega), none_iff]
  constructor
  · rintro (⟨_, _, a, b⟩ | ⟨a, _⟩)
    · exact ⟨a, b⟩
    · exact absurd ⟨hk, he⟩ a
  · rintro ⟨a, b⟩; exact .inl ⟨hk, he, a, b⟩
theorem ans_else {m : List Ent} {c : CallD} (hg : goodE c) (hk : c.kd ≠ 1) (he : ¬ (c.kd = 2 ∧ c.er = 2)) : answerE m c ↔ (c.er = 0 ∧ c.th = (hasE m c.key).isSome) := by
  unfold answerE; rw [if_pos hg, if_neg hk]
  constructor
  · rintro (⟨a, b, _⟩ | ⟨_, h⟩)
    · exact absurd ⟨a, b⟩ he
    · exact h
  · rintro h; exact .inr ⟨he, h⟩
set_option maxRecDepth 100000 in
set_option maxHeartbeats 8000000 in
theorem answer_any (F : Nat → Prop) (A : Option Addr) (n d : Nat) (m : List Ent) (c : CallD) (x : CallX) (w : World) (h : CallW w F c x) (hm : Ents w Any A n m) (hn : n ≤ 1152921504) :
    Calls Try.prog 30 #[.slice A n d, callV c x] w fun e w' => e = .returned (.bool (decide (answerE m c))) ∧ Below w.heap.size w w' := by
  have HW := Lib.hid h
  have HM := Lib.hid hm
  clear h hm
  obtain ⟨gb, hgb⟩ : ∃ gb, gb = decide (goodE c) := ⟨_, rfl⟩
  have HGB := Lib.hid hgb
  obtain ⟨tb, htb⟩ : ∃ tb, tb = (hasE m c.key).isSome := ⟨_, rfl⟩
  have HTB := Lib.hid htb
  obtain ⟨vv, hvv⟩ : ∃ vv, vv = (hasE m c.key).getD [] := ⟨_, rfl⟩
  have HVV := Lib.hid hvv
  clear hgb htb hvv
  obtain ⟨AP, hap⟩ : ∃ AP, AP = answerE m c := ⟨_, rfl⟩
  have HAP := Lib.hid hap
  clear hap
  go_enter Try.func30, Try.ntmps30
  go_upto_region 1 with fail
  obtain ⟨w1, hw1⟩ : ∃ W, W = w.alloc (.cells (callCs c x) 48) := ⟨_, rfl⟩
  rw [← hw1]
  have HB : Hid (Below w.heap.size w w1) := Lib.hid (by rw [hw1]; exact (Below.refl _ _).alloc (Nat.le_refl _) _)
  have HK : Hid (Blk w1 w.heap.size 48 (callCs c x)) := Lib.hid (by rw [hw1]; exact Blk.new _ _ _)
  have HW1 := Lib.hid (HW.out.below HB.out)
  have y3 : w1.cell? ⟨w.heap.size, 3, none⟩ = some (.slice x.kA x.kn x.kc) := HK.out.cell 3
  clear hw1
  go_upto_region 2 with (go_at_call 40; go_loud (refine (rhas_any A x.kA n d x.kn x.kc m c.key w1 (HM.out.below HB.out) hn HW1.out.key).mono ?_); rintro e w2 ⟨vA, vn, vc, rfl, hs2, hb2⟩; rw [← HTB.out]; have HS2 := Lib.hid hs2; have HB2 := Lib.hid hb2; clear hs2 hb2)
  have HK2 := Lib.hid (HK.out.below HB2.out)
  have HAT := Lib.hid (CallAt.of_blk HK2.out)
  have HW2 := Lib.hid (HW1.out.below HB2.out)
  clear y3
  go_upto_region 3 with (first | (refine wpList_load_op rfl (.tmp 16) rfl rfl HAT.out ?_) | (go_at_call 51; go_loud (refine (rgood_any F c x w2 HW2.out).mono ?_); rintro e w3 ⟨rfl, hb3⟩; rw [← HGB.out]; have HB3 := Lib.hid hb3; clear hb3))
  have HK3 := Lib.hid (HK2.out.below HB3.out)
  have z2 : w3.cell? ⟨w.heap.size, 2, none⟩ = some (.int .i64 c.kd) := HK3.out.cell 2
  have z13 : w3.cell? ⟨w.heap.size, 13, none⟩ = some (.int .i64 c.er) := HK3.out.cell 13
  have z14 : w3.cell? ⟨w.heap.size, 14, none⟩ = some (.bool c.th) := HK3.out.cell 14
  have z15 : w3.cell? ⟨w.heap.size, 15, none⟩ = some (.slice x.aA x.an x.ac) := HK3.out.cell 15
  have HBB := Lib.hid ((HB.out.trans (HB2.out.mono HB.out.size)).trans (HB3.out.mono (Nat.le_trans HB.out.size HB2.out.size)))
  have HAN := Lib.hid HW2.out.aq
  clear HK HK2 HK3 HAT
  cases gb with
  | false =>
    have hng : ¬ goodE c := of_decide_eq_false HGB.out.symm
    have HP := Lib.hid (ans_bad (m := m) hng)
    clear hng
    go_wp2
    all_goals (go_ret; refine ⟨ret_bool ?_, HBB.out⟩; clear z2 z13 z14 z15; rw [HP.out, ← HAN.out]; try simp_all)
  | true =>
    have hgd : goodE c := of_decide_eq_true HGB.out.symm
    have HGD := Lib.hid hgd
    clear hgd
    by_cases hk1 : c.kd = 1
    · have HP := Lib.hid (ans_get (m := m) HGD.out hk1)
      rw [hk1] at z2
      have q1 := conv_any w3 Any x.aA x.an x.ac c.ans (HW2.out.below HB3.out).ans_.parts.2.2.2 HAN.out
      have q2 := conv_any w3 Any vA vn vc vv (by rw [HVV.out]; exact (HS2.out.below HB3.out).parts.2.2.2) (by rw [HVV.out]; exact HS2.out.parts.2.2.1)
      have q3 := sOf_eq (a := c.ans) (b := vv)
      clear hk1
      go_wp2
      all_goals (go_ret; refine ⟨ret_bool ?_, HBB.out⟩; clear z2 z13 z14 z15 q1 q2 q3; rw [HP.out, ← HTB.out, ← HVV.out]; try simp_all)
    · by_cases hk2 : c.kd = 2
      · rw [hk2] at z2
        by_cases he2 : c.er = 2
        · have HP := Lib.hid (ans_full (m := m) HGD.out hk2 he2)
          rw [he2] at z13
          clear hk1 hk2 he2
          go_wp2
          all_goals (go_ret; refine ⟨ret_bool ?_, HBB.out⟩; clear z2 z13 z14 z15; rw [HP.out, ← HTB.out]; try simp_all)
        · have HP := Lib.hid (ans_else (m := m) HGD.out hk1 (fun h => he2 h.2))
          have he2' : (c.er == 2) = false := by simpa using he2
          clear hk1 hk2 he2
          go_wp2
          all_goals (go_ret; refine ⟨ret_bool ?_, HBB.out⟩; clear z2 z13 z14 z15; rw [HP.out, ← HTB.out]; try simp_all)
      · have HP := Lib.hid (ans_else (m := m) HGD.out hk1 (fun h => hk2 h.1))
        have hk1' : (c.kd == 1) = false := by simpa using hk1
        have hk2' : (c.kd == 2) = false := by simpa using hk2
        clear hk1 hk2
        go_wp2
        all_goals (go_ret; refine ⟨ret_bool ?_, HBB.out⟩; clear z2 z13 z14 z15; rw [HP.out, ← HTB.out]; try simp_all)
end Go.Proofs.Ytpbnngfiinihmaa

namespace Go.Proofs.Ytpbnngfiinihmaa
open Go.RowKit Go.Maps
/-- a new table that reads as m; its texts lie in what was there -/
def NewTab (w : World) (n : Nat) (m : List Ent) (e : Ending) (w' : World) : Prop := e = .returned (.map (some w.heap.size)) ∧ TabM w' w.heap.size n (Under w.heap.size) m ∧ Below w.heap.size w w'
set_option maxRecDepth 100000 in
set_option maxHeartbeats 4000000 in
theorem of_any (A : Option Addr) (n c : Nat) (l : List Ent) (w : World) (h : Ents w Any A n l) (hn : n ≤ 1048576) (hs : Short 1152921504606 l) :
    Calls Try.prog 21 #[.slice A n c] w (NewTab w n (mapE l)) := by
  have HE := Lib.hid h
  have HN := Lib.hid h.len
  have HS := Lib.hid hs
  have hmm := @run_makeMap Try.prog
  clear h hs
  go_enter Try.func21, Try.ntmps21
  go_wp2
  go_loopg [9] n (fun g' iv wz => ∃ (i : Nat), g' = n - i ∧ i ≤ n ∧ iv = .int .i64 i ∧ TabM wz w.heap.size i (Under w.heap.size) (mapE (l.take i)) ∧ Below w.heap.size w wz)
  case atStart => exact ⟨0, by omega, by omega, rfl, TabM.made _ _, (Below.refl _ _).alloc (Nat.le_refl _) _⟩
  case round =>
    obtain ⟨i, hg, hi, rfl, hm, hb⟩ := hrel
    have HG := Lib.hid hg
    have HM := Lib.hid hm
    have HB := Lib.hid hb
    clear hg hm hb
    by_cases hlt : i < n
    · obtain ⟨b, o, Ak, nk, ck, Av, nv, cv, key, val, rfl, hmi, c1', c2', s1, s2⟩ := rd_text HE.out hlt
      have c1 := bkeep HB.out c1'
      have c2 := bkeep HB.out c2'
      have HST := Lib.hid (mapE_take hmi)
      have HKL : Hid (key.length ≤ 1152921504606) := Lib.hid (HS.out _ (List.mem_of_getElem? hmi)).1
      have K1 := Lib.hid ((s1.under (Nat.le_refl _)).below HB.out)
      have K2 := Lib.hid ((s2.under (Nat.le_refl _)).below HB.out)
      clear s1 s2 hmi c1' c2'
      go_upto_region 5 with fail
      obtain ⟨w1, hw1⟩ : ∃ W, W = wr.alloc (.cells #[.slice Ak nk ck, .slice Av nv cv] 38) := ⟨_, rfl⟩
      rw [← hw1]
      have z0 : w1.cell? ⟨wr.heap.size, 0, none⟩ = some (.slice Ak nk ck) := by rw [hw1]; exact (Blk.new _ _ _).cell 0
      have z1 : w1.cell? ⟨wr.heap.size, 1, none⟩ = some (.slice Av nv cv) := by rw [hw1]; exact (Blk.new _ _ _).cell 1
      have hb1 : Below wr.heap.size wr w1 := by rw [hw1]; exact (Below.refl _ _).alloc (Nat.le_refl _) _
      have HM1 := Lib.hid (HM.out.below hb1)
      have L1 := Lib.hid (K1.out.below hb1)
      have L2 := Lib.hid (K2.out.below hb1)
      have HB1 := Lib.hid (HB.out.trans (hb1.mono HB.out.size))
      have q1 := conv_any w1 _ Ak nk ck key L1.out.parts.2.2.2 L1.out.parts.2.2.1
      clear hw1 hb1 c1 c2
      go_wp2_with (at_mapUpdate; go_loud (refine wpList_tab_put rfl (.tmp 13) (.tmp 16) (.tmp 18) rfl rfl HM1.out (by simp only [maxLen]; omega) (key, val) (by have := HKL.out; simp only [maxLen]; omega) (.slice Av nv cv) rfl rfl L2.out (fun h => by have h : w.heap.size < w.heap.size := h; omega) ?_); intro w2 hm2 hc2; have HM2 := Lib.hid hm2; have HC2 := Lib.hid hc2; clear hm2 hc2)
      go_roundg (n - (i + 1))
      case measure => have := HG.out; omega
      case rel => exact ⟨i + 1, rfl, by omega, by go_num, by rw [HST.out]; exact HM2.out, HB1.out.trans (HC2.out.below_of HB1.out.size (fun b hb e => by have e : b = w.heap.size := e; omega))⟩
    · have hin : i = n := by omega
      subst hin
      go_wp2
      go_ret
      have hd : l.take i = l := List.take_of_length_le (by have := HN.out; omega)
      have h1 := HM.out
      rw [hd] at h1
      exact ⟨rfl, h1, HB.out⟩
theorem CallW.keyF {w : World} {F : Nat → Prop} {c : CallD} {x : CallX} (h : CallW w F c x) : SB w F (.slice x.kA x.kn x.kc) c.key := SB.mk h.kk h.kl h.kq h.kr
theorem CallW.valF {w : World} {F : Nat → Prop} {c : CallD} {x : CallX} (h : CallW w F c x) : SB w F (.slice x.vA x.vn x.vc) c.val := SB.mk h.vk h.vl h.vq h.vr
/-- what 'does' leaves -/
def TabDid (w : World) (b n : Nat) (F : Nat → Prop) (m : List Ent) (e : Ending) (w' : World) : Prop := e = .returned (.tuple #[]) ∧ TabM w' b (n + 1) F m ∧ Chg (One b) w w'
set_option maxRecDepth 100000 in
set_option maxHeartbeats 8000000 in
theorem does_any (F : Nat → Prop) (b n : Nat) (m : List Ent) (c : CallD) (x : CallX) (w : World) (h : CallW w F c x) (hT : TabM w b n F m) (hn : n < 1152921504606) (hF : ∀ g, F g → g < w.heap.size ∧ g ≠ b) :
    Calls Try.prog 23 #[.map (some b), callV c x] w (TabDid w b n F (doesE m c)) := by
  have HW := Lib.hid h
  have HT := Lib.hid hT
  have HF := Lib.hid hF
  have hblt := hT.lt
  clear h hT hF
  obtain ⟨gb, hgb⟩ : ∃ gb, gb = decide (goodE c) := ⟨_, rfl⟩
  have HGB := Lib.hid hgb
  clear hgb
  go_enter Try.func23, Try.ntmps23
  go_upto_region 1 with fail
  obtain ⟨w1, hw1⟩ : ∃ W, W = w.alloc (.cells (callCs c x) 48) := ⟨_, rfl⟩
  rw [← hw1]
  have HB : Hid (Below w.heap.size w w1) := Lib.hid (by rw [hw1]; exact (Below.refl _ _).alloc (Nat.le_refl _) _)
  have HK : Hid (Blk w1 w.heap.size 48 (callCs c x)) := Lib.hid (by rw [hw1]; exact Blk.new _ _ _)
  have HAT := Lib.hid (CallAt.of_blk HK.out)
  have HW1 := Lib.hid (HW.out.below HB.out)
  clear hw1
  have z2 : w1.cell? ⟨w.heap.size, 2, none⟩ = some (.int .i64 c.kd) := HK.out.cell 2
  have z11 : w1.cell? ⟨w.heap.size, 11, none⟩ = some (.int .i64 c.pt) := HK.out.cell 11
  have z13 : w1.cell? ⟨w.heap.size, 13, none⟩ = some (.int .i64 c.er) := HK.out.cell 13
  by_cases hp : c.pt < 0
  · go_wp2
    go_end0
    exact ⟨rfl, by unfold doesE; rw [if_neg (fun h => by have := h.2.1; omega)]; exact (HT.out.below HB.out).mono (by omega), Chg.of_below HB.out⟩
  · by_cases he : c.er = 0
    · have HE := Lib.hid he
      have HPT : Hid (0 ≤ c.pt) := Lib.hid (by omega)
      rw [he] at z13
      clear he
      cases gb with
      | false =>
        go_wp2_with (first | (refine wpList_load_opw (by kernel_rfl) (.tmp 14) rfl rfl HAT.out ?_) | (go_at_call 46; go_loud (refine (good_any F c x w1 HW1.out).mono ?_); rintro e w2 ⟨rfl, hb2⟩; rw [← HGB.out]; have HB2 := Lib.hid hb2; clear hb2))
        go_end0
        have hb3 := HB.out.trans (HB2.out.mono HB.out.size)
        exact ⟨rfl, by unfold doesE; rw [if_neg (fun h => of_decide_eq_false HGB.out.symm h.1)]; exact (HT.out.below hb3).mono (by omega), Chg.of_below hb3⟩
      | true =>
        have HG : Hid (goodE c) := Lib.hid (of_decide_eq_true HGB.out.symm)
        go_upto_region 2 with (first | (refine wpList_load_opw (by kernel_rfl) (.tmp 14) rfl rfl HAT.out ?_) | (go_at_call 46; go_loud (refine (good_any F c x w1 HW1.out).mono ?_); rintro e w2 ⟨rfl, hb2⟩; rw [← HGB.out]; have HB2 := Lib.hid hb2; clear hb2))
        have HB3 := Lib.hid (HB.out.trans (HB2.out.mono HB.out.size))
        have HT2 := Lib.hid (HT.out.below HB3.out)
        have HW2 := Lib.hid (HW.out.below HB3.out)
        have HK2 := Lib.hid (HK.out.below HB2.out)
        have y2 : w2.cell? ⟨w.heap.size, 2, none⟩ = some (.int .i64 c.kd) := HK2.out.cell 2
        have y3 : w2.cell? ⟨w.heap.size, 3, none⟩ = some (.slice x.kA x.kn x.kc) := HK2.out.cell 3
        have y4 : w2.cell? ⟨w.heap.size, 4, none⟩ = some (.slice x.vA x.vn x.vc) := HK2.out.cell 4
        have q1 := conv_any w2 _ x.kA x.kn x.kc c.key HW2.out.kr HW2.out.kq
        have HKL : Hid (c.key.length ≤ maxLen) := Lib.hid (by have := HG.out.2.1; simp only [maxLen]; omega)
        have hFb : ¬ F b := fun h => (HF.out b h).2 rfl
        clear z2 z11 z13
        by_cases hk2 : c.kd = 2
        · have HK2' := Lib.hid hk2
          rw [hk2] at y2
          clear hk2
          go_wp2_with (at_mapUpdate; go_loud (refine wpList_tab_put rfl (.tmp 24) (.tmp 28) (.tmp 31) rfl rfl HT2.out (by simp only [maxLen]; omega) (c.key, c.val) HKL.out (.slice x.vA x.vn x.vc) rfl rfl HW2.out.valF hFb ?_); intro w3 hm3 hc3; have HM3 := Lib.hid hm3; have HC3 := Lib.hid hc3; clear hm3 hc3)
          go_end0
          exact ⟨rfl, by unfold doesE; rw [if_pos ⟨HG.out, HPT.out, HE.out, .inl HK2'.out⟩, if_pos HK2'.out]; exact HM3.out, (Chg.of_below HB3.out).trans HC3.out (fun b _ h => h)⟩
        · have HN2 := Lib.hid hk2
          have hk2' : (c.kd == 2) = false := by simpa using hk2
          clear hk2
          by_cases hk3 : c.kd = 3
          · have HK3 := Lib.hid hk3
            rw [hk3] at y2
            clear hk3 hk2'
            go_wp2_with (at_delete; go_loud (refine wpList_tab_cut rfl (.tmp 37) (.tmp 41) rfl rfl HT2.out c.key HKL.out rfl hFb ?_); intro w3 hm3 hc3; have HM3 := Lib.hid hm3; have HC3 := Lib.hid hc3; clear hm3 hc3)
            go_end0
            exact ⟨rfl, by unfold doesE; rw [if_pos ⟨HG.out, HPT.out, HE.out, .inr HK3.out⟩, if_neg HN2.out]; exact HM3.out.mono (by omega), (Chg.of_below HB3.out).trans HC3.out (fun b _ h => h)⟩
          · have HN3 := Lib.hid hk3
            have hk3' : (c.kd == 3) = false := by simpa using hk3
            clear hk3
            go_wp2
            go_end0
            exact ⟨rfl, by unfold doesE; rw [if_neg (fun h => h.2.2.2.elim HN2.out HN3.out)]; exact HT2.out.mono (by omega), Chg.of_below HB3.out⟩
    · have he' : (c.er == 0) = false := by simpa using he
      have HE := Lib.hid he
      clear he
      go_wp2
      go_end0
      exact ⟨rfl, by unfold doesE; rw [if_neg (fun h => HE.out h.2.2.1)]; exact (HT.out.below HB.out).mono (by omega), Chg.of_below HB.out⟩
end Go.Proofs.Ytpbnngfiinihmaa

namespace Go.Proofs.Ytpbnngfiinihmaa
open Go.RowKit Go.Maps
noncomputable def valC : Code := codeOr (Try.f22.body.bind (regionAt 5))
/-- what is asked throughout -/
structure ValAt (p : Nat) (a v : Value) (s1 s2 : List UInt8) (w : World) : Prop where
  c : w.cell? ⟨p, 15, none⟩ = some a
  q1 : (convert 36 9 a).run Try.prog w = .ok (.string (sOf s1)) w
  q2 : (convert 36 9 v).run Try.prog w = .ok (.string (sOf s2)) w
theorem ValAt.of {w w' : World} {G S : Nat → Prop} {p an ac vn vc : Nat} {aA vA : Option Addr} {s1 s2 : List UInt8} (hc : w.cell? ⟨p, 15, none⟩ = some (.slice aA an ac)) (h1 : SB w G (.slice aA an ac) s1) (h2 : SB w G (.slice vA vn vc) s2) (hw : Chg S w w') (hp : ¬ S p) (hG : ∀ b, G b → ¬ S b) :
    ValAt p (.slice aA an ac) (.slice vA vn vc) s1 s2 w' :=
  ⟨hw.cell hp hc, conv_any _ G _ _ _ _ (h1.chg hw hG).parts.2.2.2 h1.parts.2.2.1, conv_any _ G _ _ _ _ (h2.chg hw hG).parts.2.2.2 h2.parts.2.2.1⟩
set_option maxRecDepth 100000 in
set_option maxHeartbeats 4000000 in
theorem right_vals (G : Nat → Prop) (p q r vn vc an ac : Nat) (vA aA : Option Addr) (s1 s2 : List UInt8) (i1 i2 j1 j2 : Value) (e1 e2 : ByteArray) (w : World) {u0 u1 u2 u4 u6 u9 u10 u11 u12 u13 u14 u15 u16 u17 u18 u19 u20 u21 u22 u23 u24 u25 u26 u27 u28 u29 u30 u31 u32 u33 u34 u35 u36 u37 u38 u39 u40 u41 u42 u43 u44 u45 u46 u47 u48 u49 u50 u51 u52 u53 u54 u55 u56 u57 u58 u59 u60 u61 u62 u63 u64 u65 : Value} (Q : Exit → Act → World → Prop) (HQP : Hid (∀ c t (a : Act) w, Q (.panic c) ⟨t, a.defers⟩ w → Q (.panic c) a w))
    (hc : w.cell? ⟨p, 15, none⟩ = some (.slice aA an ac)) (h1 : SB w G (.slice aA an ac) s1) (h2 : SB w G (.slice vA vn vc) s2) (hG : ∀ b, G b → b ≠ q ∧ b ≠ r) (hpq : p ≠ q) (hpr : p ≠ r)
    (HQ : Hid (Blk w q 82 #[i1, i2, .string e1])) (HR : Hid (Blk w r 82 #[j1, j2, .string e2])) (hqr : q ≠ r)
    (hexit : ∀ (v30 v31 v32 v33 v34 v35 v36 : Value) (w' : World), Blk w' q 82 #[i1, i2, .string (sOf s1)] → Blk w' r 82 #[j1, j2, .string (sOf s2)] → Chg (fun b => b = q ∨ b = r) w w' → Q .normal ⟨(u0 :: u1 :: u2 :: .pointer (some ⟨p, 0, none⟩) :: u4 :: .slice vA vn vc :: u6 :: .pointer (some ⟨q, 0, none⟩) :: .pointer (some ⟨r, 0, none⟩) :: u9 :: u10 :: u11 :: u12 :: u13 :: u14 :: u15 :: u16 :: u17 :: u18 :: u19 :: u20 :: u21 :: u22 :: u23 :: u24 :: u25 :: u26 :: u27 :: u28 :: u29 :: v30 :: v31 :: v32 :: v33 :: v34 :: v35 :: v36 :: u37 :: u38 :: u39 :: u40 :: u41 :: u42 :: u43 :: u44 :: u45 :: u46 :: u47 :: u48 :: u49 :: u50 :: u51 :: u52 :: u53 :: u54 :: u55 :: u56 :: u57 :: u58 :: u59 :: u60 :: u61 :: u62 :: u63 :: u64 :: u65 :: []).toArray, []⟩ w') :
    Code.wp Try.prog valC Q ⟨(u0 :: u1 :: u2 :: .pointer (some ⟨p, 0, none⟩) :: u4 :: .slice vA vn vc :: u6 :: .pointer (some ⟨q, 0, none⟩) :: .pointer (some ⟨r, 0, none⟩) :: u9 :: u10 :: u11 :: u12 :: u13 :: u14 :: u15 :: u16 :: u17 :: u18 :: u19 :: u20 :: u21 :: u22 :: u23 :: u24 :: u25 :: u26 :: u27 :: u28 :: u29 :: u30 :: u31 :: u32 :: u33 :: u34 :: u35 :: u36 :: u37 :: u38 :: u39 :: u40 :: u41 :: u42 :: u43 :: u44 :: u45 :: u46 :: u47 :: u48 :: u49 :: u50 :: u51 :: u52 :: u53 :: u54 :: u55 :: u56 :: u57 :: u58 :: u59 :: u60 :: u61 :: u62 :: u63 :: u64 :: u65 :: []).toArray, []⟩ w := by
  have HEX := Lib.hid hexit
  have H1 := Lib.hid h1
  have H2 := Lib.hid h2
  have HC := Lib.hid hc
  have HG := Lib.hid hG
  have S0 : ValAt p (.slice aA an ac) (.slice vA vn vc) s1 s2 w.drew := ValAt.of (S := Nil) hc h1 h2 (Chg.refl _ _).drew (fun h => h) (fun _ _ h => h)
  have S1 : ValAt p (.slice aA an ac) (.slice vA vn vc) s1 s2 (w.drew.setCell ⟨q, 2, none⟩ (.string (sOf s1))) := ValAt.of (S := One q) hc h1 h2 ((Chg.refl (One q) w).drew.setCell (p := ⟨q, 2, none⟩) (fun _ => rfl) _) hpq (fun b hb e => (hG b hb).1 e)
  have C2 : Chg (fun b => b = q ∨ b = r) w ((w.drew.setCell ⟨q, 2, none⟩ (.string (sOf s1))).setCell ⟨r, 2, none⟩ (.string (sOf s2))) := ((Chg.refl _ _).drew.setCell (p := ⟨q, 2, none⟩) (fun _ => .inl rfl) _).setCell (p := ⟨r, 2, none⟩) (fun _ => .inr rfl) _
  have S2 : ValAt p (.slice aA an ac) (.slice vA vn vc) s1 s2 ((w.drew.setCell ⟨q, 2, none⟩ (.string (sOf s1))).setCell ⟨r, 2, none⟩ (.string (sOf s2))) := ValAt.of hc h1 h2 C2 (fun h => h.elim hpq hpr) (fun b hb e => e.elim (hG b hb).1 (hG b hb).2)
  have HC2 := Lib.hid C2
  have B1 : Blk (w.drew.setCell ⟨q, 2, none⟩ (.string (sOf s1))) q 82 #[i1, i2, .string (sOf s1)] := HQ.out.set_ 2 _
  have B2 : Blk (w.drew.setCell ⟨q, 2, none⟩ (.string (sOf s1))) r 82 #[j1, j2, .string e2] := Blk.far (w := w.drew) HR.out (p := ⟨q, 2, none⟩) (fun e => hqr e.symm) _
  have HB1 := Lib.hid (Blk.far B1 (p := ⟨r, 2, none⟩) hqr (.string (sOf s2)))
  have HB2 := Lib.hid (B2.set_ 2 (.string (sOf s2)))
  have z0 : w.cell? ⟨q, 2, none⟩ = some (.string e1) := HQ.out.cell 2
  have f0 : w.frozen? ⟨q, 2, none⟩ = false := HQ.out.frozen 2
  have z1 : w.cell? ⟨r, 2, none⟩ = some (.string e2) := HR.out.cell 2
  have f1 : w.frozen? ⟨r, 2, none⟩ = false := HR.out.frozen 2
  clear hexit C2 B1 B2 hc h1 h2 hG
  conv => arg 2; whnf
  refine wp_region_V (fun w' => ValAt p (.slice aA an ac) (.slice vA vn vc) s1 s2 w') (by kernel_rfl) ?_
  refine wpV_take (i := 0) (v := ?_) rfl (by kernel_rfl) (by kernel_rfl) (by kernel_rfl) (by first | exact fun _ _ _ h => h | exact fun c a w h => HQP.out c _ a w h) S0 (Or.inl ⟨by kernel_rfl, ?_⟩) ?_
  rotate_left
  · intro w hSw
    go_simp
    try with_reducible rfl
  try simp only [Act.put, List.setIfInBounds_toArray, List.set_cons_zero, List.set_cons_succ]
  refine wpV_take (i := 3) (v := ?_) rfl (by kernel_rfl) (by kernel_rfl) (by kernel_rfl) (by first | exact fun _ _ _ h => h | exact fun c a w h => HQP.out c _ a w h) S0 (Or.inl ⟨by kernel_rfl, ?_⟩) ?_
  rotate_left
  · intro w hSw
    go_simp
    try with_reducible rfl
  try simp only [Act.put, List.setIfInBounds_toArray, List.set_cons_zero, List.set_cons_succ]
  refine wpV_take (i := 1) (v := ?_) rfl (by kernel_rfl) (by kernel_rfl) (by kernel_rfl) (by first | exact fun _ _ _ h => h | exact fun c a w h => HQP.out c _ a w h) S0 (Or.inl ⟨by kernel_rfl, ?_⟩) ?_
  rotate_left
  · intro w hSw
    obtain ⟨s0, q1, q2⟩ := hSw
    go_simp
    try with_reducible rfl
  try simp only [Act.put, List.setIfInBounds_toArray, List.set_cons_zero, List.set_cons_succ]
  refine wpV_take (i := 2) (v := ?_) rfl (by kernel_rfl) (by kernel_rfl) (by kernel_rfl) (by first | exact fun _ _ _ h => h | exact fun c a w h => HQP.out c _ a w h) S0 (Or.inl ⟨by kernel_rfl, ?_⟩) ?_
  rotate_left
  · intro w hSw
    obtain ⟨s0, q1, q2⟩ := hSw
    go_simp
    try with_reducible rfl
  try simp only [Act.put, List.setIfInBounds_toArray, List.set_cons_zero, List.set_cons_succ]
  refine wpV_take (i := 5) (v := ?_) rfl (by kernel_rfl) (by kernel_rfl) (by kernel_rfl) (by first | exact fun _ _ _ h => h | exact fun c a w h => HQP.out c _ a w h) S0 (Or.inl ⟨by kernel_rfl, ?_⟩) ?_
  rotate_left
  · intro w hSw
    go_simp
    try with_reducible rfl
  try simp only [Act.put, List.setIfInBounds_toArray, List.set_cons_zero, List.set_cons_succ]
  refine wpV_take (i := 4) (v := ?_) rfl (by kernel_rfl) (by kernel_rfl) (by kernel_rfl) (by first | exact fun _ _ _ h => h | exact fun c a w h => HQP.out c _ a w h) S0 (Or.inl ⟨by kernel_rfl, ?_⟩) ?_
  rotate_left
  · intro w hSw
    obtain ⟨s0, q1, q2⟩ := hSw
    go_simp
    try with_reducible rfl
  try simp only [Act.put, List.setIfInBounds_toArray, List.set_cons_zero, List.set_cons_succ]
  refine wpV_one (i := 6) (by kernel_rfl) rfl (fun K hK => ?_)
  go_simp
  skip
  refine hK.out _ _ S1 ?_
  clear hK K
  try simp only [Act.put, List.setIfInBounds_toArray, List.set_cons_zero, List.set_cons_succ]
  refine wpV_take (i := 7) (v := ?_) rfl (by kernel_rfl) (by kernel_rfl) (by kernel_rfl) (by first | exact fun _ _ _ h => h | exact fun c a w h => HQP.out c _ a w h) S1 (Or.inl ⟨by kernel_rfl, ?_⟩) ?_
  rotate_left
  · intro w hSw
    go_simp
    try with_reducible rfl
  try simp only [Act.put, List.setIfInBounds_toArray, List.set_cons_zero, List.set_cons_succ]
  refine wpV_one (i := 8) (by kernel_rfl) rfl (fun K hK => ?_)
  go_simp
  skip
  refine hK.out _ _ S2 ?_
  clear hK K
  try simp only [Act.put, List.setIfInBounds_toArray, List.set_cons_zero, List.set_cons_succ]
  refine wpV_done (by kernel_rfl) ?_ _
  go_simp
  exact HEX.out _ _ _ _ _ _ _ _ HB1.out HB2.out HC2.out
end Go.Proofs.Ytpbnngfiinihmaa

namespace Go.Proofs.Ytpbnngfiinihmaa
open Go.RowKit Go.Maps
theorem ans_put2 {m : List Ent} {c : CallD} (hg : goodE c) (hk : c.kd = 2) : answerE m c ↔ ((c.er = 2 ∧ c.th = false ∧ (hasE m c.key).isSome = false) ∨ (c.er = 0 ∧ c.th = (hasE m c.key).isSome)) := by
  by_cases he : c.er = 2
  · rw [ans_full hg hk he]
    constructor
    · rintro ⟨a, b⟩; exact .inl ⟨he, a, b⟩
    · rintro (⟨_, a, b⟩ | ⟨a, _⟩)
      · exact ⟨a, b⟩
      · omega
  · rw [ans_else hg (by omega) (fun h => he h.2)]
    constructor
    · intro h; exact .inr h
    · rintro (⟨a, _⟩ | h)
      · exact absurd a he
      · exact h
set_option maxRecDepth 100000 in
set_option maxHeartbeats 8000000 in
theorem right_any (F : Nat → Prop) (b n : Nat) (m : List Ent) (c : CallD) (x : CallX) (w : World) (h : CallW w F c x) (hT : TabM w b n F m) (hkl : c.key.length ≤ 1152921504606) (hF : ∀ g, F g → g < w.heap.size ∧ g ≠ b) :
    Calls Try.prog 22 #[.map (some b), callV c x] w fun e w' => e = .returned (.bool (decide (answerE m c))) ∧ Below w.heap.size w w' := by
  have HW := Lib.hid h
  have HT := Lib.hid hT
  have HF := Lib.hid hF
  have HKL := Lib.hid hkl
  clear h hT hF hkl
  obtain ⟨gb, hgb⟩ : ∃ gb, gb = decide (goodE c) := ⟨_, rfl⟩
  have HGB := Lib.hid hgb
  obtain ⟨tb, htb⟩ : ∃ tb, tb = (hasE m c.key).isSome := ⟨_, rfl⟩
  have HTB := Lib.hid htb
  obtain ⟨vv, hvv⟩ : ∃ vv, vv = (hasE m c.key).getD [] := ⟨_, rfl⟩
  have HVV := Lib.hid hvv
  clear hgb htb hvv
  go_enter Try.func22, Try.ntmps22
  go_upto_region 1 with fail
  obtain ⟨w1, hw1⟩ : ∃ W, W = w.alloc (.cells (callCs c x) 48) := ⟨_, rfl⟩
  rw [← hw1]
  have HB : Hid (Below w.heap.size w w1) := Lib.hid (by rw [hw1]; exact (Below.refl _ _).alloc (Nat.le_refl _) _)
  have HK : Hid (Blk w1 w.heap.size 48 (callCs c x)) := Lib.hid (by rw [hw1]; exact Blk.new _ _ _)
  have HS1 : Hid (w1.heap.size = w.heap.size + 1) := Lib.hid (by rw [hw1]; simp)
  have HW1 := Lib.hid (HW.out.below HB.out)
  have HT1 := Lib.hid (HT.out.below HB.out)
  clear hw1
  have y3 : w1.cell? ⟨w.heap.size, 3, none⟩ = some (.slice x.kA x.kn x.kc) := HK.out.cell 3
  have q1 := conv_any w1 _ x.kA x.kn x.kc c.key HW1.out.kr HW1.out.kq
  obtain ⟨vA, vn, vc, hlk, _, hsv⟩ := HT1.out.look (k := c.key) (by have := HKL.out; simp only [maxLen]; omega)
  rw [← HTB.out] at hlk
  rw [← HVV.out] at hsv
  have HSV := Lib.hid hsv
  have y13 : w1.cell? ⟨w.heap.size, 13, none⟩ = some (.int .i64 c.er) := HK.out.cell 13
  have y14 : w1.cell? ⟨w.heap.size, 14, none⟩ = some (.bool c.th) := HK.out.cell 14
  clear hsv
  go_upto_region 4 with fail
  obtain ⟨q, hq⟩ : ∃ q, q = w1.heap.size := ⟨_, rfl⟩
  obtain ⟨r, hr⟩ : ∃ r, r = w1.heap.size + 1 := ⟨_, rfl⟩
  obtain ⟨w3, hw3⟩ : ∃ W, W = (w1.alloc (.cells #[.int .i64 c.er, .bool c.th, .string (sOf [])] 82)).alloc (.cells #[.int .i64 0, .bool tb, .string (sOf [])] 82) := ⟨_, rfl⟩
  have hw3' : (w1.alloc (.cells #[.int .i64 c.er, .bool c.th, .string { data := #[] }] 82)).alloc (.cells #[.int .i64 0, .bool tb, .string { data := #[] }] 82) = w3 := hw3.symm
  rw [hw3', ← hr, ← hq]
  have HB2 : Hid (Below w1.heap.size w1 w3) := Lib.hid (by rw [hw3]; exact ((Below.refl _ _).alloc (Nat.le_refl _) _).alloc (by simp) _)
  have HQ3 : Hid (Blk w3 q 82 #[.int .i64 c.er, .bool c.th, .string (sOf [])]) := Lib.hid (by rw [hw3, hq]; exact (Blk.new w1 _ _).alloc _)
  have HR3 : Hid (Blk w3 r 82 #[.int .i64 0, .bool tb, .string (sOf [])]) := Lib.hid (by
    rw [hw3, hr]
    have := Blk.new (w1.alloc (.cells #[.int .i64 c.er, .bool c.th, .string (sOf [])] 82)) 82 #[.int .i64 0, .bool tb, .string (sOf [])]
    simpa using this)
  have HK3 := Lib.hid (HK.out.below HB2.out)
  have HW3 := Lib.hid (HW1.out.below HB2.out)
  have HB3 := Lib.hid (HB.out.trans (HB2.out.mono HB.out.size))
  have HSV3 := Lib.hid (HSV.out.below HB2.out)
  have HQN : Hid (q = w.heap.size + 1 ∧ r = w.heap.size + 2) := Lib.hid (by have := HS1.out; omega)
  have hqr : q ≠ r := by omega
  have hpq : w.heap.size ≠ q := by have := HQN.out; omega
  have hpr : w.heap.size ≠ r := by have := HQN.out; omega
  clear hw3 hw3' hq hr y3 q1 hlk y13 y14
  have z2 : w3.cell? ⟨w.heap.size, 2, none⟩ = some (.int .i64 c.kd) := HK3.out.cell 2
  by_cases hk1 : c.kd = 1
  · have HK1 := Lib.hid hk1
    rw [hk1] at z2
    have z15 : w3.cell? ⟨w.heap.size, 15, none⟩ = some (.slice x.aA x.an x.ac) := HK3.out.cell 15
    clear hk1
    go_upto_region 5 with fail
    refine right_vals F w.heap.size q r vn vc x.an x.ac vA x.aA c.ans vv _ _ _ _ _ _ w3 _ (by exact Lib.hid (fun _ _ _ _ h => h)) z15 (SB.mk HW3.out.ak HW3.out.al HW3.out.aq HW3.out.ar) HSV3.out (fun g hg => by have := (HF.out g hg).1; have := HQN.out; omega) hpq hpr HQ3 HR3 hqr ?_
    intro v30 v31 v32 v33 v34 v35 v36 w4 hq4 hr4 hc4
    have HQ4 := Lib.hid hq4
    have HR4 := Lib.hid hr4
    have HK4 := Lib.hid (HK3.out.chg hc4 (fun h => h.elim hpq hpr))
    have HW4 := Lib.hid (HW3.out.chg hc4 (fun g hg h => by have := (HF.out g hg).1; have := HQN.out; omega))
    have HB4 := Lib.hid (HB3.out.trans (hc4.below_of HB3.out.size (fun g hg h => by have := HQN.out; omega)))
    clear hq4 hr4 hc4 z2 z15
    have HAT4 := Lib.hid (CallAt.of_blk HK4.out)
    have v0 : w4.cell? ⟨r, 0, none⟩ = some (.int .i64 0) := HR4.out.cell 0
    have v1 : w4.cell? ⟨r, 1, none⟩ = some (.bool tb) := HR4.out.cell 1
    have v2 : w4.cell? ⟨r, 2, none⟩ = some (.string (sOf vv)) := HR4.out.cell 2
    cases gb with
    | false =>
      have HNG : Hid (¬ goodE c) := Lib.hid (of_decide_eq_false HGB.out.symm)
      go_upto_region 7 with (first | (refine wpList_load_op rfl (.tmp 37) rfl rfl HAT4.out ?_) | (go_at_call 46; go_loud (refine (good_any F c x w4 HW4.out).mono ?_); rintro e w5 ⟨rfl, hb5⟩; rw [← HGB.out]; have HB5 := Lib.hid hb5; clear hb5))
      have HK5 := Lib.hid (HK4.out.below HB5.out)
      have HQ5 := Lib.hid (HQ4.out.below HB5.out)
      have HR5 := Lib.hid (HR4.out.below HB5.out)
      have HW5 := Lib.hid (HW4.out.below HB5.out)
      have u0 : w5.cell? ⟨r, 0, none⟩ = some (.int .i64 0) := HR5.out.cell 0
      have u1 : w5.cell? ⟨r, 1, none⟩ = some (.bool tb) := HR5.out.cell 1
      have u2 : w5.cell? ⟨r, 2, none⟩ = some (.string (sOf vv)) := HR5.out.cell 2
      have uf := HR5.out.frozen
      clear v0 v1 v2
      go_upto_region 8 with fail
      obtain ⟨w6, hw6⟩ : ∃ W, W = ((w5.setCell ⟨r, 0, none⟩ (.int .i64 3)).setCell ⟨r, 1, none⟩ (.bool false)).setCell ⟨r, 2, none⟩ (.string (sOf [])) := ⟨_, rfl⟩
      have hw6' : ((w5.setCell ⟨r, 0, none⟩ (.int .i64 3)).setCell ⟨r, 1, none⟩ (.bool false)).setCell ⟨r, 2, none⟩ (.string { data := #[] }) = w6 := hw6.symm
      rw [hw6']
      have hc6 : Chg (One r) w5 w6 := by rw [hw6]; exact (((Chg.refl (One r) w5).setCell (p := ⟨r, 0, none⟩) (fun _ => rfl) _).setCell (p := ⟨r, 1, none⟩) (fun _ => rfl) _).setCell (p := ⟨r, 2, none⟩) (fun _ => rfl) _
      have HR6 : Hid (Blk w6 r 82 #[.int .i64 3, .bool false, .string (sOf [])]) := Lib.hid (by rw [hw6]; exact ((HR5.out.set_ 0 (.int .i64 3)).set_ 1 (.bool false)).set_ 2 (.string (sOf [])))
      have HQ6 := Lib.hid (HQ5.out.chg hc6 (fun h => hqr h))
      have HK6 := Lib.hid (HK5.out.chg hc6 (fun h => hpr h))
      have HW6 := Lib.hid (HW5.out.chg hc6 (fun g hg h => by have h : g = r := h; have := (HF.out g hg).1; have := HQN.out; omega))
      have HB6 := Lib.hid ((HB4.out.trans (HB5.out.mono HB4.out.size)).trans (hc6.below_of (Nat.le_trans HB4.out.size HB5.out.size) (fun g hg h => by have h : g = r := h; have := HQN.out; omega)))
      have HP := Lib.hid (ans_bad (m := m) HNG.out)
      have HAT6 := Lib.hid (CallAt.of_blk HK6.out)
      have t0 : w6.cell? ⟨r, 0, none⟩ = some (.int .i64 3) := HR6.out.cell 0
      have t1 : w6.cell? ⟨r, 1, none⟩ = some (.bool false) := HR6.out.cell 1
      have t2 : w6.cell? ⟨r, 2, none⟩ = some (.string (sOf [])) := HR6.out.cell 2
      have s0 : w6.cell? ⟨q, 0, none⟩ = some (.int .i64 c.er) := HQ6.out.cell 0
      have s1 : w6.cell? ⟨q, 1, none⟩ = some (.bool c.th) := HQ6.out.cell 1
      have s2 : w6.cell? ⟨q, 2, none⟩ = some (.string (sOf c.ans)) := HQ6.out.cell 2
      have k2 : w6.cell? ⟨w.heap.size, 2, none⟩ = some (.int .i64 c.kd) := HK6.out.cell 2
      have q3 : ((sOf c.ans).toList == (sOf []).toList) = decide (c.ans = []) := sOf_eq
      have HEQ : Hid ((c.ans = []) ↔ (c.kd ≠ 1 ∨ c.ans.length = 0)) := Lib.hid (⟨fun h => .inr (by rw [h]; rfl), fun h => h.elim (fun h => absurd HK1.out h) List.eq_nil_of_length_eq_zero⟩)
      clear u0 u1 u2 uf hc6 hw6 hw6'
      rw [HK1.out] at k2
      go_wp2
      all_goals (go_ret; refine ⟨ret_bool ?_, HB6.out⟩; rw [HP.out, ← HEQ.out]; clear t0 t1 t2 s0 s1 s2 k2 q3; first | done | (simp; done) | (simp_all; done) | (simp_all [sOf_list]; done))
    | true =>
      have HGD : Hid (goodE c) := Lib.hid (of_decide_eq_true HGB.out.symm)
      go_upto_region 8 with (first | (refine wpList_load_op rfl (.tmp 37) rfl rfl HAT4.out ?_) | (go_at_call 46; go_loud (refine (good_any F c x w4 HW4.out).mono ?_); rintro e w5 ⟨rfl, hb5⟩; rw [← HGB.out]; have HB5 := Lib.hid hb5; clear hb5))
      have HK5 := Lib.hid (HK4.out.below HB5.out)
      have HQ5 := Lib.hid (HQ4.out.below HB5.out)
      have HR5 := Lib.hid (HR4.out.below HB5.out)
      have HW5 := Lib.hid (HW4.out.below HB5.out)
      have HB6 := Lib.hid (HB4.out.trans (HB5.out.mono HB4.out.size))
      have HAT5 := Lib.hid (CallAt.of_blk HK5.out)
      have t0 : w5.cell? ⟨r, 0, none⟩ = some (.int .i64 0) := HR5.out.cell 0
      have t1 : w5.cell? ⟨r, 1, none⟩ = some (.bool tb) := HR5.out.cell 1
      have t2 : w5.cell? ⟨r, 2, none⟩ = some (.string (sOf vv)) := HR5.out.cell 2
      have s0 : w5.cell? ⟨q, 0, none⟩ = some (.int .i64 c.er) := HQ5.out.cell 0
      have s1 : w5.cell? ⟨q, 1, none⟩ = some (.bool c.th) := HQ5.out.cell 1
      have s2 : w5.cell? ⟨q, 2, none⟩ = some (.string (sOf c.ans)) := HQ5.out.cell 2
      have k2 : w5.cell? ⟨w.heap.size, 2, none⟩ = some (.int .i64 c.kd) := HK5.out.cell 2
      have q3 : ((sOf c.ans).toList == (sOf vv).toList) = decide (c.ans = vv) := sOf_eq
      have HP := Lib.hid (ans_get (m := m) HGD.out HK1.out)
      clear v0 v1 v2
      rw [HK1.out] at k2
      go_wp2
      all_goals (go_ret; refine ⟨ret_bool ?_, HB6.out⟩; rw [HP.out, ← HTB.out, ← HVV.out]; clear t0 t1 t2 s0 s1 s2 k2 q3; first | done | (simp; done) | (simp_all; done) | (simp_all [sOf_list]; done))
  · have HN1 := Lib.hid hk1
    have hk1' : (c.kd == 1) = false := by simpa using hk1
    have HQ4 := HQ3
    have HR4 := HR3
    have HK4 := HK3
    have HW4 := HW3
    have HB4 := HB3
    obtain ⟨w4, hw4⟩ : ∃ W, W = w3 := ⟨_, rfl⟩
    rw [← hw4] at HQ4 HR4 HK4 HW4 HB4 z2 ⊢
    clear hk1 hw4
    go_upto_region 6 with fail
    clear hk1'
    clear z2
    by_cases hk2 : c.kd = 2
    · have HKD := Lib.hid hk2
      have hq5 : ((sOf []).toList == ({ data := #[] } : ByteArray).toList) = true := by rw [show ({ data := #[] } : ByteArray) = sOf [] from rfl, sOf_eq]; simp
      clear hk2
      have HAT4 := Lib.hid (CallAt.of_blk HK4.out)
      have v0 : w4.cell? ⟨r, 0, none⟩ = some (.int .i64 0) := HR4.out.cell 0
      have v1 : w4.cell? ⟨r, 1, none⟩ = some (.bool tb) := HR4.out.cell 1
      have v2 : w4.cell? ⟨r, 2, none⟩ = some (.string (sOf ([] : List UInt8))) := HR4.out.cell 2
      cases gb with
      | false =>
        have HNG : Hid (¬ goodE c) := Lib.hid (of_decide_eq_false HGB.out.symm)
        go_upto_region 7 with (first | (refine wpList_load_op rfl (.tmp 37) rfl rfl HAT4.out ?_) | (go_at_call 46; go_loud (refine (good_any F c x w4 HW4.out).mono ?_); rintro e w5 ⟨rfl, hb5⟩; rw [← HGB.out]; have HB5 := Lib.hid hb5; clear hb5))
        have HK5 := Lib.hid (HK4.out.below HB5.out)
        have HQ5 := Lib.hid (HQ4.out.below HB5.out)
        have HR5 := Lib.hid (HR4.out.below HB5.out)
        have HW5 := Lib.hid (HW4.out.below HB5.out)
        have u0 : w5.cell? ⟨r, 0, none⟩ = some (.int .i64 0) := HR5.out.cell 0
        have u1 : w5.cell? ⟨r, 1, none⟩ = some (.bool tb) := HR5.out.cell 1
        have u2 : w5.cell? ⟨r, 2, none⟩ = some (.string (sOf ([] : List UInt8))) := HR5.out.cell 2
        have uf := HR5.out.frozen
        clear v0 v1 v2
        go_upto_region 8 with fail
        obtain ⟨w6, hw6⟩ : ∃ W, W = ((w5.setCell ⟨r, 0, none⟩ (.int .i64 3)).setCell ⟨r, 1, none⟩ (.bool false)).setCell ⟨r, 2, none⟩ (.string (sOf [])) := ⟨_, rfl⟩
        have hw6' : ((w5.setCell ⟨r, 0, none⟩ (.int .i64 3)).setCell ⟨r, 1, none⟩ (.bool false)).setCell ⟨r, 2, none⟩ (.string { data := #[] }) = w6 := hw6.symm
        rw [hw6']
        have hc6 : Chg (One r) w5 w6 := by rw [hw6]; exact (((Chg.refl (One r) w5).setCell (p := ⟨r, 0, none⟩) (fun _ => rfl) _).setCell (p := ⟨r, 1, none⟩) (fun _ => rfl) _).setCell (p := ⟨r, 2, none⟩) (fun _ => rfl) _
        have HR6 : Hid (Blk w6 r 82 #[.int .i64 3, .bool false, .string (sOf [])]) := Lib.hid (by rw [hw6]; exact ((HR5.out.set_ 0 (.int .i64 3)).set_ 1 (.bool false)).set_ 2 (.string (sOf [])))
        have HQ6 := Lib.hid (HQ5.out.chg hc6 (fun h => hqr h))
        have HK6 := Lib.hid (HK5.out.chg hc6 (fun h => hpr h))
        have HW6 := Lib.hid (HW5.out.chg hc6 (fun g hg h => by have h : g = r := h; have := (HF.out g hg).1; have := HQN.out; omega))
        have HB6 := Lib.hid ((HB4.out.trans (HB5.out.mono HB4.out.size)).trans (hc6.below_of (Nat.le_trans HB4.out.size HB5.out.size) (fun g hg h => by have h : g = r := h; have := HQN.out; omega)))
        have HP := Lib.hid (ans_bad (m := m) HNG.out)
        have HAT6 := Lib.hid (CallAt.of_blk HK6.out)
        have t0 : w6.cell? ⟨r, 0, none⟩ = some (.int .i64 3) := HR6.out.cell 0
        have t1 : w6.cell? ⟨r, 1, none⟩ = some (.bool false) := HR6.out.cell 1
        have t2 : w6.cell? ⟨r, 2, none⟩ = some (.string (sOf [])) := HR6.out.cell 2
        have s0 : w6.cell? ⟨q, 0, none⟩ = some (.int .i64 c.er) := HQ6.out.cell 0
        have s1 : w6.cell? ⟨q, 1, none⟩ = some (.bool c.th) := HQ6.out.cell 1
        have s2 : w6.cell? ⟨q, 2, none⟩ = some (.string (sOf ([] : List UInt8))) := HQ6.out.cell 2
        have k2 : w6.cell? ⟨w.heap.size, 2, none⟩ = some (.int .i64 c.kd) := HK6.out.cell 2
        have q3 : ((sOf ([] : List UInt8)).toList == (sOf []).toList) = decide (([] : List UInt8) = []) := sOf_eq
        have HEQ : Hid ((([] : List UInt8) = []) ↔ (c.kd ≠ 1 ∨ c.ans.length = 0)) := Lib.hid (⟨fun _ => .inl (by rw [HKD.out]; simp), fun _ => rfl⟩)
        clear u0 u1 u2 uf hc6 hw6 hw6'
        rw [HKD.out] at k2
        go_wp2_with (first | (refine wpList_load_opw (by kernel_rfl) (.tmp 47) rfl rfl HAT6.out ?_) | (go_at_call 46; go_loud (refine (good_any F c x w6 HW6.out).mono ?_); rintro e w7 ⟨rfl, hb7⟩; rw [← HGB.out]; have HB7 := Lib.hid (HB6.out.trans (hb7.mono HB6.out.size)); have s0 := bkeep hb7 s0; have s1 := bkeep hb7 s1; have s2 := bkeep hb7 s2; have t0 := bkeep hb7 t0; have t1 := bkeep hb7 t1; have t2 := bkeep hb7 t2; clear hb7))
        all_goals (go_ret; refine ⟨ret_bool ?_, HB7.out⟩; rw [HP.out, ← HEQ.out]; clear t0 t1 t2 s0 s1 s2 k2 q3; first | done | (simp; done) | (simp_all; done) | (simp_all [sOf_list]; done))
      | true =>
        have HGD : Hid (goodE c) := Lib.hid (of_decide_eq_true HGB.out.symm)
        go_upto_region 8 with (first | (refine wpList_load_op rfl (.tmp 37) rfl rfl HAT4.out ?_) | (go_at_call 46; go_loud (refine (good_any F c x w4 HW4.out).mono ?_); rintro e w5 ⟨rfl, hb5⟩; rw [← HGB.out]; have HB5 := Lib.hid hb5; clear hb5))
        have HK5 := Lib.hid (HK4.out.below HB5.out)
        have HQ5 := Lib.hid (HQ4.out.below HB5.out)
        have HR5 := Lib.hid (HR4.out.below HB5.out)
        have HW5 := Lib.hid (HW4.out.below HB5.out)
        have HB6 := Lib.hid (HB4.out.trans (HB5.out.mono HB4.out.size))
        have HAT5 := Lib.hid (CallAt.of_blk HK5.out)
        have t0 : w5.cell? ⟨r, 0, none⟩ = some (.int .i64 0) := HR5.out.cell 0
        have t1 : w5.cell? ⟨r, 1, none⟩ = some (.bool tb) := HR5.out.cell 1
        have t2 : w5.cell? ⟨r, 2, none⟩ = some (.string (sOf ([] : List UInt8))) := HR5.out.cell 2
        have s0 : w5.cell? ⟨q, 0, none⟩ = some (.int .i64 c.er) := HQ5.out.cell 0
        have s1 : w5.cell? ⟨q, 1, none⟩ = some (.bool c.th) := HQ5.out.cell 1
        have s2 : w5.cell? ⟨q, 2, none⟩ = some (.string (sOf ([] : List UInt8))) := HQ5.out.cell 2
        have k2 : w5.cell? ⟨w.heap.size, 2, none⟩ = some (.int .i64 c.kd) := HK5.out.cell 2
        have q3 : ((sOf ([] : List UInt8)).toList == (sOf ([] : List UInt8)).toList) = decide (([] : List UInt8) = ([] : List UInt8)) := sOf_eq
        have HP := Lib.hid (ans_put2 (m := m) HGD.out HKD.out)
        clear v0 v1 v2
        rw [HKD.out] at k2
        go_wp2_with (first | (refine wpList_load_opw (by kernel_rfl) (.tmp 47) rfl rfl HAT5.out ?_) | (go_at_call 46; go_loud (refine (good_any F c x w5 HW5.out).mono ?_); rintro e w7 ⟨rfl, hb7⟩; rw [← HGB.out]; have HB7 := Lib.hid (HB6.out.trans (hb7.mono HB6.out.size)); have s0 := bkeep hb7 s0; have s1 := bkeep hb7 s1; have s2 := bkeep hb7 s2; have t0 := bkeep hb7 t0; have t1 := bkeep hb7 t1; have t2 := bkeep hb7 t2; clear hb7))
        all_goals (go_ret; refine ⟨ret_bool ?_, HB7.out⟩; rw [HP.out, ← HTB.out]; clear t0 t1 t2 s0 s1 s2 k2 q3 hq5; first | done | (simp; done) | (simp_all; done) | (simp_all [sOf_list]; done))
    · have HN2 := Lib.hid hk2
      have hk2' : (c.kd == 2) = false := by simpa using hk2
      clear hk2
      have HAT4 := Lib.hid (CallAt.of_blk HK4.out)
      have v0 : w4.cell? ⟨r, 0, none⟩ = some (.int .i64 0) := HR4.out.cell 0
      have v1 : w4.cell? ⟨r, 1, none⟩ = some (.bool tb) := HR4.out.cell 1
      have v2 : w4.cell? ⟨r, 2, none⟩ = some (.string (sOf ([] : List UInt8))) := HR4.out.cell 2
      cases gb with
      | false =>
        have HNG : Hid (¬ goodE c) := Lib.hid (of_decide_eq_false HGB.out.symm)
        go_upto_region 7 with (first | (refine wpList_load_op rfl (.tmp 37) rfl rfl HAT4.out ?_) | (go_at_call 46; go_loud (refine (good_any F c x w4 HW4.out).mono ?_); rintro e w5 ⟨rfl, hb5⟩; rw [← HGB.out]; have HB5 := Lib.hid hb5; clear hb5))
        have HK5 := Lib.hid (HK4.out.below HB5.out)
        have HQ5 := Lib.hid (HQ4.out.below HB5.out)
        have HR5 := Lib.hid (HR4.out.below HB5.out)
        have HW5 := Lib.hid (HW4.out.below HB5.out)
        have u0 : w5.cell? ⟨r, 0, none⟩ = some (.int .i64 0) := HR5.out.cell 0
        have u1 : w5.cell? ⟨r, 1, none⟩ = some (.bool tb) := HR5.out.cell 1
        have u2 : w5.cell? ⟨r, 2, none⟩ = some (.string (sOf ([] : List UInt8))) := HR5.out.cell 2
        have uf := HR5.out.frozen
        clear v0 v1 v2
        go_upto_region 8 with fail
        obtain ⟨w6, hw6⟩ : ∃ W, W = ((w5.setCell ⟨r, 0, none⟩ (.int .i64 3)).setCell ⟨r, 1, none⟩ (.bool false)).setCell ⟨r, 2, none⟩ (.string (sOf [])) := ⟨_, rfl⟩
        have hw6' : ((w5.setCell ⟨r, 0, none⟩ (.int .i64 3)).setCell ⟨r, 1, none⟩ (.bool false)).setCell ⟨r, 2, none⟩ (.string { data := #[] }) = w6 := hw6.symm
        rw [hw6']
        have hc6 : Chg (One r) w5 w6 := by rw [hw6]; exact (((Chg.refl (One r) w5).setCell (p := ⟨r, 0, none⟩) (fun _ => rfl) _).setCell (p := ⟨r, 1, none⟩) (fun _ => rfl) _).setCell (p := ⟨r, 2, none⟩) (fun _ => rfl) _
        have HR6 : Hid (Blk w6 r 82 #[.int .i64 3, .bool false, .string (sOf [])]) := Lib.hid (by rw [hw6]; exact ((HR5.out.set_ 0 (.int .i64 3)).set_ 1 (.bool false)).set_ 2 (.string (sOf [])))
        have HQ6 := Lib.hid (HQ5.out.chg hc6 (fun h => hqr h))
        have HK6 := Lib.hid (HK5.out.chg hc6 (fun h => hpr h))
        have HW6 := Lib.hid (HW5.out.chg hc6 (fun g hg h => by have h : g = r := h; have := (HF.out g hg).1; have := HQN.out; omega))
        have HB6 := Lib.hid ((HB4.out.trans (HB5.out.mono HB4.out.size)).trans (hc6.below_of (Nat.le_trans HB4.out.size HB5.out.size) (fun g hg h => by have h : g = r := h; have := HQN.out; omega)))
        have HP := Lib.hid (ans_bad (m := m) HNG.out)
        have HAT6 := Lib.hid (CallAt.of_blk HK6.out)
        have t0 : w6.cell? ⟨r, 0, none⟩ = some (.int .i64 3) := HR6.out.cell 0
        have t1 : w6.cell? ⟨r, 1, none⟩ = some (.bool false) := HR6.out.cell 1
        have t2 : w6.cell? ⟨r, 2, none⟩ = some (.string (sOf [])) := HR6.out.cell 2
        have s0 : w6.cell? ⟨q, 0, none⟩ = some (.int .i64 c.er) := HQ6.out.cell 0
        have s1 : w6.cell? ⟨q, 1, none⟩ = some (.bool c.th) := HQ6.out.cell 1
        have s2 : w6.cell? ⟨q, 2, none⟩ = some (.string (sOf ([] : List UInt8))) := HQ6.out.cell 2
        have k2 : w6.cell? ⟨w.heap.size, 2, none⟩ = some (.int .i64 c.kd) := HK6.out.cell 2
        have q3 : ((sOf ([] : List UInt8)).toList == (sOf []).toList) = decide (([] : List UInt8) = []) := sOf_eq
        have HEQ : Hid ((([] : List UInt8) = []) ↔ (c.kd ≠ 1 ∨ c.ans.length = 0)) := Lib.hid (⟨fun _ => .inl HN1.out, fun _ => rfl⟩)
        clear u0 u1 u2 uf hc6 hw6 hw6'
        skip
        go_wp2
        all_goals (go_ret; refine ⟨ret_bool ?_, HB6.out⟩; rw [HP.out, ← HEQ.out]; clear t0 t1 t2 s0 s1 s2 k2 q3; first | done | (simp; done) | (simp_all; done) | (simp_all [sOf_list]; done))
      | true =>
        have HGD : Hid (goodE c) := Lib.hid (of_decide_eq_true HGB.out.symm)
        go_upto_region 8 with (first | (refine wpList_load_op rfl (.tmp 37) rfl rfl HAT4.out ?_) | (go_at_call 46; go_loud (refine (good_any F c x w4 HW4.out).mono ?_); rintro e w5 ⟨rfl, hb5⟩; rw [← HGB.out]; have HB5 := Lib.hid hb5; clear hb5))
        have HK5 := Lib.hid (HK4.out.below HB5.out)
        have HQ5 := Lib.hid (HQ4.out.below HB5.out)
        have HR5 := Lib.hid (HR4.out.below HB5.out)
        have HW5 := Lib.hid (HW4.out.below HB5.out)
        have HB6 := Lib.hid (HB4.out.trans (HB5.out.mono HB4.out.size))
        have HAT5 := Lib.hid (CallAt.of_blk HK5.out)
        have t0 : w5.cell? ⟨r, 0, none⟩ = some (.int .i64 0) := HR5.out.cell 0
        have t1 : w5.cell? ⟨r, 1, none⟩ = some (.bool tb) := HR5.out.cell 1
        have t2 : w5.cell? ⟨r, 2, none⟩ = some (.string (sOf ([] : List UInt8))) := HR5.out.cell 2
        have s0 : w5.cell? ⟨q, 0, none⟩ = some (.int .i64 c.er) := HQ5.out.cell 0
        have s1 : w5.cell? ⟨q, 1, none⟩ = some (.bool c.th) := HQ5.out.cell 1
        have s2 : w5.cell? ⟨q, 2, none⟩ = some (.string (sOf ([] : List UInt8))) := HQ5.out.cell 2
        have k2 : w5.cell? ⟨w.heap.size, 2, none⟩ = some (.int .i64 c.kd) := HK5.out.cell 2
        have q3 : ((sOf ([] : List UInt8)).toList == (sOf ([] : List UInt8)).toList) = decide (([] : List UInt8) = ([] : List UInt8)) := sOf_eq
        have HP := Lib.hid (ans_else (m := m) HGD.out HN1.out (fun h => HN2.out h.1))
        clear v0 v1 v2
        skip
        go_wp2
        all_goals (go_ret; refine ⟨ret_bool ?_, HB6.out⟩; rw [HP.out, ← HTB.out]; clear t0 t1 t2 s0 s1 s2 k2 q3; first | done | (simp; done) | (simp_all; done) | (simp_all [sOf_list]; done))
end Go.Proofs.Ytpbnngfiinihmaa
