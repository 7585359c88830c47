/- WALKS: the document's maps: coppiceref20.Map, good, Counts, does. -/
import Derived.Test.YtpbnngfiinihmaaOb06
set_option linter.unusedVariables false
set_option linter.unusedSimpArgs false
namespace Go.Proofs.Ytpbnngfiinihmaa
open Go.RowKit
open Go.Lib (compareBytes)
set_option maxRecDepth 100000 in
set_option maxHeartbeats 4000000 in
theorem rmap_any (A : Option Addr) (n c : Nat) (l : List Ent) (w : World) (h : Ents w Any A n l) (hn : n ≤ 1048576) (hs : Short 1152921504606 l) :
    Calls Try.prog 29 #[.slice A n c] w (NewEnts w (mapE l)) := by
  have HE := Lib.hid h
  have HN := Lib.hid h.len
  have HS := Lib.hid hs
  clear h hs
  go_enter Try.func29, Try.ntmps29
  go_wp2
  go_loopg [4, 3] n (fun g' iv v wz => ∃ (i mn mc : Nat) (mA : Option Addr), g' = n - i ∧ i ≤ n ∧ iv = .int .i64 i ∧ v = .slice mA mn mc ∧ Ents wz Any mA mn (mapE (l.take i)) ∧ Below w.heap.size w wz)
  case atStart => exact ⟨0, 0, 0, none, by omega, by omega, rfl, rfl, Ents.nil _ _ _, Below.refl _ _⟩
  case round =>
    obtain ⟨i, mn, mc, mA, hg, hi, rfl, rfl, hm, hb⟩ := hrel
    have HG := Lib.hid hg
    have HM := Lib.hid hm
    have HB := Lib.hid hb
    have hml : mn ≤ n := by
      have h1 := hm.len
      have h2 := mapE_len (l.take i)
      rw [List.length_take] at h2
      omega
    clear hg hm hb
    by_cases hlt : i < n
    · obtain ⟨b, o, Ak, nk, ck, Av, nv, cv, key, val, rfl, hmi, c1', c2', s1, s2⟩ := rd_text HE.out hlt
      have c1 := bkeep HB.out c1'
      have c2 := bkeep HB.out c2'
      have HST := Lib.hid (mapE_take hmi)
      have HKL : Hid (key.length ≤ 1152921504606) := Lib.hid (HS.out _ (List.mem_of_getElem? hmi)).1
      have HSH : Hid (Short 1152921504606 (mapE (l.take i))) := Lib.hid (fun e he => HS.out e (mapE_sub l i e he))
      have K1 := Lib.hid (s1.below HB.out)
      have K2 := Lib.hid (s2.below HB.out)
      clear s1 s2 hmi c1' c2'
      go_wp2_with (go_at_call 50; go_loud (refine (rput_any mA Ak Av mn mc nk ck nv cv _ (key, val) wr HM.out (mapE_up _) HSH.out (by omega) K1.out K2.out HKL.out).mono ?_); rintro e w1 ⟨A2, n2, d2, rfl, he2, hb2⟩; have HE2 := Lib.hid he2; have HB2 := Lib.hid (HB.out.trans (hb2.mono HB.out.size)); clear he2 hb2)
      go_roundg (n - (i + 1))
      case measure => have := HG.out; omega
      case rel => exact ⟨i + 1, n2, d2, A2, rfl, by omega, by go_num, rfl, by rw [HST.out]; exact HE2.out, HB2.out⟩
    · have hin : i = n := by omega
      subst hin
      go_wp2
      go_ret
      have hd : l.take i = l := List.take_of_length_le (by have := HN.out; omega)
      have h1 := HM.out
      rw [hd] at h1
      exact ⟨mA, mn, mc, rfl, h1, HB.out⟩
set_option maxRecDepth 100000 in
theorem rgood_any (F : Nat → Prop) (c : CallD) (x : CallX) (w : World) (h : CallW w F c x) : Calls Try.prog 51 #[opV c x] w fun e w' => e = .returned (.bool (decide (goodE c))) ∧ Below w.heap.size w w' := by
  have hk := Lib.hid h.kq
  have hv := Lib.hid h.vq
  clear h
  obtain ⟨kb, hkb⟩ : ∃ kb, kb = decide (keyN x.kn) := ⟨_, rfl⟩
  have HKB := Lib.hid hkb
  clear hkb
  go_enter Try.func51, Try.ntmps51
  go_wp2_with (first | (go_at_call 62; refine (rkey_any _ _ _ _).mono ?_; rintro e w1 ⟨rfl, rfl⟩; rw [← HKB.out]) | (go_at_call 63; refine (rvalue_any _ _ _ _).mono ?_; rintro e w1 ⟨rfl, rfl⟩))
  all_goals (go_ret; refine ⟨ret_bool ?_, (Below.refl _ _).alloc (Nat.le_refl _) _⟩; have h1 := hk.out; have h2 := hv.out; have h3 := HKB.out; simp only [goodE, ← h1, ← h2]; subst h3; (try simp only [decide_eq_true_eq, decide_eq_false_iff_not] at *); simp [keyN] at *; omega)
set_option maxRecDepth 100000 in
set_option maxHeartbeats 4000000 in
theorem counts_any (F : Nat → Prop) (c : CallD) (x : CallX) (w : World) (h : CallW w F c x) : Calls Try.prog 52 #[callV c x] w fun e w' => e = .returned (.bool (decide (countsE c))) ∧ Below w.heap.size w w' := by
  have HW := Lib.hid h
  clear h
  obtain ⟨gb, hgb⟩ : ∃ gb, gb = decide (goodE c) := ⟨_, rfl⟩
  have HGB := Lib.hid hgb
  clear hgb
  go_enter Try.func52, Try.ntmps52
  go_upto_region 1 with fail
  obtain ⟨w1, hw1⟩ : ∃ W, W = w.alloc (.cells (callCs c x) 48) := ⟨_, rfl⟩
  rw [← hw1]
  have HB : Hid (Below w.heap.size w w1) := Lib.hid (by rw [hw1]; exact (Below.refl _ _).alloc (Nat.le_refl _) _)
  have HK : Hid (Blk w1 w.heap.size 48 (callCs c x)) := Lib.hid (by rw [hw1]; exact Blk.new _ _ _)
  have HAT := Lib.hid (CallAt.of_blk HK.out)
  have HW1 := Lib.hid (HW.out.below HB.out)
  clear hw1
  go_upto_region 2 with (first | (refine wpList_load_op rfl (.tmp 4) rfl rfl HAT.out ?_) | (go_at_call 51; go_loud (refine (rgood_any F c x w1 HW1.out).mono ?_); rintro e w2 ⟨rfl, hb2⟩; rw [← HGB.out]; have HB2 := Lib.hid hb2; clear hb2))
  have HK2 := Lib.hid (HK.out.below HB2.out)
  have z2 : w2.cell? ⟨w.heap.size, 2, none⟩ = some (.int .i64 c.kd) := HK2.out.cell 2
  have z11 : w2.cell? ⟨w.heap.size, 11, none⟩ = some (.int .i64 c.pt) := HK2.out.cell 11
  have z13 : w2.cell? ⟨w.heap.size, 13, none⟩ = some (.int .i64 c.er) := HK2.out.cell 13
  have HB3 := Lib.hid (HB.out.trans (HB2.out.mono HB.out.size))
  go_wp2
  all_goals (go_ret; refine ⟨ret_bool ?_, HB3.out⟩; have h3 := HGB.out; simp only [countsE]; clear z2 z11 z13; by_cases hg : goodE c <;> simp [hg] at h3 ⊢ <;> subst h3 <;> simp_all <;> omega)
theorem CallW.key {w : World} {F : Nat → Prop} {c : CallD} {x : CallX} (h : CallW w F c x) : SB w Any (.slice x.kA x.kn x.kc) c.key := SB.mk h.kk h.kl h.kq (h.kr.weak (fun _ _ => trivial))
theorem CallW.val_ {w : World} {F : Nat → Prop} {c : CallD} {x : CallX} (h : CallW w F c x) : SB w Any (.slice x.vA x.vn x.vc) c.val := SB.mk h.vk h.vl h.vq (h.vr.weak (fun _ _ => trivial))
theorem CallW.ans_ {w : World} {F : Nat → Prop} {c : CallD} {x : CallX} (h : CallW w F c x) : SB w Any (.slice x.aA x.an x.ac) c.ans := SB.mk h.ak h.al h.aq (h.ar.weak (fun _ _ => trivial))
set_option maxRecDepth 100000 in
set_option maxHeartbeats 4000000 in
theorem rdoes_any (F : Nat → Prop) (A : Option Addr) (n d : Nat) (m : List Ent) (c : CallD) (x : CallX) (w : World) (h : CallW w F c x) (hm : Ents w Any A n m) (hu : Up m) (hs : Short 1152921504606 m) (hn : n ≤ 1152921504) :
    Calls Try.prog 31 #[.slice A n d, callV c x] w (NewEnts w (doesE m c)) := by
  have HW := Lib.hid h
  have HM := Lib.hid hm
  have HU := Lib.hid hu
  have HS := Lib.hid hs
  clear h hm hu hs
  obtain ⟨gb, hgb⟩ : ∃ gb, gb = decide (countsE c) := ⟨_, rfl⟩
  have HGB := Lib.hid hgb
  clear hgb
  go_enter Try.func31, Try.ntmps31
  go_upto_region 1 with fail
  obtain ⟨w1, hw1⟩ : ∃ W, W = w.alloc (.cells (callCs c x) 48) := ⟨_, rfl⟩
  rw [← hw1]
  have HB : Hid (Below w.heap.size w w1) := Lib.hid (by rw [hw1]; exact (Below.refl _ _).alloc (Nat.le_refl _) _)
  have HK : Hid (Blk w1 w.heap.size 48 (callCs c x)) := Lib.hid (by rw [hw1]; exact Blk.new _ _ _)
  have HAT := Lib.hid (CallAt.of_blk HK.out)
  have HW1 := Lib.hid (HW.out.below HB.out)
  clear hw1
  go_upto_region 2 with (first | (refine wpList_load_call rfl (.tmp 3) rfl rfl HAT.out ?_) | (go_at_call 52; go_loud (refine (counts_any F c x w1 HW1.out).mono ?_); rintro e w2 ⟨rfl, hb2⟩; rw [← HGB.out]; have HB2 := Lib.hid hb2; clear hb2))
  have HK2 := Lib.hid (HK.out.below HB2.out)
  have z2 : w2.cell? ⟨w.heap.size, 2, none⟩ = some (.int .i64 c.kd) := HK2.out.cell 2
  have z3 : w2.cell? ⟨w.heap.size, 3, none⟩ = some (.slice x.kA x.kn x.kc) := HK2.out.cell 3
  have z4 : w2.cell? ⟨w.heap.size, 4, none⟩ = some (.slice x.vA x.vn x.vc) := HK2.out.cell 4
  have HB3 := Lib.hid (HB.out.trans (HB2.out.mono HB.out.size))
  have HW3 := Lib.hid (HW.out.below HB3.out)
  have HM3 := Lib.hid (HM.out.below HB3.out)
  by_cases hc : countsE c
  · have hgt : gb = true := by rw [HGB.out]; simp [hc]
    have HKL : Hid (c.key.length ≤ 1152921504606) := Lib.hid (by have := hc.1.2.1; omega)
    subst hgt
    have HC := Lib.hid hc
    clear hc
    by_cases hk : c.kd = 2
    · have HKD := Lib.hid hk
      rw [hk] at z2
      clear hk
      go_wp2_with (go_at_call 50; go_loud (refine (rput_any A x.kA x.vA n d x.kn x.kc x.vn x.vc m (c.key, c.val) w2 HM3.out HU.out HS.out hn HW3.out.key HW3.out.val_ HKL.out).mono ?_); rintro e w4 ⟨A2, n2, d2, rfl, he2, hb2⟩; have HE2 := Lib.hid he2; have HB4 := Lib.hid hb2; clear he2 hb2)
      go_ret
      exact ⟨A2, n2, d2, rfl, by unfold doesE; rw [if_pos HC.out, if_pos HKD.out]; exact HE2.out, HB3.out.trans (HB4.out.mono HB3.out.size)⟩
    · have HKD := Lib.hid hk
      go_wp2_with (go_at_call 53; go_loud (refine (rcut_any A x.kA n d x.kn x.kc m c.key w2 HM3.out hn HW3.out.key).mono ?_); rintro e w4 ⟨A2, n2, d2, rfl, he2, hb2⟩; have HE2 := Lib.hid he2; have HB4 := Lib.hid hb2; clear he2 hb2)
      go_ret
      exact ⟨A2, n2, d2, rfl, by unfold doesE; rw [if_pos HC.out, if_neg HKD.out]; exact HE2.out, HB3.out.trans (HB4.out.mono HB3.out.size)⟩
  · have hgt : gb = false := by rw [HGB.out]; simp [hc]
    subst hgt
    have HC := Lib.hid hc
    clear hc
    go_wp2
    go_ret
    exact ⟨A, n, d, rfl, by unfold doesE; rw [if_neg HC.out]; exact HM3.out, HB3.out⟩
end Go.Proofs.Ytpbnngfiinihmaa
