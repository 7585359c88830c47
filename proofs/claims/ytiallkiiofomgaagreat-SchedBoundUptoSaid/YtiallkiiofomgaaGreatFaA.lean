/- WALKS: sched.Fair. -/
import Derived.Test.YtiallkiiofomgaaGreatVn
import Derived.Test.YtiallkiiofomgaaGreatVt
import Derived.Test.YtiallkiiofomgaaGreatFaP
namespace Go.Proofs.YtiallkiiofomgaaGreat
open Go.Proofs.Tryz
set_option maxRecDepth 100000
/-- a number -/
abbrev iv (a : Int) : AV := .v (.int .i64 a)
abbrev pv (b : Nat) : Value := .pointer (some ⟨b, 0, none⟩)
theorem clos_any (a i w : Int) (bi bw : Nat) (H : Hp) (hi : H bi = some (.cells 3 [iv i])) (hw : H bw = some (.cells 3 [iv w])) (h1 : 0 ≤ i) (h2 : i ≤ 1048576) (h3 : 1 ≤ w) (h4 : w ≤ 1000) :
    AC prog 15 [iv a, .v (pv bi), .v (pv bw)] H [] fun _ r H' => r = .v (.bool (decide (a ≤ i - w))) ∧ H' = H := by
  refine AC.of func15 rfl (by kernel_rfl) (by kernel_rfl) fun Wr hW => ?_
  simp [hi, hw]
  exact ⟨by omega, Fin.mk ⟨rfl, rfl⟩⟩
theorem index_any (l : List Int) (n : Nat) (hn : n = l.length) (hl : l.length ≤ 1048576) (b bi bw : Nat) (i w : Int) (H : Hp) (hb : H b = some (.cells 3 (l.map iv))) (hi : H bi = some (.cells 3 [iv i])) (hw : H bw = some (.cells 3 [iv w])) (h1 : 0 ≤ i) (h2 : i ≤ 1048576) (h3 : 1 ≤ w) (h4 : w ≤ 1000) :
    AC prog 28 [.v (.slice (some ⟨b, 0, none⟩) n n), .v (.func (.func 15) #[] #[pv bi, pv bw])] H [] fun _ r H' => (∃ k : Int, r = iv k ∧ decide (0 ≤ k) = l.any fun a => decide (a ≤ i - w)) ∧ H' = H := by
  subst hn
  refine AC.of func28 rfl (by kernel_rfl) (by kernel_rfl) fun Wr hW => ?_
  simp
  refine aC.loopf (fun j : Nat => [(0, .v (.slice (some ⟨b, 0, none⟩) l.length l.length)), (1, .v (.func (.func 15) #[] #[pv bi, pv bw])), (7, iv l.length), (8, iv j)]) (fun _ => H) (fun j => j ≤ l.length ∧ (l.any fun a => decide (a ≤ i - w)) = ((l.drop j).any fun a => decide (a ≤ i - w))) (fun j => l.length - j) 0 ⟨Nat.zero_le _, by simp⟩ (Vs.to (by simp) (Sub.refl _)) fun j hj => ?_
  obtain ⟨hj, ha⟩ := hj
  simp
  refine ⟨fun h => aC.ev ?_, fun h => aC.ev ?_⟩
  · simp [h, hb]
    refine acall.of (clos_any l[j] i w bi bw H hi hw h1 h2 h3 h4) fun a H' e => ?_
    obtain ⟨rfl, rfl⟩ := e
    simp
    refine aO.ev ?_
    simp
    have hd : l.drop j = l[j] :: l.drop (j + 1) := (List.getElem_cons_drop h).symm
    rw [hd, List.any_cons] at ha
    refine ⟨fun hc => aC.ev ?_, fun hc => aC.ev ?_⟩
    · simp
      exact Fin.mk ⟨⟨j, rfl, by rw [ha]; simp [hc]⟩, rfl⟩
    · simp
      refine ⟨by omega, j + 1, ⟨by omega, ?_⟩, by omega, Vs.to (by simp) (Sub.refl _)⟩
      rw [ha]; simp; omega
  · obtain rfl : j = l.length := by omega
    simp
    exact Fin.mk ⟨⟨-1, rfl, by rw [ha]; simp⟩, rfl⟩
theorem contains_any (l : List Int) (n : Nat) (hn : n = l.length) (hl : l.length ≤ 1048576) (b bi bw : Nat) (i w : Int) (H : Hp) (hb : H b = some (.cells 3 (l.map iv))) (hi : H bi = some (.cells 3 [iv i])) (hw : H bw = some (.cells 3 [iv w])) (h1 : 0 ≤ i) (h2 : i ≤ 1048576) (h3 : 1 ≤ w) (h4 : w ≤ 1000) :
    AC prog 14 [.v (.slice (some ⟨b, 0, none⟩) n n), .v (.func (.func 15) #[] #[pv bi, pv bw])] H [] fun _ r H' => r = .v (.bool (l.any fun a => decide (a ≤ i - w))) ∧ H' = H := by
  refine AC.of func14 rfl (by kernel_rfl) (by kernel_rfl) fun Wr hW => ?_
  simp
  refine acall.of (index_any l n hn hl b bi bw i w H hb hi hw h1 h2 h3 h4) fun a H' e => ?_
  obtain ⟨⟨k, rfl, hk⟩, rfl⟩ := e
  simp
  refine aO.ev ?_
  simp
  exact Fin.mk ⟨by rw [← hk], rfl⟩
theorem fair_any (l : List Int) (hl : l.length ≤ 1048576) (c w : Int) (H : Hp) :
    AC prog 8 [its l, iv c, iv w] H [] fun _ r _ => r = .v (.bool (fairA c w l)) := by
  refine AC.of func8 rfl (by kernel_rfl) (by kernel_rfl) fun Wr hW => ?_
  simp
  refine enew.of fun bw hbw hww hnw => ?_
  simp
  refine eG.go ?_
  simp
  refine eG.go ?_
  simp
  refine eG.go ?_
  simp
  refine eG.go ?_
  simp
  refine eG.go ?_
  simp
  refine eG.go ?_
  simp
  refine ⟨fun hc => aC.ev ?_, fun hc0 hc1 hw0 hw1 => aC.ev ?_⟩
  · simp
    exact Fin.mk (by rw [fairA_no (by omega)])
  obtain ⟨n, rfl⟩ : ∃ n : Nat, c = n := ⟨c.toNat, by omega⟩
  rw [fairA_yes hc1 hw0 hw1]
  simp
  refine emk.of (by omega) (by omega) (by omega) (by omega) fun b hb hwb hne => ?_
  have hbw' : bw ≠ b := fun q => by rw [← q] at hb; simp [hset] at hb
  simp
  refine aC.loopf (fun i : Nat => [(0, its l), (1, iv n), (5, .v (pv bw)), (7, .v (.slice (some ⟨b, 0, none⟩) n n)), (28, iv n), (29, iv i)]) (fun i => hset (hset H bw (.cells 3 [iv w])) b (.cells 3 ((List.replicate i (-1) ++ List.replicate (n - i) 0).map iv))) (fun i => i ≤ n) (fun i => n - i) 0 (Nat.zero_le _) (Vs.to (by simp) (by simp; exact Sub.refl _)) fun i hi => ?_
  simp
  refine ⟨fun h => aC.ev ?_, fun h => aC.ev ?_⟩
  · simp [h]
    refine ⟨⟨hwb, by omega⟩, by omega, i + 1, by omega, by omega, Vs.to (by simp) ?_⟩
    have e : List.replicate i (iv (-1)) ++ (List.replicate (n - i) (iv 0)).set 0 (AV.v (Value.int IntKind.i64 (-1))) = List.replicate (i + 1) (iv (-1)) ++ List.replicate (n - (i + 1)) (iv 0) := by
      rw [show n - i = (n - (i + 1)) + 1 by omega, List.replicate_succ, List.set_cons_zero, List.replicate_succ' (n := i)]
      simp
    rw [e]; exact Sub.refl _
  · obtain rfl : i = n := by omega
    simp
    refine aC.loopf (fun x : Nat × List Int => [(0, its l), (1, iv i), (5, .v (pv bw)), (7, .v (.slice (some ⟨b, 0, none⟩) i i)), (36, its l), (37, iv l.length), (38, iv x.1)]) (fun x => hset (hset H bw (.cells 3 [iv w])) b (.cells 3 (x.2.map iv))) (fun x => x.1 ≤ l.length ∧ x.2.length = i ∧ fairP i w 0 (List.replicate i (-1)) l = fairP i w x.1 x.2 (l.drop x.1)) (fun x => l.length - x.1) (0, List.replicate i (-1)) ⟨Nat.zero_le _, by simp, by simp⟩ (Vs.to (by simp) (by simp; exact Sub.refl _)) fun x hx => ?_
    obtain ⟨j, last⟩ := x
    obtain ⟨hj, hla, hfa⟩ := hx
    dsimp only at hj hla hfa
    simp
    refine ⟨fun h => aC.ev ?_, fun h => aC.ev ?_⟩
    · simp [h]
      refine enew.of fun bi hbi hwi hni => ?_
      have hib : b ≠ bi := (hni b _ (hset_at ..)).1
      have hiw : bw ≠ bi := (hni bw (.cells 3 [iv w]) (by simp [hset, hbw'])).1
      have hib' := Ne.symm hib
      have hiw' := Ne.symm hiw
      have hbw2 := Ne.symm hbw'
      simp [hwi, inl]
      refine eG.go ?_
      simp
      refine eG.go ?_
      simp
      refine eG.go ?_
      simp
      have hjl : (j : Int) ≤ 1048576 := by omega
      have hdr : l.drop j = l[j] :: l.drop (j + 1) := (List.getElem_cons_drop h).symm
      rw [hdr] at hfa
      refine ⟨fun hp1 hp2 => aC.ev ?_, fun hp => aC.ev ?_⟩
      · have hlast : (if 0 ≤ l[j] ∧ l[j] < (i : Int) then last.set l[j].toNat j else last) = last.set l[j].toNat j := if_pos ⟨hp1, hp2⟩
        have hsl : (last.set l[j].toNat (j : Int)).length = i := by simp [hla]
        have hsub : Sub (hset (hset H bw (.cells 3 [iv w])) b (.cells 3 ((last.set l[j].toNat (j : Int)).map iv))) (hset (hset (hset (hset H bw (.cells 3 [iv w])) b (.cells 3 (last.map iv))) bi (.cells 3 [iv j])) b (.cells 3 ((last.map iv).set l[j].toNat (iv j)))) := by
          rw [hset_comm _ _ _ hib', hset_set, ← List.map_set]
          exact Sub.hset (by simpa [hset, hib'] using hbi)
        by_cases hwj : w ≤ (j : Int) + 1
        · simp [hib, hiw, hib', hiw', hbw', hbw2, hp1, hp2, hwb, hwj]
          refine ⟨by omega, by omega, ?_⟩
          refine eG.yes ?_
          simp
          refine eG.yes ?_
          simp
          refine eG.yes ?_
          simp
          have hcon := contains_any (last.set l[j].toNat (j : Int)) i (hsl).symm (by omega) b bi bw j w
          generalize hq : ((last.set l[j].toNat (j : Int)).any fun a => decide (a ≤ (j : Int) - w)) = q at hcon
          refine acall.of (hcon _ (by simp [hset, List.map_set]) (by simp [hset, hib']) (by simp [hset, hiw, hbw']) (by omega) hjl hw0 hw1) fun a H' e => ?_
          obtain ⟨rfl, rfl⟩ := e
          simp
          refine aO.ev ?_
          simp
          refine ⟨fun ht => aC.ev ?_, fun ht => aC.ev ?_⟩
          · simp
            refine Fin.mk ?_
            rw [hfa, fairP_stop hlast hwj (hq.trans ht)]
          · simp
            refine ⟨by omega, j + 1, (last.set l[j].toNat (j : Int)), ⟨by omega, hsl, ?_⟩, by omega, Vs.to (by simp) ?_⟩
            · rw [hfa, fairP_on hlast (fun q' => by rw [hq, ht] at q'; cases q'.2)]; rfl
            · exact hsub
        · simp [hib, hiw, hib', hiw', hbw', hbw2, hp1, hp2, hwb, hwj]
          refine ⟨by omega, by omega, ?_⟩
          refine eG.no ?_
          simp
          refine eG.no ?_
          simp
          refine eG.no ?_
          simp
          refine ⟨(fun q => by cases q), fun _ => ?_⟩
          simp
          refine aC.ev ?_
          simp
          refine ⟨by omega, j + 1, (last.set l[j].toNat (j : Int)), ⟨by omega, hsl, ?_⟩, by omega, Vs.to (by simp) ?_⟩
          · rw [hfa, fairP_on hlast (fun q' => hwj q'.1)]; rfl
          · exact hsub
      · have hlast : (if 0 ≤ l[j] ∧ l[j] < (i : Int) then last.set l[j].toNat j else last) = last := if_neg (by omega)
        by_cases hwj : w ≤ (j : Int) + 1
        · simp [hib, hiw, hib', hiw', hbw', hbw2, hwj]
          refine ⟨by omega, ?_⟩
          refine eG.yes ?_
          simp
          refine eG.yes ?_
          simp
          refine eG.yes ?_
          simp
          have hcon := contains_any last i (hla).symm (by omega) b bi bw j w
          generalize hq : (last.any fun a => decide (a ≤ (j : Int) - w)) = q at hcon
          refine acall.of (hcon _ (by simp [hset, hib]) (by simp [hset]) (by simp [hset, hiw, hbw']) (by omega) hjl hw0 hw1) fun a H' e => ?_
          obtain ⟨rfl, rfl⟩ := e
          simp
          refine aO.ev ?_
          simp
          refine ⟨fun ht => aC.ev ?_, fun ht => aC.ev ?_⟩
          · simp
            refine Fin.mk ?_
            rw [hfa, fairP_stop hlast hwj (hq.trans ht)]
          · simp
            refine ⟨by omega, j + 1, last, ⟨by omega, hla, ?_⟩, by omega, Vs.to (by simp) ?_⟩
            · rw [hfa, fairP_on hlast (fun q' => by rw [hq, ht] at q'; cases q'.2)]; rfl
            · exact Sub.hset hbi
        · simp [hib, hiw, hib', hiw', hbw', hbw2, hwj]
          refine ⟨by omega, ?_⟩
          refine eG.no ?_
          simp
          refine eG.no ?_
          simp
          refine eG.no ?_
          simp
          refine ⟨(fun q => by cases q), fun _ => ?_⟩
          simp
          refine aC.ev ?_
          simp
          refine ⟨by omega, j + 1, last, ⟨by omega, hla, ?_⟩, by omega, Vs.to (by simp) ?_⟩
          · rw [hfa, fairP_on hlast (fun q' => hwj q'.1)]; rfl
          · exact Sub.hset hbi
    · obtain rfl : j = l.length := by omega
      simp
      refine Fin.mk ?_
      rw [hfa]
      simp [fairP]
end Go.Proofs.YtiallkiiofomgaaGreat
