/- WALKS: coppiceref19.Fair. -/
import Derived.Test.YtiallkiiofomgaaGreatFaA
namespace Go.Proofs.YtiallkiiofomgaaGreat
open Go.Proofs.Tryz
set_option maxRecDepth 100000
theorem fairR_true {c : Nat} {w : Int} {l : List Int} (h : ∀ k, k < c → fairR1 w k 0 l = true) : fairR c w l = true := by
  unfold fairR
  rw [List.all_eq_true]
  exact fun k hk => h k (List.mem_range.1 hk)
theorem fairR_false {c k : Nat} {w : Int} {l : List Int} (hk : k < c) (h : fairR1 w k 0 l = false) : fairR c w l = false := by
  cases e : fairR c w l with
  | false => rfl
  | true =>
    unfold fairR at e
    rw [List.all_eq_true] at e
    rw [e k (List.mem_range.2 hk)] at h
    cases h
theorem fairR1_stop {w c run p : Int} {r : List Int} {run' : Int} (he : (if p = c then 0 else run + 1) = run') (h : w ≤ run') : fairR1 w c run (p :: r) = false := by
  unfold fairR1
  dsimp only
  rw [he, if_pos h]
theorem fairR1_on {w c run p : Int} {r : List Int} {run' : Int} (he : (if p = c then 0 else run + 1) = run') (h : ¬ w ≤ run') : fairR1 w c run (p :: r) = fairR1 w c run' r := by
  conv => lhs; unfold fairR1
  dsimp only
  rw [he, if_neg h]
theorem rfair_any (l : List Int) (hl : l.length ≤ 1048576) (c w : Int) (H : Hp) :
    AC prog 9 [its l, iv c, iv w] H [] fun _ r _ => r = .v (.bool (fairA c w l)) := by
  refine AC.of func9 rfl (by kernel_rfl) (by kernel_rfl) fun Wr hW => ?_
  simp
  refine eG.go ?_
  simp
  refine eG.go ?_
  simp
  refine eG.go ?_
  simp
  refine eG.go ?_
  simp
  refine eG.go ?_
  simp
  refine eG.go ?_
  simp
  refine ⟨fun hc => aC.ev ?_, fun hc0 hc1 hw0 hw1 => aC.ev ?_⟩
  · simp
    exact Fin.mk (by rw [fairA_no (by omega)])
  obtain ⟨n, rfl⟩ : ∃ n : Nat, c = n := ⟨c.toNat, by omega⟩
  rw [fairA_yes hc1 hw0 hw1, fair_eq]
  simp
  refine aC.loopf (fun k : Nat => [(0, its l), (1, iv n), (2, iv w), (7, iv k)]) (fun _ => H) (fun k => k ≤ n ∧ ∀ j, j < k → fairR1 w j 0 l = true) (fun k => n - k) 0 ⟨Nat.zero_le _, by simp⟩ (Vs.to (by simp) (Sub.refl _)) fun k hk => ?_
  obtain ⟨hk, hall⟩ := hk
  simp
  refine ⟨fun h => aC.ev ?_, fun h => aC.ev ?_⟩
  · simp
    refine aC.loopf (fun x : Nat × Int => [(0, its l), (1, iv n), (2, iv w), (7, iv k), (8, iv x.2), (9, iv x.1)]) (fun _ => H) (fun x => x.1 ≤ l.length ∧ 0 ≤ x.2 ∧ x.2 ≤ x.1 ∧ fairR1 w k 0 l = fairR1 w k x.2 (l.drop x.1)) (fun x => l.length - x.1) (0, 0) ⟨Nat.zero_le _, by simp, by simp, by simp⟩ (Vs.to (by simp) (Sub.refl _)) fun x hx => ?_
    obtain ⟨j, run⟩ := x
    obtain ⟨hj, hr0, hr1, hf⟩ := hx
    dsimp only at hj hr0 hr1 hf
    simp
    refine ⟨fun h2 => aC.ev ?_, fun h2 => aC.ev ?_⟩
    · have hdr : l.drop j = l[j] :: l.drop (j + 1) := (List.getElem_cons_drop h2).symm
      rw [hdr] at hf
      simp [h2, inl]
      refine ⟨by omega, fun hp => aC.ev ?_, fun hp => aC.ev ?_⟩
      · have he : (if l[j] = (k : Int) then 0 else run + 1) = 0 := if_pos hp
        simp
        refine ⟨fun hq => aC.ev ?_, fun hq => aC.ev ?_⟩
        · simp
          refine Fin.mk ?_
          rw [fairR_false h (by rw [hf, fairR1_stop he hq])]
        · simp
          refine ⟨by omega, j + 1, 0, ⟨by omega, by omega, by omega, ?_⟩, by omega, Vs.to (by simp) (Sub.refl _)⟩
          rw [hf, fairR1_on he (by omega)]
      · have he : (if l[j] = (k : Int) then 0 else run + 1) = run + 1 := if_neg hp
        simp
        refine ⟨fun hq => aC.ev ?_, fun hq => aC.ev ?_⟩
        · simp
          refine Fin.mk ?_
          rw [fairR_false h (by rw [hf, fairR1_stop he hq])]
        · simp
          refine ⟨by omega, j + 1, run + 1, ⟨by omega, by omega, by omega, ?_⟩, by omega, Vs.to (by simp) (Sub.refl _)⟩
          rw [hf, fairR1_on he (by omega)]
    · obtain rfl : j = l.length := by omega
      simp
      refine ⟨by omega, k + 1, ⟨by omega, fun i hi => ?_⟩, by omega, Vs.to (by simp) (Sub.refl _)⟩
      rcases Nat.lt_or_ge i k with h3 | h3
      · exact hall i h3
      · obtain rfl : i = k := by omega
        rw [hf]
        simp [fairR1]
  · obtain rfl : k = n := by omega
    simp
    exact Fin.mk (by rw [fairR_true hall])
end Go.Proofs.YtiallkiiofomgaaGreat
