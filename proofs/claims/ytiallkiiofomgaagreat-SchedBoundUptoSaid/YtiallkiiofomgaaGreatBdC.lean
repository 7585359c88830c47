/- WALKS: the bound, as the reference has it; the statement SchedBound. -/
import Derived.Test.YtiallkiiofomgaaGreatBdB
import Derived.Test.YtiallkiiofomgaaGreatYp
namespace Go.Proofs.YtiallkiiofomgaaGreat
open Go.Proofs.Tryz
set_option maxRecDepth 100000
attribute [-simp] pfa
theorem rbound_any (s : ScA) (w : Int) (hl : s.cl.length ≤ 1048576) (ht : tkS s.cl ≤ 1048576) (H : Hp) : AC prog 7 [.agg s.cells, iv w] H [] fun _ r H' => r = iv (boundS s w) := by
  refine AC.of func7 rfl (by kernel_rfl) (by kernel_rfl) fun Wr hW => ?_
  simp
  refine enew.of fun bc hbc hwc hnc => ?_
  simp
  refine acall.of (AC.pure_ (R := fun r => r = .v (.bool s.may)) (rmay_any s hl _)) fun a H' e => ?_
  obtain ⟨rfl, rfl⟩ := e
  cases hg : s.may with
  | false =>
    have hz : boundS s w = 0 := if_neg fun q => by rw [hg] at q; cases q.1
    rw [hz]
    simp
    refine aO.ev ?_
    simp
    repeat (first | (refine eG.no ?_; simp) | (refine avT ?_; simp))
    refine aC.ev ?_
    simp
    exact Fin.mk rfl
  | true =>
    obtain ⟨⟨hn1, hn2, hl1, hl2⟩, hcl, hc, hns⟩ := may_yes hg
    simp
    refine aO.ev ?_
    simp
    iterate 4 (refine eG.go ?_; simp)
    refine ⟨fun hb => aC.ev ?_, fun hb1 hb2 => aC.ev ?_⟩
    · simp
      exact Fin.mk (by rw [show boundS s w = 0 from if_neg (by omega)])
    · rw [show boundS s w = boundN s.n s.l (nS s.cl) (tkS s.cl) w from if_pos ⟨hg, hb1, hb2⟩]
      simp
      refine aC.loopf (fun j : Nat => [(1, iv w), (2, .v (pv bc)), (6, iv (nS (s.cl.take j))), (7, iv (tkS (s.cl.take j))), (8, iv j)]) (fun _ => hset H bc (.cells 28 s.cells)) (fun j => j ≤ s.cl.length) (fun j => s.cl.length - j) 0 (Nat.zero_le _) (Vs.to (by simp [nS, tkS]) (Sub.refl _)) fun j hj => ?_
      have hn3 : 0 ≤ nS (s.cl.take j) ∧ nS (s.cl.take j) ≤ nS s.cl := sum_take (fun c : Cl => (c.length : Int)) (fun _ => by omega) s.cl j
      have ht3 : 0 ≤ tkS (s.cl.take j) ∧ tkS (s.cl.take j) ≤ tkS s.cl := sum_take tC tC_nn s.cl j
      simp
      refine ⟨fun h => aC.ev ?_, fun h => aC.ev ?_⟩
      · have hn4 : nS (s.cl.take (j + 1)) = nS (s.cl.take j) + s.cl[j].length := sum_succ (fun c : Cl => (c.length : Int)) s.cl j h
        have ht4 : tkS (s.cl.take (j + 1)) = tkS (s.cl.take j) + tC s.cl[j] := sum_succ tC s.cl j h
        have ht5 : 0 ≤ tkS (s.cl.take (j + 1)) ∧ tkS (s.cl.take (j + 1)) ≤ tkS s.cl := sum_take tC tC_nn s.cl (j + 1)
        have hc3 := hc _ (List.getElem_mem h)
        simp [h, clRow]
        refine ⟨by omega, ?_⟩
        refine aC.loopf (fun k : Nat => [(1, iv w), (2, .v (pv bc)), (6, iv (nS (s.cl.take (j + 1)))), (7, iv (tkS (s.cl.take j) + tC (s.cl[j].take k))), (8, iv j), (9, iv k)]) (fun _ => hset H bc (.cells 28 s.cells)) (fun k => k ≤ s.cl[j].length) (fun k => s.cl[j].length - k) 0 (Nat.zero_le _) (Vs.to (by simp [tC, hn4, clRow]) (Sub.refl _)) fun k hk => ?_
        have hk3 : 0 ≤ tC (s.cl[j].take k) ∧ tC (s.cl[j].take k) ≤ tC s.cl[j] := sum_take (fun o : OpA => (o.tk.length : Int)) (fun _ => by omega) s.cl[j] k
        simp [h, clRow]
        refine ⟨fun h2 => aC.ev ?_, fun h2 => aC.ev ?_⟩
        · have hk4 : tC (s.cl[j].take (k + 1)) = tC (s.cl[j].take k) + s.cl[j][k].tk.length := sum_succ (fun o : OpA => (o.tk.length : Int)) s.cl[j] k h2
          have hk5 : 0 ≤ tC (s.cl[j].take (k + 1)) ∧ tC (s.cl[j].take (k + 1)) ≤ tC s.cl[j] := sum_take (fun o : OpA => (o.tk.length : Int)) (fun _ => by omega) s.cl[j] (k + 1)
          have hk6 : tkS (s.cl.take j) + tC (s.cl[j].take (k + 1)) = tkS (s.cl.take j) + tC (s.cl[j].take k) + s.cl[j][k].tk.length := by omega
          simp [h, h2, clRow, OpA.row]
          refine ⟨by omega, by omega, k + 1, by omega, by omega, Vs.to (by simp [hk6]) (Sub.refl _)⟩
        · obtain rfl : k = s.cl[j].length := by omega
          simp
          refine ⟨by omega, j + 1, by omega, by omega, Vs.to (by simp [ht4]) (Sub.refl _)⟩
      · obtain rfl : j = s.cl.length := by omega
        simp only [List.take_length] at *
        generalize nS s.cl = N at *
        generalize tkS s.cl = T at *
        have hN : 0 ≤ N := by omega
        simp [-pnum]
        refine pnum_bd 163840 (by omega) (by omega) fun x1 e1 b1 => ?_
        simp [-pnum]
        refine pnum_bd 163880 (by omega) (by omega) fun x2 e2 b2 => ?_
        simp [-pnum]
        refine pnum_bd 262144 (by omega) (by omega) fun x3 e3 b3 => ?_
        simp [-pnum]
        refine pnum_bd 262160 (by omega) (by omega) fun x4 e4 b4 => ?_
        simp [-pnum]
        refine pnum_bd (163880 * 262160) (by omega) (mul_bd b2.1 b2.2 b4.1 b4.2) fun x5 e5 b5 => ?_
        simp [-pnum]
        refine pnum_bd 196608 (by omega) (by omega) fun x6 e6 b6 => ?_
        simp [-pnum]
        refine pnum_bd (196608 * 64) (by omega) (mul_bd b6.1 b6.2 (by omega) hl2) fun x7 e7 b7 => ?_
        simp [-pnum]
        refine pnum_bd 100000000000 (by omega) (by omega) fun x8 e8 b8 => ?_
        simp [-pnum]
        refine pnum_bd 100000000100 (by omega) (by omega) fun x9 e9 b9 => ?_
        simp [-pnum]
        refine pnum_bd (4096 * 100000000100) (by omega) (mul_bd hN hns b9.1 b9.2) fun x10 e10 b10 => ?_
        simp [-pnum]
        refine pnum_bd 1000000000000000 (by omega) (by omega) fun x11 e11 b11 => ?_
        simp [-pnum]
        refine pnum_bd 8000 (by omega) (by omega) fun x12 e12 b12 => ?_
        simp [-pnum]
        refine pnum_bd (8000 * 163840) (by omega) (mul_bd b12.1 b12.2 b1.1 b1.2) fun x13 e13 b13 => ?_
        simp [-pnum]
        refine pnum_bd 2000000000000000 (by omega) (by omega) fun x14 e14 b14 => ?_
        simp [-pnum]
        refine pnum_bd 2000000000000001 (by omega) (by omega) fun x15 e15 b15 => ?_
        simp [-pnum]
        refine pnum_bd (1000 * 2000000000000001) (by omega) (mul_bd (by omega) hb2 b15.1 b15.2) fun x16 e16 b16 => ?_
        simp
        exact Fin.mk (by rw [e16, e15, e14, e13, e12, e11, e10, e9, e8, e7, e6, e5, e4, e3, e2, e1]; rfl)
theorem schedbound_any (s : ScA) (w : Int) (hl : s.cl.length ≤ 1048576) (ht : tkS s.cl ≤ 1048576) (H : Hp) :
    AC prog 3 [.agg s.cells, iv w] H [] fun _ r _ => r = .v (.bool true) := by
  refine AC.of func3 rfl (by kernel_rfl) (by kernel_rfl) fun Wr hW => ?_
  simp
  refine enew.of fun bc hbc hwc hnc => ?_
  simp
  refine acall.of (AC.pure_ (R := fun r => r = .v (.bool true)) (head_true _)) fun a H' e => ?_
  obtain ⟨rfl, rfl⟩ := e
  simp
  refine aO.ev ?_
  simp
  refine aC.draw [] [] [0, 1, 2, 3, 5, 6, 4, 7, 8, 9, 10] (by kernel_rfl) (by kernel_rfl) _ (by symm; simp only [sel, List.getD_cons_zero, List.getD_cons_succ]; try rfl) ?_
  simp
  iterate 4 (refine eG.yes ?_; simp)
  iterate 1 (refine eG.yes ?_; simp)
  refine acall.of (AC.pure_ (R := fun r => r = iv (boundS s w)) (bound_any s w hl ht _)) fun a H' e => ?_
  obtain ⟨rfl, rfl⟩ := e
  simp
  refine eG.yes ?_
  simp
  refine acall.of (AC.pure_ (R := fun r => r = iv (boundS s w)) (rbound_any s w hl ht _)) fun a H' e => ?_
  obtain ⟨rfl, rfl⟩ := e
  simp
  refine eG.yes ?_
  simp
  exact Fin.mk rfl
end Go.Proofs.YtiallkiiofomgaaGreat
