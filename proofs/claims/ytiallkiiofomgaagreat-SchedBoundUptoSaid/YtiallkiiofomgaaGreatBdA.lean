/- WALKS: may a script be played? (sched.may, coppiceref19.May) -/
import Derived.Test.YtiallkiiofomgaaGreatFaA
namespace Go.Proofs.YtiallkiiofomgaaGreat
open Go.Proofs.Tryz
set_option maxRecDepth 100000
theorem between_any (n a b : Int) (H : Hp) : AC prog 51 [iv n, iv a, iv b] H [] fun _ r H' => r = .v (.bool (decide (a ≤ n) && decide (n ≤ b))) ∧ H' = H := by
  refine AC.of func51 rfl (by kernel_rfl) (by kernel_rfl) fun Wr hW => ?_
  simp
  refine eG.go ?_
  simp
  refine eG.go ?_
  simp
  refine eG.go ?_
  simp
  exact Fin.mk ⟨rfl, rfl⟩
def cfgOk (n l i f b : Int) : Bool := decide (1 ≤ n ∧ n ≤ 65536 ∧ 2 ≤ l ∧ l ≤ 64 ∧ 3 ≤ i ∧ i ≤ 64 ∧ 1 ≤ f ∧ f ≤ l ∧ 1 ≤ b ∧ b ≤ 64)
abbrev cfgA (n l i f b : Int) : AV := .agg [iv n, iv l, iv i, iv f, iv b]
theorem avF {k : AV → Prop} {b : Bool} (h : k (.v (.bool b))) : avif false (.v undef) (.v (.bool b)) k := ⟨(fun q => by cases q), fun _ => h⟩
theorem avT {k : AV → Prop} {b : Bool} (h : k (.v (.bool b))) : avif true (.v (.bool b)) (.v undef) k := ⟨fun _ => h, fun q => by cases q⟩
theorem config_any (n l i f b : Int) (H : Hp) : AC prog 26 [cfgA n l i f b] H [] fun _ r H' => r = iv (if cfgOk n l i f b then 0 else 1) := by
  refine AC.of func26 rfl (by kernel_rfl) (by kernel_rfl) fun Wr hW => ?_
  simp
  refine enew.of fun bc hbc hwc hnc => ?_
  simp
  refine acall.of (between_any n 1 65536 _) fun a H' e => ?_
  obtain ⟨rfl, rfl⟩ := e
  generalize hq1 : (decide (1 ≤ n) && decide (n ≤ 65536)) = q1
  simp
  refine aO.ev ?_
  simp
  cases q1 with
  | false =>
    repeat (first | (refine eG.no ?_; simp) | (refine avF ?_; simp))
    refine aC.ev ?_
    simp
    refine Fin.mk ?_
    have : cfgOk n l i f b = false := decide_eq_false fun h => by simp at hq1; omega
    rw [this]; rfl
  | true =>
    repeat (refine eG.yes ?_; simp)
    refine acall.of (between_any l 2 64 _) fun a H' e => ?_
    obtain ⟨rfl, rfl⟩ := e
    generalize hq2 : (decide (2 ≤ l) && decide (l ≤ 64)) = q2
    simp
    refine aO.ev ?_
    simp
    cases q2 with
    | false =>
      repeat (first | (refine eG.no ?_; simp) | (refine avF ?_; simp))
      refine aC.ev ?_
      simp
      refine Fin.mk ?_
      have : cfgOk n l i f b = false := decide_eq_false fun h => by simp at hq2; omega
      rw [this]; rfl
    | true =>
      repeat (refine eG.yes ?_; simp)
      refine acall.of (between_any i 3 64 _) fun a H' e => ?_
      obtain ⟨rfl, rfl⟩ := e
      generalize hq3 : (decide (3 ≤ i) && decide (i ≤ 64)) = q3
      simp
      refine aO.ev ?_
      simp
      cases q3 with
      | false =>
        repeat (first | (refine eG.no ?_; simp) | (refine avF ?_; simp))
        refine aC.ev ?_
        simp
        refine Fin.mk ?_
        have : cfgOk n l i f b = false := decide_eq_false fun h => by simp at hq3; omega
        rw [this]; rfl
      | true =>
        repeat (refine eG.yes ?_; simp)
        refine acall.of (between_any f 1 l _) fun a H' e => ?_
        obtain ⟨rfl, rfl⟩ := e
        generalize hq4 : (decide (1 ≤ f) && decide (f ≤ l)) = q4
        simp
        refine aO.ev ?_
        simp
        cases q4 with
        | false =>
          repeat (first | (refine eG.no ?_; simp) | (refine avF ?_; simp))
          refine aC.ev ?_
          simp
          refine Fin.mk ?_
          have : cfgOk n l i f b = false := decide_eq_false fun h => by simp at hq4; omega
          rw [this]; rfl
        | true =>
          repeat (refine eG.yes ?_; simp)
          refine acall.of (between_any b 1 64 _) fun a H' e => ?_
          obtain ⟨rfl, rfl⟩ := e
          generalize hq5 : (decide (1 ≤ b) && decide (b ≤ 64)) = q5
          simp
          refine aO.ev ?_
          simp
          refine ⟨fun h => aC.ev ?_, fun h => aC.ev ?_⟩
          · simp
            refine Fin.mk ?_
            have : cfgOk n l i f b = true := decide_eq_true (by subst h; simp at hq1 hq2 hq3 hq4 hq5; omega)
            rw [this]; rfl
          · simp
            refine Fin.mk ?_
            have : cfgOk n l i f b = false := decide_eq_false fun h2 => by subst h; simp at hq5; omega
            rw [this]; rfl
theorem rconfig_any (n l i f b : Int) (H : Hp) : AC prog 27 [cfgA n l i f b] H [] fun _ r H' => r = iv (if cfgOk n l i f b then 0 else 1) := by
  refine AC.of func27 rfl (by kernel_rfl) (by kernel_rfl) fun Wr hW => ?_
  simp
  refine enew.of fun bc hbc hwc hnc => ?_
  simp
  repeat (refine eG.go ?_; simp)
  refine ⟨fun h => aC.ev ?_, ?_⟩
  · simp
    refine Fin.mk ?_
    have : cfgOk n l i f b = false := decide_eq_false (by omega)
    rw [this]; rfl
  · intros
    refine aC.ev ?_
    simp
    refine Fin.mk ?_
    have : cfgOk n l i f b = true := decide_eq_true (by omega)
    rw [this]; rfl
/-- an operation of a script, as far as Bound looks -/
structure OpA where
  a0 : AV
  a1 : AV
  a2 : AV
  a3 : AV
  a4 : AV
  tk : List (List AV)
  a6 : AV
def OpA.row (o : OpA) : List AV := [o.a0, o.a1, o.a2, o.a3, o.a4, .sl false o.tk, o.a6]
abbrev Cl := List OpA
def clRow (c : Cl) : List AV := [.sl false (c.map OpA.row)]
structure ScA where
  n : Int
  l : Int
  i : Int
  f : Int
  b : Int
  first : List (List AV)
  cl : List Cl
  picks : AV
abbrev ScA.cells (s : ScA) : List AV := [iv s.n, iv s.l, iv s.i, iv s.f, iv s.b, .sl false s.first, .sl false (s.cl.map clRow), s.picks]
def ScA.may (s : ScA) : Bool := cfgOk s.n s.l s.i s.f s.b && decide ((s.cl.length : Int) ≤ 16) && decide ((s.first.length : Int) ≤ 256) && !(s.cl.any fun c => decide (256 < (c.length : Int)))
theorem may1_any (c : Cl) (H : Hp) : AC prog 25 [.sl false (c.map OpA.row)] H [] fun _ r H' => r = .v (.bool (decide (256 < (c.length : Int)))) ∧ H' = H := by
  refine AC.of func25 rfl (by kernel_rfl) (by kernel_rfl) fun Wr hW => ?_
  simp
  exact Fin.mk ⟨rfl, rfl⟩
theorem indexc_any (l : List Cl) (hl : l.length ≤ 1048576) (H : Hp) :
    AC prog 50 [.sl false (l.map clRow), .v (.func (.func 25) #[] #[])] H [] fun _ r H' => (∃ k : Int, r = iv k ∧ decide (0 ≤ k) = l.any fun c => decide (256 < (c.length : Int))) ∧ H' = H := by
  refine AC.of func50 rfl (by kernel_rfl) (by kernel_rfl) fun Wr hW => ?_
  simp
  refine aC.loopf (fun j : Nat => [(0, .sl false (l.map clRow)), (1, .v (.func (.func 25) #[] #[])), (7, iv l.length), (8, iv j)]) (fun _ => H) (fun j => j ≤ l.length ∧ (l.any fun c => decide (256 < (c.length : Int))) = ((l.drop j).any fun c => decide (256 < (c.length : Int)))) (fun j => l.length - j) 0 ⟨Nat.zero_le _, by simp⟩ (Vs.to (by simp) (Sub.refl _)) fun j hj => ?_
  obtain ⟨hj, ha⟩ := hj
  simp
  refine ⟨fun h => aC.ev ?_, fun h => aC.ev ?_⟩
  · simp [h, clRow]
    refine acall.of (may1_any l[j] H) fun a H' e => ?_
    obtain ⟨rfl, rfl⟩ := e
    simp
    refine aO.ev ?_
    simp
    have hd : l.drop j = l[j] :: l.drop (j + 1) := (List.getElem_cons_drop h).symm
    rw [hd, List.any_cons] at ha
    refine ⟨fun hc => aC.ev ?_, fun hc => aC.ev ?_⟩
    · simp
      exact Fin.mk ⟨⟨j, rfl, by rw [ha]; simp [hc]⟩, rfl⟩
    · simp
      refine ⟨by omega, j + 1, ⟨by omega, ?_⟩, by omega, Vs.to (by simp) (Sub.refl _)⟩
      rw [ha]; simp; omega
  · obtain rfl : j = l.length := by omega
    simp
    exact Fin.mk ⟨⟨-1, rfl, by rw [ha]; simp⟩, rfl⟩
theorem containsc_any (l : List Cl) (hl : l.length ≤ 1048576) (H : Hp) :
    AC prog 24 [.sl false (l.map clRow), .v (.func (.func 25) #[] #[])] H [] fun _ r H' => r = .v (.bool (l.any fun c => decide (256 < (c.length : Int)))) ∧ H' = H := by
  refine AC.of func24 rfl (by kernel_rfl) (by kernel_rfl) fun Wr hW => ?_
  simp
  refine acall.of (indexc_any l hl H) fun a H' e => ?_
  obtain ⟨⟨k, rfl, hk⟩, rfl⟩ := e
  simp
  refine aO.ev ?_
  simp
  exact Fin.mk ⟨by rw [← hk], rfl⟩
theorem may_any (s : ScA) (hl : s.cl.length ≤ 1048576) (H : Hp) : AC prog 12 [.agg s.cells] H [] fun _ r H' => r = .v (.bool s.may) := by
  refine AC.of func12 rfl (by kernel_rfl) (by kernel_rfl) fun Wr hW => ?_
  simp
  refine enew.of fun bc hbc hwc hnc => ?_
  simp
  have hc := containsc_any s.cl hl
  unfold ScA.may
  generalize (s.cl.any fun c => decide (256 < (c.length : Int))) = q at hc
  refine acall.of (hc _) fun a H' e => ?_
  obtain ⟨rfl, rfl⟩ := e
  simp
  refine aO.ev ?_
  simp
  refine acall.of (AC.pure_ (R := fun r => r = iv (if cfgOk s.n s.l s.i s.f s.b then 0 else 1)) (config_any s.n s.l s.i s.f s.b _)) fun a H' e => ?_
  obtain ⟨rfl, rfl⟩ := e
  generalize cfgOk s.n s.l s.i s.f s.b = g
  simp
  refine aO.ev ?_
  cases g with
  | false =>
    simp
    repeat (first | (refine eG.no ?_; simp) | (refine avF ?_; simp))
    exact Fin.mk rfl
  | true =>
    simp
    iterate 4 (refine eG.yes ?_; simp)
    iterate 4 (refine eG.go ?_; simp)
    iterate 2 (refine eG.go ?_; simp)
    exact Fin.mk rfl
end Go.Proofs.YtiallkiiofomgaaGreat
