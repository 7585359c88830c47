/- Fair, in plain Lean: the program's way and the document's say the same. -/
namespace Go.Proofs.YtiallkiiofomgaaGreat
/-- the program's way: at which pick each client was picked last -/
def fairP (c w : Int) : Int → List Int → List Int → Bool
  | _, _, [] => true
  | i, last, p :: r =>
    let last' := if 0 ≤ p ∧ p < c then last.set p.toNat i else last
    if w ≤ i + 1 ∧ (last'.any fun a => decide (a ≤ i - w)) = true then false else fairP c w (i + 1) last' r
/-- the document's: how long a client has not been picked -/
def fairR1 (w c : Int) : Int → List Int → Bool
  | _, [] => true
  | run, p :: r =>
    let run' := if p = c then 0 else run + 1
    if w ≤ run' then false else fairR1 w c run' r
def fairR (c : Nat) (w : Int) (l : List Int) : Bool := (List.range c).all fun k => fairR1 w k 0 l
theorem fair_step (w : Int) (c : Nat) : ∀ (l : List Int) (i : Int) (last : List Int), 0 ≤ i → last.length = c → (∀ a ∈ last, -1 ≤ a) → fairP c w i last l = (List.range c).all fun (k : Nat) => fairR1 w k (i - 1 - last.getD k 0) l
  | [], i, last, _, _, _ => by
    unfold fairP fairR1
    simp
  | p :: r, i, last, hi0, hl, hm => by
    have hi : ∀ last' : List Int, last' = (if 0 ≤ p ∧ p < (c : Int) then last.set p.toNat i else last) → last'.length = c ∧ ∀ k, k < c → (if p = (k : Int) then 0 else i - 1 - last.getD k 0 + 1) = i - last'.getD k 0 := fun last' e => by
      subst e
      refine ⟨by split <;> simp [hl], fun k hk => ?_⟩
      by_cases h : 0 ≤ p ∧ p < (c : Int)
      · rw [if_pos h]
        by_cases hp : p = (k : Int)
        · rw [if_pos hp]
          subst hp
          simp [List.getD_eq_getElem?_getD, List.getElem?_set, hl, hk]
        · rw [if_neg hp]
          have : p.toNat ≠ k := by omega
          simp [List.getD_eq_getElem?_getD, List.getElem?_set, this]
          omega
      · rw [if_neg h]
        by_cases hp : p = (k : Int)
        · omega
        · rw [if_neg hp]; omega
    obtain ⟨hl', hr⟩ := hi _ rfl
    unfold fairP
    dsimp only
    generalize hlast : (if 0 ≤ p ∧ p < (c : Int) then last.set p.toNat i else last) = last' at *
    · have hm' : ∀ a ∈ last', -1 ≤ a := fun a ha => by
        rw [← hlast] at ha
        split at ha
        · rcases List.mem_or_eq_of_mem_set ha with h | h
          · exact hm a h
          · omega
        · exact hm a ha
      have hany : (w ≤ i + 1 ∧ (last'.any fun a => decide (a ≤ i - w)) = true) ↔ ∃ k, k < c ∧ w ≤ i - last'.getD k 0 := by
        constructor
        · rintro ⟨_, h⟩
          obtain ⟨a, ha, h⟩ := List.any_eq_true.1 h
          obtain ⟨k, hk⟩ := List.getElem?_of_mem ha
          refine ⟨k, by rw [← hl']; exact (List.getElem?_eq_some_iff.1 hk).1, ?_⟩
          have h : a ≤ i - w := by simpa using h
          rw [List.getD_eq_getElem?_getD, hk]
          show w ≤ i - a
          omega
        · rintro ⟨k, hk, h⟩
          have hk' : k < last'.length := by omega
          rw [List.getD_eq_getElem?_getD, List.getElem?_eq_getElem hk'] at h
          have h : w ≤ i - last'[k] := h
          have := hm' _ (List.getElem_mem hk')
          exact ⟨by omega, List.any_eq_true.2 ⟨last'[k], List.getElem_mem hk', by simp; omega⟩⟩
      have ih := fair_step w c r (i + 1) last' (by omega) hl' hm'
      have hrhs : ((List.range c).all fun (k : Nat) => fairR1 w k (i - 1 - last.getD k 0) (p :: r)) = true ↔ (¬ ∃ k, k < c ∧ w ≤ i - last'.getD k 0) ∧ ((List.range c).all fun (k : Nat) => fairR1 w k (i + 1 - 1 - last'.getD k 0) r) = true := by
        simp only [List.all_eq_true, List.mem_range]
        have one : ∀ k, k < c → (fairR1 w k (i - 1 - last.getD k 0) (p :: r) = true ↔ ¬ w ≤ i - last'.getD k 0 ∧ fairR1 w k (i + 1 - 1 - last'.getD k 0) r = true) := fun k hk => by
          rw [show fairR1 w k (i - 1 - last.getD k 0) (p :: r) = if w ≤ (if p = (k : Int) then 0 else i - 1 - last.getD k 0 + 1) then false else fairR1 w k (if p = (k : Int) then 0 else i - 1 - last.getD k 0 + 1) r from rfl, hr k hk, show i + 1 - 1 - last'.getD k 0 = i - last'.getD k 0 by omega]
          split <;> simp_all
        constructor
        · intro h
          exact ⟨fun ⟨k, hk, q⟩ => ((one k hk).1 (h k hk)).1 q, fun k hk => ((one k hk).1 (h k hk)).2⟩
        · rintro ⟨h1, h2⟩ k hk
          exact (one k hk).2 ⟨fun q => h1 ⟨k, hk, q⟩, h2 k hk⟩
      by_cases hq : ∃ k, k < c ∧ w ≤ i - last'.getD k 0
      · rw [if_pos (hany.2 hq)]
        cases hb : (List.range c).all fun (k : Nat) => fairR1 w k (i - 1 - last.getD k 0) (p :: r) with
        | true => exact absurd hq (hrhs.1 hb).1
        | false => rfl
      · rw [if_neg (fun h => hq (hany.1 h)), ih]
        cases hb : (List.range c).all fun (k : Nat) => fairR1 w k (i - 1 - last.getD k 0) (p :: r) with
        | true => exact (hrhs.1 hb).2
        | false =>
          cases hb2 : (List.range c).all fun (k : Nat) => fairR1 w k (i + 1 - 1 - last'.getD k 0) r with
          | true => exact absurd (hrhs.2 ⟨hq, hb2⟩) (by rw [hb]; simp)
          | false => rfl
theorem fair_eq (c : Nat) (w : Int) (l : List Int) : fairP c w 0 (List.replicate c (-1)) l = fairR c w l := by
  rw [fair_step w c l 0 _ (by omega) (by simp) (by simp)]
  unfold fairR
  have : ∀ k ∈ List.range c, fairR1 w (k : Nat) (0 - 1 - (List.replicate c (-1 : Int)).getD k 0) l = fairR1 w (k : Nat) 0 l := fun k hk => by
    have hk := List.mem_range.1 hk
    rw [List.getD_eq_getElem?_getD, List.getElem?_replicate, if_pos hk]
    rfl
  rw [Bool.eq_iff_iff]
  simp only [List.all_eq_true]
  exact ⟨fun h k hk => by rw [← this k hk]; exact h k hk, fun h k hk => by rw [this k hk]; exact h k hk⟩
/-- Fair, as both say it -/
def fairA (c w : Int) (l : List Int) : Bool := decide (0 ≤ c ∧ c ≤ 16 ∧ 1 ≤ w ∧ w ≤ 1000) && fairP c w 0 (List.replicate c.toNat (-1)) l
theorem fairA_no {c w : Int} {l : List Int} (h : ¬ (0 ≤ c ∧ c ≤ 16 ∧ 1 ≤ w ∧ w ≤ 1000)) : fairA c w l = false := by
  unfold fairA
  rw [decide_eq_false h]; rfl
theorem fairA_yes {n : Nat} {w : Int} {l : List Int} (h1 : (n : Int) ≤ 16) (h2 : 1 ≤ w) (h3 : w ≤ 1000) : fairA n w l = fairP n w 0 (List.replicate n (-1)) l := by
  unfold fairA
  rw [decide_eq_true ⟨by omega, h1, h2, h3⟩]; rfl
theorem fairP_stop {c w i p : Int} {last r last' : List Int} (he : (if 0 ≤ p ∧ p < c then last.set p.toNat i else last) = last') (h : w ≤ i + 1) (hq : (last'.any fun a => decide (a ≤ i - w)) = true) : fairP c w i last (p :: r) = false := by
  unfold fairP
  dsimp only
  rw [he, if_pos ⟨h, hq⟩]
theorem fairP_on {c w i p : Int} {last r last' : List Int} (he : (if 0 ≤ p ∧ p < c then last.set p.toNat i else last) = last') (h : ¬ (w ≤ i + 1 ∧ (last'.any fun a => decide (a ≤ i - w)) = true)) : fairP c w i last (p :: r) = fairP c w (i + 1) last' r := by
  conv => lhs; unfold fairP
  dsimp only
  rw [he, if_neg h]
end Go.Proofs.YtiallkiiofomgaaGreat
