/- Rows of rows that came in, as abstract values. -/
import Derived.Test.YtiallkiiofomgaaGreatRowV
import Derived.Deep.Slices
namespace Go.Proofs.YtiallkiiofomgaaGreat
open Go.RowKit Go.Deep Go.ChangeShapes Go.WideShapes
theorem spot_of_cell {w : World} {a : Addr} {x : Value} (h : w.cell? a = some x) : a.spot = none := by
  unfold World.cell? at h
  split at h
  · split at h
    · cases h
    · rename_i hs; simpa using hs
  · cases h
theorem addr_addn (b o i : Nat) : (⟨b, o, none⟩ : Addr).add i = ⟨b, o + i, none⟩ := by
  unfold Addr.add
  by_cases h : i = 0 <;> simp [h]
theorem add_0 (a : Addr) : a.add 0 = a := if_pos rfl
theorem rows_rep {w : World} {a : Addr} {len cap es : Nat} (hes : 0 < es) (hl : len ≤ cap) (C : Nat → List Value) (R : Nat → List AV)
    (hC : ∀ i, i < len → (C i).length = es ∧ (R i).length = es ∧ (∀ k, k < es → w.cell? (a.add (i * es + k)) = (C i)[k]?) ∧ (∀ v ∈ C i, v.oneCell' = true) ∧ ∀ (k : Nat) x v, (R i)[k]? = some x → (C i)[k]? = some v → Rep (stoOf w) x v) :
    Rep (stoOf w) (.sl false ((List.range len).map R)) (.slice (some a) len cap) := by
  cases len with
  | zero => exact .nil false (some a) cap (fun h => by cases h) (fun h => by cases h)
  | succ n =>
    have hsp : a.spot = none := by
      obtain ⟨h1, _, h2, _⟩ := hC 0 (by omega)
      have h3 := h2 0 hes
      rw [List.getElem?_eq_getElem (by omega)] at h3
      rw [Nat.zero_mul, Nat.zero_add, add_0] at h3
      exact spot_of_cell h3
    obtain ⟨b, o, sp⟩ := a
    dsimp only at hsp
    subst hsp
    have h := Rep.sl (s := stoOf w) false ((List.range (n + 1)).map R) b o es cap (fun i k => (C i).getD k .nilIface) (fun r hr => by
        obtain ⟨i, hi, rfl⟩ := List.mem_map.1 hr
        exact (hC i (List.mem_range.1 hi)).2.1) (fun i k r hi hk => by
        have hlt : i < n + 1 := by simpa using (List.getElem?_eq_some_iff.1 hi).1
        obtain ⟨h1, _, h2, h3, _⟩ := hC i hlt
        have h4 := h2 k hk
        rw [addr_addn, List.getElem?_eq_getElem (by omega), ← Nat.add_assoc] at h4
        rw [List.getD_eq_getElem?_getD, List.getElem?_eq_getElem (by omega)]
        exact stoOf_cell h4 (h3 _ (List.getElem_mem _))) (fun i k r x hi hx => by
        have hlt : i < n + 1 := by simpa using (List.getElem?_eq_some_iff.1 hi).1
        rw [List.getElem?_map, List.getElem?_range hlt] at hi
        cases hi
        obtain ⟨h1, h1', h2, h3, h4⟩ := hC i hlt
        have hk : k < es := by rw [← h1']; exact (List.getElem?_eq_some_iff.1 hx).1
        have h5 : (C i)[k]? = some (C i)[k] := List.getElem?_eq_getElem (by omega)
        rw [List.getD_eq_getElem?_getD, h5]
        exact h4 k x _ hx h5) (by simpa using hl) (fun h => by cases h)
    simpa using h
section
variable {H : Type} {enc : TypeId × Value → H} {P : Program} {w : World} {base : Nat} {sp : Nat → Bool} {hd : Bool}
theorem trod_int_of {t : TypeId} {k : IntKind} {fuel : Nat} {cs : List Value} {x : DataW H × List MemPlace} (ht : P.underlying t = some (.int k)) (h : DataW.trod enc P w base sp hd fuel t cs = some x) : ∃ n, cs = [.int k n] := by
  cases fuel with
  | zero => simp [DataW.trod] at h
  | succ n =>
    unfold DataW.trod at h
    rw [ht] at h
    split at h <;> simp_all
/-- a slice of which the length alone is looked at -/
theorem slice_free {t e : TypeId} {fuel : Nat} {cs : List Value} {x : DataW H × List MemPlace} (ht : P.underlying t = some (.slice e)) (hc : 0 < P.cellsOf e) (h : DataW.trod enc P w base sp hd fuel t cs = some x) :
    ∃ (a : Option Addr) (len cap : Nat) (D E : List (DataW H)), cs = [.slice a len cap] ∧ (∀ s, Rep s (.sl false (List.replicate len [])) (.slice a len cap)) ∧ (len = 0 ∨ x.1 = .slice D E ∧ D.length = len) := by
  rcases open_slice ht h with ⟨rfl, rfl⟩ | ⟨a, len, cap, m, n, D, Pl, rfl, hb, hl, hm, hmm, rfl, hx⟩
  · exact ⟨none, 0, 0, [], [], rfl, fun s => .nil false none 0 (fun _ => rfl) (fun _ => rfl), .inl rfl⟩
  · refine ⟨some a, len, cap, _, _, rfl, fun s => ?_, .inr ⟨rfl, by simp⟩⟩
    cases len with
    | zero => exact .nil false (some a) cap (fun h => by cases h) (fun h => by cases h)
    | succ q =>
      have hsp : a.spot = none := by
        obtain ⟨cs', h1, _⟩ := hx 0 (by rw [hmm]; split <;> omega)
        obtain ⟨_, h2, h3⟩ := World.cells?_some h1
        have h4 := h3 0 hc
        rw [List.getElem?_eq_getElem (by omega)] at h4
        rw [Nat.zero_mul, add_0, add_0] at h4
        exact spot_of_cell h4
      obtain ⟨b, o, sp'⟩ := a
      dsimp only at hsp
      subst hsp
      have h := Rep.sl (s := s) false (List.replicate (q + 1) []) b o 0 cap (fun _ _ => .nilIface) (fun r hr => by rw [(List.mem_replicate.1 hr).2]; rfl) (fun i k r hi hk => absurd hk (by omega)) (fun i k r x hi hx => by
        have := List.mem_of_getElem? hi
        rw [(List.mem_replicate.1 this).2] at hx
        simp at hx) (by simpa using hl) (fun h => by cases h)
      simpa using h
end
end Go.Proofs.YtiallkiiofomgaaGreat
