/- Abstract values: operations that only compute are right (all of them). -/
import Derived.Test.YtiallkiiofomgaaGreatVd
namespace Go.Proofs.YtiallkiiofomgaaGreat
section
variable {P : Program} {s : Sto}
theorem run_bound {v : Option Value} {n y : Int} {yn : Nat} {code : BoundsCode} (q : IntKind) (h0 : 0 ≤ n) (h1 : n ≤ yn) (w : World) : (Instr.sliceBound (.int q n) yn code).run P w = .ok n.toNat w := by
  simp [Instr.sliceBound, Sem.run_bind, asIntOf, h0, h1]
/-- the bounds of a slicing -/
def onV (o : Option Value) (m : Option Int) : Prop := (o = none ∧ m = none) ∨ ∃ q n, o = some (.int q n) ∧ m = some n
theorem run_bounds {b : Bool} {len cap : Nat} {lo hi mx : Option Value} {l h m : Option Int} (hl : onV lo l) (hh : onV hi h) (hm : onV mx m)
    (h0 : 0 ≤ l.getD 0) (h1 : l.getD 0 ≤ h.getD len) (h2 : h.getD len ≤ m.getD cap) (h3 : m.getD cap ≤ cap) (h4 : m = none ∨ h ≠ none) (w : World) :
    (Instr.sliceBounds b len cap lo hi mx).run P w = .ok ((l.getD 0).toNat, (h.getD len).toNat, (m.getD cap).toNat) w := by
  rcases hm with ⟨rfl, rfl⟩ | ⟨qm, nm, rfl, rfl⟩ <;> rcases hh with ⟨rfl, rfl⟩ | ⟨qh, nh, rfl, rfl⟩ <;> rcases hl with ⟨rfl, rfl⟩ | ⟨ql, nl, rfl, rfl⟩ <;>
    (try simp at h4) <;> simp only [Option.getD_some, Option.getD_none] at h0 h1 h2 h3 <;>
    simp [Instr.sliceBounds, Sem.run_bind, Instr.sliceBound, asIntOf] <;> (try omega)
  all_goals (repeat first | rw [if_pos (by omega)] | simp only [Result.andThen_ok, Sem.run_pure, Sem.run_bind])
  all_goals (try (repeat (first | rw [if_pos (by omega)] | rfl)))
theorem sliceAt_eq {t : TypeId} (h : tN P t = 2 ∨ tN P t = 7) (v : Value) (lo hi mx : Option Value) (w : World) : (Instr.sliceAt t v lo hi mx).run P w = (Instr.slice t v lo hi mx).run P w := by
  obtain ⟨d, hd⟩ := tN_und (n := tN P t) rfl (by omega)
  unfold Instr.sliceAt
  rw [Sem.run_bind, und hd]
  cases d <;> first | rfl | (simp [tN, hd] at h)
theorem tN_slice {t e : TypeId} {n b : Nat} (h : tE P t = some (e, n, b)) : tN P t = 2 := by
  obtain ⟨i, hu, -⟩ := tE_spec h
  simp [tN, hu]
theorem run_slice_row {t e : TypeId} {n b : Nat} (he : tE P t = some (e, n, b)) {lo hi mx : Option Value} {l h m : Option Int} (a : Option Addr) (len cap : Nat) (hl : onV lo l) (hh : onV hi h) (hm : onV mx m)
    (h0 : 0 ≤ l.getD 0) (h1 : l.getD 0 ≤ h.getD len) (h2 : h.getD len ≤ m.getD cap) (h3 : m.getD cap ≤ cap) (h4 : m = none ∨ h ≠ none) (w : World) :
    (Instr.sliceAt t (.slice a len cap) lo hi mx).run P w = .ok (.slice (if (m.getD cap).toNat = (l.getD 0).toNat then a else a.map (·.add ((l.getD 0).toNat * n))) ((h.getD len).toNat - (l.getD 0).toNat) ((m.getD cap).toNat - (l.getD 0).toNat)) w := by
  obtain ⟨i, hu, hi', rfl, rfl, hs⟩ := tE_spec he
  rw [sliceAt_eq (.inl (tN_slice he))]
  unfold Instr.slice
  rw [Sem.run_bind, und hu]
  simp only [Result.andThen_ok, Sem.run_bind, run_bounds hl hh hm h0 h1 h2 h3 h4, run_sizeOf' hs]
  rfl
theorem run_slice_str {t : TypeId} (ht : tN P t = 7) {lo hi : Option Value} {l h : Option Int} (a : ByteArray) (hl : onV lo l) (hh : onV hi h)
    (h0 : 0 ≤ l.getD 0) (h1 : l.getD 0 ≤ h.getD a.size) (h2 : h.getD a.size ≤ a.size) (w : World) :
    (Instr.sliceAt t (.string a) lo hi none).run P w = .ok (.string (a.extract (l.getD 0).toNat (h.getD a.size).toNat)) w := by
  rw [sliceAt_eq (.inr ht)]
  obtain ⟨d, hd⟩ := tN_und ht (by decide)
  cases d <;> simp [tN, hd] at ht
  unfold Instr.slice
  rw [Sem.run_bind, und hd]
  simp [Sem.run_bind, run_bounds (b := false) hl hh (.inl ⟨rfl, rfl⟩) h0 h1 h2 (by simp) (.inl rfl)]
theorem psl3_sound {t : TypeId} {x : AV} {v : Value} {k : AV → Prop} {lo hi mx : Option Value} {l h m : Option Int} (hl : onV lo l) (hh : onV hi h) (hm : onV mx m) (r : Rep s x v) (g : psl3 (tN P t) (tE P t) x l h m k) : Pure1 P (Instr.sliceAt t v lo hi mx) s k := by
  unfold psl3 at g
  split at g
  · cases r.v_inv
    obtain ⟨⟨h0, h1, h2, h3, h4⟩, g⟩ := g
    subst h3
    rcases hm with ⟨rfl, -⟩ | ⟨_, _, _, hm⟩
    · exact ⟨_, _, fun w => run_slice_str h4 _ hl hh h0 h1 h2 w, .v _, g⟩
    · cases hm
  · cases r.v_inv
    obtain ⟨⟨h2, he, h3, h4, h5, h6⟩, g⟩ := g
    obtain ⟨⟨e, n, b⟩, he⟩ := Option.isSome_iff_exists.1 he
    refine ⟨_, _, fun w => (run_slice_row he none 0 0 hl hh hm (by omega) (by simp; omega) (by simp; omega) (by simp; omega) h6 w).trans ?_, .v _, g⟩
    simp [h3, h4, h5]
  · cases r.v_inv
    split at g
    · rename_i he
      obtain ⟨⟨h2, h3, h4, h5, h6, h7, h8⟩, g⟩ := g
      refine ⟨_, _, fun w => (run_slice_row he _ _ _ hl hh hm h3 h4 h5 h6 h8 w).trans ?_, .v _, g⟩
      congr 2
      split
      · rename_i h9
        have e0 : (l.getD 0).toNat = 0 := by omega
        rw [e0]; simp
      · simp [addr_add]
    · exact g.elim
  · split at g
    · rename_i ex rw_ _ sz _ hrw he
      obtain ⟨⟨h2, h3, h4, h5, h6, h7, h8⟩, g⟩ := g
      rcases rows_inv r hrw with ⟨rfl, a0, c0, rfl, hn0, hx0⟩ | ⟨b, o, es, c, f, rfl, g1, g2, g3, g4, g5⟩
      · simp only [List.length_nil, Int.natCast_zero] at h4 h5 h6
        have hl0 : l.getD 0 = 0 := by omega
        have hh0 : h.getD 0 = 0 := by omega
        have hmc : h.getD ((0 : Nat) : Int) ≤ m.getD (c0 : Int) ∧ m.getD (c0 : Int) ≤ c0 := by
          cases m with
          | none => simp at h5 h6 ⊢; omega
          | some m => simp at h5 h6 ⊢; omega
        refine ⟨_, _, fun w => run_slice_row he a0 0 c0 hl hh hm h3 (by simpa using h4) hmc.1 hmc.2 h7 w, ?_, g⟩
        have e1 : (l.getD 0).toNat = 0 := by omega
        have e2 : (h.getD ((0 : Nat) : Int)).toNat = 0 := by simp; omega
        rw [e1, e2]
        simp only [List.take_nil, List.drop_nil, Nat.sub_zero]
        refine .nil _ _ _ (fun e => ?_) (fun e => ?_)
        · have ha : a0 = none := by
            split at e
            · exact e
            · cases a0 with
              | none => rfl
              | some a => cases e
          have := hn0 ha
          omega
        · unfold slx at e
          split at e
          · have := hx0 e; subst this; rfl
          · rename_i m' h'
            have : m' = h' := by simpa using e
            subst this
            simp at hh0 ⊢; omega
          · cases e
      · have hlen : ((rw_.take (h.getD rw_.length).toNat).drop (l.getD 0).toNat).length = (h.getD rw_.length).toNat - (l.getD 0).toNat := by simp; omega
        have hc : m.getD (c : Int) ≤ c ∧ h.getD rw_.length ≤ m.getD (c : Int) := by
          cases m with
          | none => simp at h5 h6 ⊢; omega
          | some m => simp at h5 h6 ⊢; omega
        refine ⟨_, _, fun w => (run_slice_row he (some ⟨b, o, none⟩) rw_.length c hl hh hm h3 h4 hc.2 hc.1 h7 w).trans rfl, ?_, g⟩
        rw [← hlen]
        have hg : ∀ (i : Nat) r, ((rw_.take (h.getD rw_.length).toNat).drop (l.getD 0).toNat)[i]? = some r → rw_[(l.getD 0).toNat + i]? = some r := by
          intro i r e
          rw [List.getElem?_drop, List.getElem?_take] at e
          split at e
          · exact e
          · cases e
        have hcap : ((rw_.take (h.getD rw_.length).toNat).drop (l.getD 0).toNat).length ≤ (m.getD (c : Int)).toNat - (l.getD 0).toNat := by rw [hlen]; omega
        have hex : slx ex m h = true → (m.getD (c : Int)).toNat - (l.getD 0).toNat = ((rw_.take (h.getD rw_.length).toNat).drop (l.getD 0).toNat).length := by
          intro e
          rw [hlen]
          cases m <;> cases h <;> simp [slx] at e ⊢
          · have := g5 e; omega
          · subst e; rfl
        by_cases e0 : ((rw_.take (h.getD rw_.length).toNat).drop (l.getD 0).toNat) = []
        · rw [e0] at hcap hex ⊢
          split
          · exact .sl _ [] b o es _ (fun _ _ => undef) (by simp) (by simp) (by simp) hcap hex
          · simp only [Option.map_some, addr_add]
            exact .sl _ [] b _ es _ (fun _ _ => undef) (by simp) (by simp) (by simp) hcap hex
        · have e1 : ((rw_.take (h.getD rw_.length).toNat).drop (l.getD 0).toNat).length ≠ 0 := fun e => e0 (List.eq_nil_of_length_eq_zero e)
          have hlt : 0 < rw_.length := by
            rcases Nat.eq_zero_or_pos rw_.length with e | e
            · exact absurd (by simp [List.eq_nil_of_length_eq_zero e]) e0
            · exact e
          have hes : sz = es := by rw [← h8 _ (List.getElem_mem hlt), g1 _ (List.getElem_mem hlt)]
          rw [if_neg (by omega)]
          simp only [Option.map_some, addr_add]
          refine .sl _ _ b (o + (l.getD 0).toNat * sz) es _ (fun i k => f ((l.getD 0).toNat + i) k) (fun r hr => g1 r (List.mem_of_mem_take (List.mem_of_mem_drop hr))) (fun i k r e hk => ?_) (fun i k r a e ha => g3 _ k r a (hg i r e) ha) hcap hex
          have := g2 _ k r (hg i r e) hk
          rw [← this, hes, Nat.add_mul]
          congr 1
          omega
    · exact g.elim
end
end Go.Proofs.YtiallkiiofomgaaGreat
