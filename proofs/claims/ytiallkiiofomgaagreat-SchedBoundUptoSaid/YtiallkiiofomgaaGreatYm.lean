/- A run that is reckoned out: functions. -/
import Derived.Test.YtiallkiiofomgaaGreatYl
import Derived.Defers
namespace Go.Proofs.YtiallkiiofomgaaGreat
section
variable {P : Program} {Wr : Nat → Prop} {lo : Nat} {F : XF} {PU : FuncId → Bool} {lim : Nat} {pu : Option Tmp → Bool} {ops : Array Oper}
-- what stands below lo
theorem xrun_g (hF : FS P F) {o : Oper} {st st' : XS} (h : xrun lo P F pu o st = some st') (hlo : lo ≤ st.nx) : XG lo st.hp st.nx st'.hp st'.nx := by
  unfold xrun at h
  split at h
  · rename_i a hp' nx' e
    cases h
    split at e
    · rename_i c hc
      cases hic : isCall (.call c) with
      | false => rw [hic] at e; exact xop_g (P := P) (rv := xev st.fr) (op := .call c) e hlo
      | true =>
        rw [hic] at e
        simp only [cond_true] at e
        have fin : ∀ {g : FuncId} {xs : List AV}, F g xs st.hp st.nx (bif pu o.dst then st.nx else lo) = some (a, hp', nx') → XG lo st.hp st.nx hp' nx' := fun {g xs} e1 => by
          have hlo' : (bif pu o.dst then st.nx else lo) ≤ st.nx := by cases pu o.dst <;> simp [hlo]
          have hll : lo ≤ (bif pu o.dst then st.nx else lo) := by cases pu o.dst <;> simp [hlo]
          exact (hF _ _ _ _ _ _ _ _ e1 hlo').1.up hll
        unfold xcall at e
        split at e
        · split at e
          · exact fin e
          · cases e
        · split at e
          · split at e
            · exact fin e
            · cases e
          · cases e
        · cases e
    · exact xop_g e hlo
  · cases h
theorem xstep_g (hF : FS P F) {o : Oper} {st st' : XS} (h : xstep lo P F pu ops o st = some st') (hlo : lo ≤ st.nx) : XG lo st.hp st.nx st'.hp st'.nx := by
  unfold xstep at h
  split at h
  · exact xrun_g hF h hlo
  · split at h
    · split at h
      · rw [Bool.cond_eq_ite] at h
        split at h
        · exact xrun_g hF h hlo
        · cases h; exact .refl ..
      · cases h
    · cases h
theorem xO_g (hF : FS P F) : ∀ (l : List Oper) {st st' : XS}, xO lo P F pu ops l st = some st' → lo ≤ st.nx → XG lo st.hp st.nx st'.hp st'.nx
  | [], _, _, h, _ => by cases h; exact .refl ..
  | o :: l, st, st', h, hlo => by
    unfold xO at h
    split at h
    · rename_i st1 h1
      have g1 := xstep_g hF h1 hlo
      exact g1.trans (xO_g hF l h (Nat.le_trans hlo g1.1))
    · cases h
theorem xloop_g {body : XS → Option (Exit × XS)} (hb : ∀ {st e st'}, body st = some (e, st') → lo ≤ st.nx → XG lo st.hp st.nx st'.hp st'.nx) : ∀ (n : Nat) {st : XS} {e : Exit} {st' : XS}, xloop body n st = some (e, st') → lo ≤ st.nx → XG lo st.hp st.nx st'.hp st'.nx
  | 0, _, _, _, h, _ => by cases h
  | n + 1, st, e, st', h, hlo => by
    unfold xloop at h
    cases h1 : body st with
    | none => rw [h1] at h; cases h
    | some r =>
      obtain ⟨e1, st1⟩ := r
      rw [h1] at h
      have g1 := hb h1 hlo
      cases e1 with
      | normal => exact g1.trans (xloop_g hb n h (Nat.le_trans hlo g1.1))
      | _ => cases h; exact g1
theorem xC_g (hF : FS P F) : ∀ (c : Code) {st : XS} {e : Exit} {st' : XS}, xC lo PU P F lim c st = some (e, st') → lo ≤ st.nx → XG lo st.hp st.nx st'.hp st'.nx
  | .skip, _, _, _, h, _ => by cases h; exact .refl ..
  | .label _, _, _, _, h, _ => by cases h; exact .refl ..
  | .exit _, _, _, _, h, _ => by cases h; exact .refl ..
  | .ret, _, _, _, h, _ => by cases h; exact .refl ..
  | .region _ ops d, st, e, st', h, hlo => by
    unfold xC at h
    split at h
    · rename_i st1 h1
      obtain ⟨_, h⟩ := bif_some h
      cases h
      exact xO_g hF _ h1 hlo
    · cases h
  | .seq a b, st, e, st', h, hlo => by
    unfold xC at h
    cases h1 : xC lo PU P F lim a st with
    | none => rw [h1] at h; cases h
    | some r =>
      obtain ⟨e1, st1⟩ := r
      rw [h1] at h
      have g1 := xC_g hF a h1 hlo
      cases e1 with
      | normal => exact g1.trans (xC_g hF b h (Nat.le_trans hlo g1.1))
      | _ => cases h; exact g1
  | .cond c a b, st, e, st', h, hlo => by
    unfold xC at h
    split at h
    · rename_i A _
      cases A with
      | true => exact xC_g hF a h hlo
      | false => exact xC_g hF b h hlo
    · cases h
  | .block id b, st, e, st', h, hlo => by
    unfold xC at h
    cases h1 : xC lo PU P F lim b st with
    | none => rw [h1] at h; cases h
    | some r =>
      obtain ⟨e1, st1⟩ := r
      rw [h1] at h
      have g1 := xC_g hF b h1 hlo
      cases e1 with
      | exit i =>
        dsimp only at h
        cases hi : Nat.beq i id <;> (rw [hi] at h; cases h; exact g1)
      | _ => cases h; exact g1
  | .loop b, st, e, st', h, hlo => xloop_g (fun h1 h2 => xC_g hF b h1 h2) lim h hlo
  | .scope b, st, e, st', h, hlo => by
    unfold xC at h
    cases h1 : xC lo PU P F lim b st with
    | none => rw [h1] at h; cases h
    | some r =>
      obtain ⟨e1, st1⟩ := r
      rw [h1] at h
      have g1 := xC_g hF b h1 hlo
      cases e1 with
      | goto l => cases h
      | _ => cases h; exact g1
  | .rangeFunc .., _, _, _, h, _ => by cases h
  | .goto _, _, _, _, h, _ => by cases h
  | .refuse _, _, _, _, h, _ => by cases h
-- results
theorem xres_sound {ρ : Rho} {st : XS} {fr : Fr} {nx : Nat} {H : Hp} (hh : HR lo Wr ρ st.hp nx H) (hfx : FR ρ st.fr fr []) : ∀ (l : List ResultVar) {as : List AV}, xres P st l = some as → ∃ bs, ares (P := P) fr H l = some bs ∧ RAs ρ as bs
  | [], as, h => by cases h; exact ⟨[], rfl, RAs.nil⟩
  | .tmp t :: l, as, h => by
    unfold xres at h
    split at h
    · rename_i a e
      rw [Option.map_eq_some_iff] at h
      obtain ⟨m, hm, rfl⟩ := h
      obtain ⟨bs, h1, h2⟩ := xres_sound hh hfx l hm
      exact ⟨_, by unfold ares; rw [h1]; rfl, RAs.cons (hfx t a (by simp) e).nrm h2⟩
    · cases h
  | .cell t T :: l, as, h => by
    unfold xres at h
    split at h
    · rename_i p e
      split at h
      · rename_i a e1
        rw [Option.map_eq_some_iff] at h
        obtain ⟨m, hm, rfl⟩ := h
        obtain ⟨bs, h1, h2⟩ := xres_sound hh hfx l hm
        have hr := (hfx t _ (by simp) e).nrm
        unfold xld at e1
        split at e1
        · rename_i tk b o htk hpp
          rw [hpp] at hr
          obtain ⟨q, hq, hre⟩ := hr.ptr_inv
          split at e1
          · rename_i U sz c e2
            obtain ⟨q', hq', ho⟩ := hh.obj b _ e2 (by simp)
            rw [hq] at hq'; cases hq'
            obtain ⟨m', hm', rl, _⟩ := ho.cells_inv
            unfold ares
            rw [hre]
            dsimp only
            rw [hm']
            dsimp only
            rw [htk]
            unfold xpick1 at e1
            split at e1
            · obtain ⟨b', e3, r3⟩ := rl.get e1
              refine ⟨b' :: bs, ?_, RAs.cons r3 h2⟩
              dsimp only
              rw [e3, h1]; rfl
            · rename_i n
              obtain ⟨k1, rfl⟩ := bif_some e1
              have k1 := ble_le k1
              refine ⟨.agg ((m'.drop o).take n) :: bs, ?_, RAs.cons ((rl.drop o).take (by simp; omega)).agg h2⟩
              dsimp only
              rw [if_pos (Nat.le_trans k1 rl.1), h1]; rfl
          · cases e1
        · rename_i hpp; cases hpp
        · cases e1
      · cases h
    · cases h
theorem xend_run {w : World} {s : Sto} {own : Nat → Option Nat} {ρ : Rho} {st : XS} {fr : Fr} {H : Hp} {tm : Array Value} {fn : Func} {a : AV} {hp' : XH} {nx' : Nat} (h : xend P st fn.results.toList = some (a, hp', nx')) (hst : St w s own H) (hfr : RepF s fr tm) (hfx : FR ρ st.fr fr []) (hh : HR lo Wr ρ st.hp st.nx H) (hb : fn.results.toList.all (fun r => decide (ResultVar.tm r < tm.size)) = true) :
    hp' = st.hp ∧ nx' = st.nx ∧ ∃ v b, (results fn tm).run P w = .ok v w ∧ Rep s b v ∧ RA ρ a b := by
  have go : ∀ {as : List AV}, xres P st fn.results.toList = some as → a = aone as → ∃ v b, (results fn tm).run P w = .ok v w ∧ Rep s b v ∧ RA ρ a b := fun {as} e ea => by
    obtain ⟨bs, h1, h2⟩ := xres_sound hh hfx _ e
    obtain ⟨vs, g1, g2⟩ := ares_sound (P := P) hst hfr fn.results.toList bs hb h1
    have g3 := results_run g1
    refine ⟨vone vs, aone bs, g3, ?_, ?_⟩
    · match bs, vs, g2 with
      | [], vs, g2 => cases g2.nil_inv; exact .tup [] [] rfl (by simp)
      | [a], vs, g2 =>
        obtain ⟨x, ws, rfl, hx, hws⟩ := g2.cons_inv
        cases hws.nil_inv
        exact hx
      | a :: b :: l, vs, g2 =>
        obtain ⟨x, ws, rfl, hx, hws⟩ := g2.cons_inv
        obtain ⟨y, us, rfl, hy, hus⟩ := hws.cons_inv
        exact .tup _ _ g2.1 g2.2
    · rw [ea]
      match as, bs, h2 with
      | [], bs, h2 => cases h2.nil_inv; exact RAs.tup RAs.nil
      | [a], bs, h2 =>
        obtain ⟨x, t, rfl, hx, ht⟩ := h2.cons_inv
        cases ht.nil_inv
        exact hx
      | a :: b :: l, bs, h2 =>
        have h2' := h2
        obtain ⟨x, t, rfl, hx, ht⟩ := h2.cons_inv
        obtain ⟨y, t2, rfl, hy, ht2⟩ := ht.cons_inv
        exact RAs.tup h2'
  unfold xend at h
  split at h
  · rename_i x e
    cases h
    exact ⟨rfl, rfl, go e rfl⟩
  · rename_i l hne e
    cases h
    refine ⟨rfl, rfl, go e ?_⟩
    match l, hne with
    | [], _ => rfl
    | [a], hne => exact absurd rfl (hne a)
    | _ :: _ :: _, _ => rfl
  · cases h
theorem xargs_get : ∀ (l : List AV) (i : Nat) (t : Tr AV) (j : Nat), (xargs i l t).get j = if i ≤ j ∧ j < i + l.length then l[j - i]? else t.get j
  | [], i, t, j => by
    unfold xargs
    rw [if_neg (by simp only [List.length_nil]; omega)]
  | a :: l, i, t, j => by
    unfold xargs
    rw [xargs_get l (i + 1) _ j, Tr.get_set]
    by_cases h1 : j = i
    · subst h1
      rw [if_neg (by omega), if_pos rfl, if_pos (by simp)]
      simp
    · rw [if_neg h1]
      by_cases h2 : i + 1 ≤ j ∧ j < i + 1 + l.length
      · rw [if_pos h2, if_pos (by simp; omega)]
        have : j - i = (j - (i + 1)) + 1 := by omega
        rw [this, List.getElem?_cons_succ]
      · rw [if_neg h2, if_neg (by simp; omega)]
theorem fargs_fr {ρ : Rho} {xs xs' : List AV} (h : RAs ρ xs xs') : FR ρ (xargs 0 xs .e) (fargs xs') [] := fun t x _ e => by
  rw [xargs_get] at e
  split at e
  · obtain ⟨b, hb, r⟩ := h.get (by simpa using e)
    unfold fargs
    rw [List.getD_eq_getElem?_getD, hb]
    exact r
  · cases e
end
end Go.Proofs.YtiallkiiofomgaaGreat
