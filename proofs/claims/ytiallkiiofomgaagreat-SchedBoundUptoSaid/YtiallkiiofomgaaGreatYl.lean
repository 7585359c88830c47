/- A run that is reckoned out: code. -/
import Derived.Test.YtiallkiiofomgaaGreatYk
import Derived.Scope
namespace Go.Proofs.YtiallkiiofomgaaGreat
section
variable {P : Program} {Wr : Nat → Prop} {lo : Nat} {F : XF} {PU : FuncId → Bool} {lim : Nat}
theorem xO_region (hF : FS P F) (hp : P.follows .mixedOrders = true) {id : Nat} {ops : Array Oper} {d : Bool} {K : Kt} {st : XS} {e : Exit} {st' : XS} {ρ : Rho} {fr : Fr} {H : Hp} (h : xC lo PU P F lim (.region id ops d) st = some (e, st')) (hlo : lo ≤ st.nx) (hh : HR lo Wr ρ st.hp st.nx H) (hfx : FR ρ st.fr fr [])
    (hK : ∀ σ fr' H', ρ.le σ → lo ≤ st'.nx → FR σ st'.fr fr' [] → HR lo Wr σ st'.hp st'.nx H' → K e fr' H') : aC P Wr (.region id ops d) K fr H := by
  unfold xC at h
  split at h
  · rename_i st1 h1
    obtain ⟨hok, h⟩ := bif_some h
    cases h
    cases d with
    | false => exact fun w s own tm ds hst hfr hf hb => wp_region_list (xO_list hF ops.toList h1 hlo hst hfr hf hh hfx hb hK)
    | true =>
      simp only [Bool.not_true, Bool.false_or] at hok
      unfold planOk at hok
      simp only [Bool.and_eq_true] at hok
      obtain ⟨⟨⟨hl, hfl⟩, hs⟩, hok⟩ := hok
      have hl := beq_eq hl
      simp only [cond_true] at h1
      have := yD_sound (K := K) hs hF hK (planOf P ops) (Array.replicate ops.size false) st ρ (by simp) hok (ble_le hfl) h1 hlo (.refl ρ) ops.size none (Array.replicate ops.size false) fr H (by simp [eI, hl]) rfl (Clsd.none_ _) hh (by simpa [eI, dsts] using hfx) (ES.none_ _ _ _ _ _)
      intro w s own tm ds hst hfr hf hb
      have h2 := this { w with drawn := w.drawn + 1 } s own tm ds (hst.heap rfl) hfr hf hb
      refine wp_region_any hp (wpAny_of_X (Q := Post Wr K w s own tm.size ds) (S := Sw { w with drawn := w.drawn + 1 }) (b := nxt (hcOf P PU ops) ops.size (planOf P ops)) _ _ _ _ ?_)
      refine wpX_mono (fun e a w' h => ?_) (fun _ h => h) _ _ _ _ h2
      have x : Ext Wr w s own { w with drawn := w.drawn + 1 } s own := Ext.heap rfl
      exact Post.back x h
  · cases h
theorem xC_sound (hF : FS P F) (hp : P.follows .mixedOrders = true) : ∀ (c : Code) {K : Kt} {st : XS} {e : Exit} {st' : XS} {ρ : Rho} {fr : Fr} {H : Hp}, xC lo PU P F lim c st = some (e, st') → lo ≤ st.nx → HR lo Wr ρ st.hp st.nx H → FR ρ st.fr fr [] →
    (∀ σ fr' H', ρ.le σ → lo ≤ st'.nx → FR σ st'.fr fr' [] → HR lo Wr σ st'.hp st'.nx H' → K e fr' H') → aC P Wr c K fr H
  | .skip, K, st, e, st', ρ, fr, H, h, hlo, hh, hfx, hK => by
    cases h
    exact fun w s own tm ds hst hfr hf _ => wp_skip ⟨trivial, rfl, rfl, fr, s, own, H, Ext.refl .., hst, hfr, hK ρ fr H (.refl ρ) hlo hfx hh⟩
  | .label _, K, st, e, st', ρ, fr, H, h, hlo, hh, hfx, hK => by
    cases h
    exact fun w s own tm ds hst hfr hf _ => wp_label ⟨trivial, rfl, rfl, fr, s, own, H, Ext.refl .., hst, hfr, hK ρ fr H (.refl ρ) hlo hfx hh⟩
  | .exit _, K, st, e, st', ρ, fr, H, h, hlo, hh, hfx, hK => by
    cases h
    exact fun w s own tm ds hst hfr hf _ => wp_exit ⟨trivial, rfl, rfl, fr, s, own, H, Ext.refl .., hst, hfr, hK ρ fr H (.refl ρ) hlo hfx hh⟩
  | .ret, K, st, e, st', ρ, fr, H, h, hlo, hh, hfx, hK => by
    cases h
    exact fun w s own tm ds hst hfr hf _ => wp_ret ⟨trivial, rfl, rfl, fr, s, own, H, Ext.refl .., hst, hfr, hK ρ fr H (.refl ρ) hlo hfx hh⟩
  | .region id ops d, K, st, e, st', ρ, fr, H, h, hlo, hh, hfx, hK => xO_region hF hp h hlo hh hfx hK
  | .seq a b, K, st, e, st', ρ, fr, H, h, hlo, hh, hfx, hK => fun w s own tm ds hst hfr hf hb => by
    simp only [Code.bd, Bool.and_eq_true] at hb
    unfold xC at h
    -- the first part
    cases h1 : xC lo PU P F lim a st with
    | none => rw [h1] at h; cases h
    | some r =>
      obtain ⟨e1, st1⟩ := r
      rw [h1] at h
      have ha := xC_sound hF hp a (K := fun e2 fr' H' => e2 = e1 ∧ ∃ σ, ρ.le σ ∧ lo ≤ st1.nx ∧ FR σ st1.fr fr' [] ∧ HR lo Wr σ st1.hp st1.nx H') h1 hlo hh hfx (fun σ fr' H' k1 k2 k3 k4 => ⟨rfl, σ, k1, k2, k3, k4⟩)
      refine wp_seq (Code.wp_mono (fun e2 a' w' hq => ?_) (ha w s own tm ds hst hfr hf hb.1))
      obtain ⟨h0, g1, g2, fr', s', own', H', hx, hst', hfr', rfl, σ, k1, k2, k3, k4⟩ := hq
      cases e2 with
      | normal =>
        have hbb := xC_sound hF hp b (K := K) h k2 k4 k3 (fun τ fr2 H2 j1 => hK τ fr2 H2 (k1.trans j1))
        have := hbb w' s' own' a'.tmps ds hst' hfr' (fun m hm => hf m (Nat.le_trans hx.size hm)) (by rw [g2]; exact hb.2)
        rw [g2] at this
        rw [← g1] at this ⊢
        exact Code.wp_mono (fun e a w h => Post.back hx h) this
      | _ =>
        cases h
        exact ⟨h0, g1, g2, fr', s', own', H', hx, hst', hfr', hK σ fr' H' k1 k2 k3 k4⟩
  | .cond c a b, K, st, e, st', ρ, fr, H, h, hlo, hh, hfx, hK => fun w s own tm ds hst hfr hf hb => by
    simp only [Code.bd, Bool.and_eq_true] at hb
    obtain ⟨⟨hb1, hb2⟩, hb3⟩ := hb
    unfold xC at h
    split at h
    · rename_i A hA
      have h1 := hfx.ev (x := c) (fun t _ => by simp)
      rw [hA] at h1
      have hr := hfr.eval (ds := ds) hb1
      rw [h1.bool_inv] at hr
      refine wp_cond hr.v_inv ?_
      cases A with
      | true => exact xC_sound hF hp a h hlo hh hfx hK w s own tm ds hst hfr hf hb2
      | false => exact xC_sound hF hp b h hlo hh hfx hK w s own tm ds hst hfr hf hb3
    · cases h
  | .block id b, K, st, e, st', ρ, fr, H, h, hlo, hh, hfx, hK => fun w s own tm ds hst hfr hf hb => by
    unfold xC at h
    cases h1 : xC lo PU P F lim b st with
    | none => rw [h1] at h; cases h
    | some r =>
      obtain ⟨e1, st1⟩ := r
      rw [h1] at h
      have ha := xC_sound hF hp b (K := fun e2 fr' H' => e2 = e1 ∧ ∃ σ, ρ.le σ ∧ lo ≤ st1.nx ∧ FR σ st1.fr fr' [] ∧ HR lo Wr σ st1.hp st1.nx H') h1 hlo hh hfx (fun σ fr' H' k1 k2 k3 k4 => ⟨rfl, σ, k1, k2, k3, k4⟩)
      refine wp_block (Code.wp_mono (fun e2 a' w' hq => ?_) (ha w s own tm ds hst hfr hf hb))
      obtain ⟨h0, g1, g2, fr', s', own', H', hx, hst', hfr', rfl, σ, k1, k2, k3, k4⟩ := hq
      cases e2 with
      | exit i =>
        unfold Exit.inBlock
        dsimp only at h ⊢
        cases hi : Nat.beq i id with
        | true =>
          rw [hi] at h; cases h
          rw [if_pos (beq_eq hi)]
          exact ⟨trivial, g1, g2, fr', s', own', H', hx, hst', hfr', hK σ fr' H' k1 k2 k3 k4⟩
        | false =>
          rw [hi] at h; cases h
          rw [if_neg (fun q => by rw [q, Nat.beq_refl] at hi; cases hi)]
          exact ⟨h0, g1, g2, fr', s', own', H', hx, hst', hfr', hK σ fr' H' k1 k2 k3 k4⟩
      | _ =>
        cases h
        exact ⟨h0, g1, g2, fr', s', own', H', hx, hst', hfr', hK σ fr' H' k1 k2 k3 k4⟩
  | .loop b, K, st, e, st', ρ, fr, H, h, hlo, hh, hfx, hK => by
    have h : xloop (fun st => xC lo PU P F lim b st) lim st = some (e, st') := h
    refine aC.loop (X := Nat × XS × Rho × Fr × Hp) (fun x => x.2.2.2.1) (fun x => x.2.2.2.2) (fun x => xloop (fun st => xC lo PU P F lim b st) x.1 x.2.1 = some (e, st') ∧ lo ≤ x.2.1.nx ∧ HR lo Wr x.2.2.1 x.2.1.hp x.2.1.nx x.2.2.2.2 ∧ FR x.2.2.1 x.2.1.fr x.2.2.2.1 [] ∧ ρ.le x.2.2.1) (fun x => x.1) (lim, st, ρ, fr, H) ⟨h, hlo, hh, hfx, .refl ρ⟩
      (Vs.sub (fun _ => AV.le.refl _) (fun _ _ e => e)) fun x hx => ?_
    obtain ⟨n, stx, ρx, frx, Hx⟩ := x
    obtain ⟨x1, x2, x3, x4, x5⟩ := hx
    cases n with
    | zero => cases x1
    | succ n =>
      unfold xloop at x1
      cases h1 : xC lo PU P F lim b stx with
      | none => rw [h1] at x1; cases x1
      | some r =>
        obtain ⟨e1, st1⟩ := r
        refine xC_sound hF hp b h1 x2 x3 x4 fun σ fr' H' k1 k2 k3 k4 => ?_
        cases e1 with
        | normal =>
          dsimp only at x1
          rw [h1] at x1
          exact ⟨(n, st1, σ, fr', H'), ⟨x1, k2, k4, k3, x5.trans k1⟩, Nat.lt_succ_self n, Vs.sub (fun _ => AV.le.refl _) (fun _ _ e => e)⟩
        | _ =>
          dsimp only at x1
          rw [h1] at x1
          cases x1
          exact hK σ fr' H' (x5.trans k1) k2 k3 k4
  | .rangeFunc .., _, _, _, _, _, _, _, h, _, _, _, _ => by cases h
  | .scope b, K, st, e, st', ρ, fr, H, h, hlo, hh, hfx, hK => fun w s own tm ds hst hfr hf hb => by
    unfold xC at h
    cases h1 : xC lo PU P F lim b st with
    | none => rw [h1] at h; cases h
    | some r =>
      obtain ⟨e1, st1⟩ := r
      rw [h1] at h
      have ha := xC_sound hF hp b (K := fun e2 fr' H' => e2 = e1 ∧ ∃ σ, ρ.le σ ∧ lo ≤ st1.nx ∧ FR σ st1.fr fr' [] ∧ HR lo Wr σ st1.hp st1.nx H') h1 hlo hh hfx (fun σ fr' H' k1 k2 k3 k4 => ⟨rfl, σ, k1, k2, k3, k4⟩)
      refine wp_scope_straight (Code.wp_mono (fun e2 a' w' hq => ?_) (ha w s own tm ds hst hfr hf hb))
      obtain ⟨h0, g1, g2, fr', s', own', H', hx, hst', hfr', rfl, σ, k1, k2, k3, k4⟩ := hq
      cases e2 with
      | goto l => cases h
      | _ =>
        cases h
        exact ⟨h0, g1, g2, fr', s', own', H', hx, hst', hfr', hK σ fr' H' k1 k2 k3 k4⟩
  | .goto _, _, _, _, _, _, _, _, h, _, _, _, _ => by cases h
  | .refuse _, _, _, _, _, _, _, _, h, _, _, _, _ => by cases h
end
end Go.Proofs.YtiallkiiofomgaaGreat
