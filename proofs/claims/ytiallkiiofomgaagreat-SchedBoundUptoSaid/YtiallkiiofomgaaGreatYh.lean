/- A run that is reckoned out: every operation that is no call, together. -/
import Derived.Test.YtiallkiiofomgaaGreatYg
namespace Go.Proofs.YtiallkiiofomgaaGreat
section
variable {P : Program} {s : Sto} {w : World} {own : Nat → Option Nat} {H : Hp} {Wr : Nat → Prop} {lo : Nat} {ρ : Rho} {hp : XH} {nx : Nat}
theorem xmap_sound {o : Oper} {rv rv' : Operand → AV} {ev : Operand → Value} {a : AV} {hp' : XH} {nx' : Nat} (h : xmap lo P rv hp nx o.op = some (a, hp', nx')) (hst : St w s own H) (hf : ∀ m, w.heap.size ≤ m → Wr m) (hh : HR lo Wr ρ hp nx H) (hr : ∀ x ∈ o.op.operands, RA ρ (rv x) (rv' x)) (hrep : ∀ x ∈ o.op.operands, Rep s (rv' x) (ev x)) :
    Done P (xW o.op) Wr (execOp ev o) w s own (XK lo Wr ρ a hp' nx') := by
  have num_ : ∀ x ∈ o.op.operands, ∀ q n, rv x = .v (.int q n) → ev x = .int q n := fun x hx q n e => by
    have h1 := hr x hx
    rw [e] at h1
    have h2 := hrep x hx
    rw [h1.int_inv] at h2
    exact h2.v_inv
  have map_ : ∀ x ∈ o.op.operands, ∀ b, rv x = .v (.map (some b)) → ∃ p, ρ b = some p ∧ ev x = .map (some p.1) := fun x hx b e => by
    have h1 := hr x hx
    rw [e] at h1
    obtain ⟨p, hp', e'⟩ := h1.map_inv
    have h2 := hrep x hx
    rw [e'] at h2
    exact ⟨p, hp', h2.v_inv⟩
  obtain ⟨dst, op, ty, ps, af, gd⟩ := o
  dsimp only at h hr hrep num_ map_ ⊢
  unfold xmap at h
  split at h
  · -- a new map
    rename_i t
    obtain ⟨ht, h⟩ := bif_some h
    cases h
    obtain ⟨b1, b2⟩ := hst.allocO (Wr := Wr) (o := .map #[] 0) (O := .mp [] 0) ⟨if_pos rfl, by simpa using alloc_at w _⟩
    have hb : H w.heap.size = none := hst.fresh.2.1
    refine ⟨.value (.map (some w.heap.size)), _, w.alloc (.map #[] 0), s, _, _, .v (.map (some w.heap.size)), ?_, .inl rfl, b2, b1, .v _, ⟨ρ.set nx (w.heap.size, 0), hh.le_set _, .v _ _ (.m nx (w.heap.size, 0) (if_pos rfl)), hh.new hb (hf _ (Nat.le_refl _)) ⟨rfl, rfl⟩⟩, fun _ b hb => alloc_old w _ hb⟩
    simp only [execOp, Option.map_none, Instr.makeMap, Sem.run_bind, Sem.run_pure, Result.andThen_ok, run_newObj]
    rfl
  · -- a look
    rename_i t m k c
    obtain ⟨ht, h⟩ := bif_opt h
    split at h
    · rename_i b kk e1 e2
      obtain ⟨p, hq0, em⟩ := map_ m (by simp [Op.operands]) b e1
      have ek := num_ k (by simp [Op.operands]) _ _ e2
      split at h
      · rename_i l cl e3
        obtain ⟨q, hq, ho⟩ := hh.obj b _ e3 (by simp)
        rw [hq0] at hq; cases hq
        have hH := ho.mp_inv
        have hw := (hst.obj p.1 _ hH).2
        have hrun := lookup_run (P := P) ht hw kk c
        have run : ∀ v, (Instr.lookup t (ev m) (ev k) c).run P w = .ok v w → (execOp ev ⟨dst, .lookup t m k c, ty, ps, af, gd⟩).run P w = .ok (.value v) w := fun v g => by simp only [execOp, Sem.run_bind, g]; rfl
        rw [← em, ← ek] at hrun
        have h : some ((if c then AV.tup [.v (.int .i64 ((mpFind kk l).getD 0)), .v (.bool (mpFind kk l).isSome)] else .v (.int .i64 ((mpFind kk l).getD 0))), hp, nx) = some (a, hp', nx') := by
          cases hff : mpFind kk l <;> rw [hff] at h <;> cases c <;> exact h
        cases h
        refine ⟨_, _, w, s, own, H, _, run _ hrun, .inl rfl, Ext.refl .., hst, ?_, .same hh (b := if c then AV.tup [.v (.int .i64 ((mpFind kk l).getD 0)), .v (.bool (mpFind kk l).isSome)] else .v (.int .i64 ((mpFind kk l).getD 0))) ?_, fun _ _ _ => rfl⟩
        · cases c with
          | true => exact .tup _ _ rfl (Reps.cons (.v _) (Reps.cons (.v _) (Reps.nil s))).2
          | false => exact .v _
        · cases c with
          | true => exact (RAs.cons (.int ..) (RAs.cons (.bool ..) RAs.nil)).tup
          | false => exact .int ..
      · cases h
    · cases h
  · -- an entry is put
    rename_i t m k v
    obtain ⟨ht, h⟩ := bif_opt h
    split at h
    · rename_i b kk vv e1 e2 e4
      obtain ⟨p, hq0, em⟩ := map_ m (by simp [Op.operands]) b e1
      have ek := num_ k (by simp [Op.operands]) _ _ e2
      have ev' := num_ v (by simp [Op.operands]) _ _ e4
      split at h
      · rename_i l cl e3
        obtain ⟨k1, h⟩ := bif_opt h
        have k1 := ble_le k1
        obtain ⟨q, hq, ho⟩ := hh.obj b _ e3 (by simp)
        rw [hq0] at hq; cases hq
        have hH := ho.mp_inv
        obtain ⟨how, hw⟩ := hst.obj p.1 _ hH
        have hrun := mapUpdate_run (P := P) ht hw kk vv
        rw [← em, ← ek, ← ev'] at hrun
        have hlt : p.1 < w.heap.size := (hst.lt _ _ how).1
        have go : ∀ (l2 : List (Int × Int × Nat)) (c2 : Nat), (Instr.mapUpdate t (ev m) (ev k) (ev v)).run P w = .ok () { w with heap := w.heap.setIfInBounds p.1 (.map (l2.map mpE).toArray c2) } → some (AV.v undef, hp.set b (.mp l2 c2), nx) = some (a, hp', nx') →
            Done P (xW (.mapUpdate t m k v)) Wr (execOp ev ⟨dst, .mapUpdate t m k v, ty, ps, af, gd⟩) w s own (XK lo Wr ρ a hp' nx') := fun l2 c2 g e => by
          cases e
          obtain ⟨b1, b2⟩ := hst.setO (Wr := Wr) (O := .mp l2 c2) how (hh.wr b _ p k1 e3 (by simp) hq0) (w' := { w with heap := w.heap.setIfInBounds p.1 (.map (l2.map mpE).toArray c2) }) (by simp) ⟨rfl, rfl, rfl⟩ (fun b' hb' => by simp [Array.getElem?_setIfInBounds, Ne.symm hb']) ⟨how, by simp [hlt, mpE]⟩
          exact ⟨.skip, undef, _, s, own, _, .v undef, by simp only [execOp, Sem.run_bind, g]; rfl, .inr ⟨rfl, rfl⟩, b2, b1, .v _, ⟨ρ, .refl ρ, .v _ _ (.k _ rfl), hh.upd e3 (by simp) hq0 ⟨rfl, rfl⟩⟩, fun e => by cases e⟩
        split at h
        · rename_i u hff
          rw [hff] at hrun
          exact go _ _ hrun h
        · rename_i hff
          rw [hff] at hrun
          exact go _ _ hrun h
      · cases h
    · cases h
  · cases h
theorem xbs_sound {t : TypeId} {n : Nat} {pa : Array (Nat × Operand)} {o : Oper} {rv rv' : Operand → AV} {ev : Operand → Value} {a : AV} {hp' : XH} {nx' : Nat} (ho : o.op = .buildSlice t n pa) (h : xbs (tEz P t) (tE P t) n rv pa.toList hp nx = some (a, hp', nx')) (hst : St w s own H) (hf : ∀ m, w.heap.size ≤ m → Wr m) (hh : HR lo Wr ρ hp nx H) (hr : ∀ x ∈ o.op.operands, RA ρ (rv x) (rv' x)) (hrep : ∀ x ∈ o.op.operands, Rep s (rv' x) (ev x)) :
    Done P false Wr (execOp ev o) w s own (XK lo Wr ρ a hp' nx') := by
  have hin : ∀ p ∈ pa.toList, p.2 ∈ o.op.operands := fun p hp => by rw [ho]; simp only [Op.operands, List.mem_toArray, List.mem_map]; exact ⟨p, hp, rfl⟩
  have hr1 : ∀ p ∈ pa.toList, RA ρ (rv p.2) (nrm (rv' p.2)) := fun p hp => (hr _ (hin p hp)).nrm
  have hrep1 : ∀ p ∈ pa.toList, Rep s (nrm (rv' p.2)) (ev p.2) := fun p hp => nrm_rep (hrep _ (hin p hp))
  unfold xbs at h
  split at h
  · rename_i te sz by_ e1
    have run : ∀ {l : List (List AV)}, xbrow rv sz 0 pa.toList = some l → l.length = n → n * sz ≤ 16777216 → tEz P t = true → ∃ (l' : List (List AV)) (ws : List Value), RAss ρ l l' ∧ (execOp ev o).run P w = .ok (.value (.slice (some ⟨w.heap.size, 0, none⟩) n n)) (w.alloc (.cells ws.toArray te)) ∧ Reps s l'.flatten ws ∧ (∀ x ∈ ws, x.oneCell' = true) ∧ ∀ r ∈ l', r.length = sz := fun {l} e2 g1 g2 g3 => by
      obtain ⟨l', h1, h2⟩ := xbrow_sound (ρ := ρ) (ev := rv) (ev' := fun x => nrm (rv' x)) _ _ _ e2 hr1
      obtain ⟨ws, k1, k2, k3, k4⟩ := bs_run (P := P) (w := w) (rv := fun x => nrm (rv' x)) (ρ := ev) hrep1 e1 h1 (by rw [← h2.1]; exact g1) g2 g3
      exact ⟨l', ws, h2, by simp only [execOp, ho, Sem.run_bind, k1]; rfl, k2, k3, k4⟩
    split at h
    · rename_i e2
      obtain ⟨k1, h⟩ := bif_some h
      cases h
      simp only [Bool.and_eq_true] at k1
      have hn := beq_eq k1.1
      subst hn
      obtain ⟨l', ws, h2, h3, h4, h5, h6⟩ := run e2 rfl (by simp) k1.2
      have hl' := List.eq_nil_of_length_eq_zero h2.1.symm
      subst hl'
      have hws := h4.nil_inv
      subst hws
      obtain ⟨a1, a2⟩ := hst.allocImm (Wr := Wr) te [] (by simp)
      refine ⟨_, _, _, _, _, _, .sl true [], h3, .inl rfl, a2, a1, ?_, .same hh (RAss.sl ⟨rfl, by simp⟩ true), fun _ b hb => alloc_old w _ hb⟩
      exact .sl true [] _ _ 0 0 (fun _ _ => undef) (by simp) (by simp) (by simp) (by simp) (fun _ => rfl)
    · rename_i l hne e2
      obtain ⟨k1, h⟩ := bif_some h
      cases h
      simp only [Bool.and_eq_true, Bool.not_eq_true'] at k1
      obtain ⟨⟨⟨k1, k2⟩, k3⟩, k4⟩ := k1
      have k1 := beq_eq k1
      subst k1
      have k2 := ble_le k2
      obtain ⟨l', ws, h2, h3, h4, h5, h6⟩ := run e2 rfl k2 k3
      obtain ⟨a1, a2⟩ := hst.alloc (Wr := Wr) te h4 h5
      have hb : H w.heap.size = none := hst.fresh.2.1
      have hle := hh.le_set (w.heap.size, l.length)
      refine ⟨_, _, _, s, _, _, _, h3, .inl rfl, a2, a1, .v _, ⟨ρ.set nx (w.heap.size, l.length), hle, .v _ _ (.s nx 0 _ 0 _ (w.heap.size, l.length) (if_pos rfl) (Nat.le_refl _) (.inr ⟨rfl, fun _ => rfl⟩)), hh.new hb (hf _ (Nat.le_refl _)) ⟨rfl, (h2.flat.mono hle).p, fun _ => ?_⟩⟩, fun _ b hb => alloc_old w _ hb⟩
      rw [flat_len h6, ← h2.1]
    · cases h
  · cases h
theorem xop_sound {o : Oper} {rv rv' : Operand → AV} {ev : Operand → Value} {a : AV} {hp' : XH} {nx' : Nat} (h : xop lo P rv hp nx o.op = some (a, hp', nx')) (hst : St w s own H) (hf : ∀ m, w.heap.size ≤ m → Wr m) (hh : HR lo Wr ρ hp nx H) (hr : ∀ x ∈ o.op.operands, RA ρ (rv x) (rv' x)) (hrep : ∀ x ∈ o.op.operands, Rep s (rv' x) (ev x)) :
    Done P (xW o.op) Wr (execOp ev o) w s own (XK lo Wr ρ a hp' nx') := by
  have pure_ : ∀ {op : Op}, o.op = op → xkeep hp nx (xpop P rv op) = some (a, hp', nx') → isPure op = true → isW op = xW op → Done P (xW o.op) Wr (execOp ev o) w s own (XK lo Wr ρ a hp' nx') := fun {op} eo e hp hw => by
    obtain ⟨e1, rfl, rfl⟩ := xkeep_inv e
    rw [← eo] at e1 hp hw
    obtain ⟨x, b, h1, h2, h3⟩ := pop_sound hrep (xpop_sound (k := fun b => XK lo Wr ρ a hp' nx' b H) e1 hr fun b hb => .same hh hb)
    exact ⟨_, x, w, s, own, H, b, h1 w, .inl rfl, Ext.refl .., hst, h2, h3, fun _ _ _ => rfl⟩
  obtain ⟨dst, op, ty, ps, af, gd⟩ := o
  dsimp only at h hr hrep pure_ ⊢
  have nr : ∀ x ∈ op.operands, Rep s (nrm (rv' x)) (ev x) := fun x hx => nrm_rep (hrep x hx)
  cases op <;> try exact pure_ rfl h rfl rfl
  case load t x =>
    obtain ⟨e1, rfl, rfl⟩ := xkeep_inv h
    exact Done.of_eop (o := ⟨dst, .load t x, ty, ps, af, gd⟩) (rv := rv') hst hf hrep (xld_sound e1 hh (hr x (by simp [Op.operands])).nrm fun b hb => .same hh hb) rfl
  case store t x y =>
    have h : (match xst lo (tS P t) (rv x) (rv y) hp with | some hp => some (AV.v undef, hp, nx) | none => none) = some (a, hp', nx') := h
    split at h
    · rename_i hp2 e1
      cases h
      exact Done.of_eop (o := ⟨dst, .store t x y, ty, ps, af, gd⟩) (rv := rv') hst hf hrep (xst_sound e1 hh (hr x (by simp [Op.operands])).nrm (hr y (by simp [Op.operands])).nrm fun H' hH' => ⟨ρ, .refl ρ, .v _ _ (.k _ rfl), hH'⟩) rfl
    · cases h
  case alloc t => exact Done.of_eop (o := ⟨dst, .alloc t, ty, ps, af, gd⟩) (rv := rv') hst hf hrep (xnew_sound h hh fun l e => xzc_sound e) rfl
  case box t x => exact Done.of_eop (o := ⟨dst, .box t x, ty, ps, af, gd⟩) (rv := rv') hst hf hrep (xnew_sound h hh fun l e => xavc_sound e (hr x (by simp [Op.operands])).nrm) rfl
  case makeSlice t x y =>
    refine Done.of_eop (o := ⟨dst, .makeSlice t x y, ty, ps, af, gd⟩) (rv := rv') hst hf hrep ?_ rfl
    have h : xmk (tE P t) (xZe P (tE P t)) (num (rv x)) (num (rv y)) hp nx = some (a, hp', nx') := h
    show emk (tE P t) (tZe P (tE P t)) Wr (num (nrm (rv' x))) (num (nrm (rv' y))) H _
    have hz : ∀ l, xZe P (tE P t) = some l → ∃ l', tZe P (tE P t) = some l' ∧ RAs ρ l l' := fun l e => by
      cases he : tE P t with
      | none => rw [he] at e; cases e
      | some q => rw [he] at e; exact xzc_sound e
    obtain ⟨n1, n2, e1, e2⟩ := xmk_some h
    rw [e1, e2] at h
    rw [num_sound e1 (hr x (by simp [Op.operands])).nrm, num_sound e2 (hr y (by simp [Op.operands])).nrm]
    exact xmk_sound h hh hz
  case buildSlice t n pa => exact xbs_sound (o := ⟨dst, .buildSlice t n pa, ty, ps, af, gd⟩) rfl h hst hf hh hr hrep
  case makeMap t r => exact xmap_sound (o := ⟨dst, .makeMap t r, ty, ps, af, gd⟩) h hst hf hh hr hrep
  case lookup t m k c => exact xmap_sound (o := ⟨dst, .lookup t m k c, ty, ps, af, gd⟩) h hst hf hh hr hrep
  case mapUpdate t m k v => exact xmap_sound (o := ⟨dst, .mapUpdate t m k v, ty, ps, af, gd⟩) h hst hf hh hr hrep
  case convert t u x =>
    have hx := hr x (by simp [Op.operands])
    have hxr := hrep x (by simp [Op.operands])
    have h : (bif (tI P t).isSome && (tI P u).isSome then xkeep hp nx (xcvt (tN P t) (tI P u) (rv x))
      else bif Nat.beq t u then xmark lo (tE P t) (tU8 P t) (rv x) hp nx
      else bif tU8 P t && Nat.beq (tN P u) 7 then (match xstr hp (rv x) with
        | some l => some (AV.v (.string ⟨l.toArray⟩), hp, nx)
        | none => none)
      else none) = some (a, hp', nx') := h
    show Done P (Nat.beq t u) Wr _ w s own _
    cases c1 : (tI P t).isSome && (tI P u).isSome with
    | true =>
      rw [c1] at h
      obtain ⟨e1, rfl, rfl⟩ := xkeep_inv h
      obtain ⟨v, b, h1, h2, h3⟩ := pop_sound (P := P) (o := ⟨dst, .convert t u x, ty, ps, af, gd⟩) (rv := rv') (k := fun b => XK lo Wr ρ a hp' nx' b H) hrep (xcvt_sound (k := fun b => XK lo Wr ρ a hp' nx' b H) e1 hx.nrm fun b hb => XK.same hh hb)
      exact ⟨_, v, w, s, own, H, b, h1 w, .inl rfl, Ext.refl .., hst, h2, h3, fun _ _ _ => rfl⟩
    | false =>
      rw [c1] at h
      cases c2 : Nat.beq t u with
      | true =>
        rw [c2] at h
        have htu := beq_eq c2
        subst htu
        cases c3 : tU8 P t with
        | true =>
          rw [c3] at h
          exact xmark_sound (o := ⟨dst, .convert t t x, ty, ps, af, gd⟩) rfl c3 h hst hh hx hxr
        | false =>
          rw [c3] at h
          simp only [cond_false, cond_true] at h
          unfold xmark at h
          split at h
          · split at h
            · obtain ⟨k, _⟩ := bif_some h; simp at k
            · cases h
          · cases h
      | false =>
        rw [c2] at h
        obtain ⟨k1, h⟩ := bif_opt h
        simp only [Bool.and_eq_true] at k1
        split at h
        · rename_i l e1
          cases h
          exact xstr_sound (o := ⟨dst, .convert t u x, ty, ps, af, gd⟩) rfl k1.1 (beq_eq k1.2) e1 hst hh hx hxr
        · cases h
  case call c =>
    obtain ⟨ce, as_, ts⟩ := c
    have hb : xcb lo P rv hp nx ce as_.toList ts.toList = some (a, hp', nx') := h
    have hpu : ∀ {l ts'}, xkeep hp nx (xcl P rv ce l ts') = some (a, hp', nx') → l = as_.toList → ts' = ts.toList → Done P (xW (.call ⟨ce, as_, ts⟩)) Wr (execOp ev ⟨dst, .call ⟨ce, as_, ts⟩, ty, ps, af, gd⟩) w s own (XK lo Wr ρ a hp' nx') := fun {l ts'} e el et => by
      subst el et
      obtain ⟨e1, rfl, rfl⟩ := xkeep_inv e
      have e1' : xpop P rv (.call ⟨ce, as_, ts⟩) = some a := e1
      obtain ⟨v, b, h1, h2, h3⟩ := pop_sound (P := P) (o := ⟨dst, .call ⟨ce, as_, ts⟩, ty, ps, af, gd⟩) (rv := rv') (k := fun b => XK lo Wr ρ a hp' nx' b H) hrep (xpop_sound (k := fun b => XK lo Wr ρ a hp' nx' b H) e1' hr fun b hb => .same hh hb)
      exact ⟨_, v, w, s, own, H, b, h1 w, .inl rfl, Ext.refl .., hst, h2, h3, fun _ _ _ => rfl⟩
    clear h pure_
    unfold xcb at hb
    have ea : as_ = as_.toList.toArray := by simp
    have et : ts = ts.toList.toArray := by simp
    generalize as_.toList = as' at *
    generalize ts.toList = ts' at *
    subst ea et
    split at hb
    · rename_i x y t u
      have hg := xap_sound hb hh (hr x (by simp [Op.operands, Call.operands])).nrm (hr y (by simp [Op.operands, Call.operands])).nrm
      obtain ⟨w', s', own', H', r, b, h1, h2, h3, h4, h5⟩ := eapG_sound (ty := ty) hst hf (nr x (by simp [Op.operands, Call.operands])) (fun m sz e he htn hm hs => by
        obtain ⟨te, by_, he⟩ := he
        rw [he] at e
        exact asrcG_sound htn hst (nr y (by simp [Op.operands, Call.operands])) e hm hs) hg
      refine ⟨.value r, r, w', s', own', H', b, ?_, .inl rfl, h3, h2, h4, h5, fun e => by cases e⟩
      simp only [execOp, resolve, invoke, builtin, Sem.run_bind, Sem.run_pure, Result.andThen_ok, List.map_toArray, List.map_cons, List.map_nil, h1]
    · rename_i x y t u
      split at hb
      · rename_i b0 hp2 e1
        cases hb
        have hg := xcp_sound e1 hh (hr x (by simp [Op.operands, Call.operands])).nrm (hr y (by simp [Op.operands, Call.operands])).nrm
        obtain ⟨w', H', r, b, h1, h2, h3, h4, h5⟩ := ecpG_sound (ty := ty) hst (nr x (by simp [Op.operands, Call.operands])) (fun m sz e he htn hm hs => by
          obtain ⟨te, by_, he⟩ := he
          rw [he] at e
          exact asrcG_sound htn hst (nr y (by simp [Op.operands, Call.operands])) e hm hs) hg
        refine ⟨.value r, r, w', s, own, H', b, ?_, .inl rfl, h3, h2, h4, h5, fun e => by cases e⟩
        simp only [execOp, resolve, invoke, builtin, Sem.run_bind, Sem.run_pure, Result.andThen_ok, List.map_toArray, List.map_cons, List.map_nil, h1]
      · cases hb
    · exact hpu hb rfl rfl
end
end Go.Proofs.YtiallkiiofomgaaGreat
