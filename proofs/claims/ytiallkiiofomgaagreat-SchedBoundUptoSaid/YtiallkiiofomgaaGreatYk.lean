/- A run that is reckoned out: a region that draws its order. -/
import Derived.Test.YtiallkiiofomgaaGreatYj
namespace Go.Proofs.YtiallkiiofomgaaGreat
/-- the number of what came up ahead of the plan -/
def eI : Option (Nat × Nat) → List Nat
  | none => []
  | some p => [p.1]
section
variable {P : Program} {Wr : Nat → Prop} {lo : Nat} {F : XF} {pu : Option Tmp → Bool} {ops : Array Oper} {K : Kt}
theorem fls_mem {pl : List Nat} {e : Nat} : e ∈ fls ops pl ↔ e ∈ pl ∧ ∃ o, ops[e]? = some o ∧ isFl o = true := by
  unfold fls
  rw [List.mem_filter]
  constructor
  · rintro ⟨h1, h2⟩
    split at h2
    · rename_i o ho; exact ⟨h1, o, ho, h2⟩
    · cases h2
  · rintro ⟨h1, o, ho, h2⟩
    rw [ho]; exact ⟨h1, h2⟩
theorem isFl_spec {o : Oper} (h : isFl o = true) : ∃ t d, o.op = .alloc t ∧ o.guard = none ∧ o.dst = some d := by
  unfold isFl at h
  split at h
  · rename_i t ht
    simp only [Bool.and_eq_true] at h
    obtain ⟨d, hd⟩ := Option.isSome_iff_exists.1 h.2
    exact ⟨t, d, ht, by simpa using h.1, hd⟩
  · cases h
/-- an allocation came up ahead of the plan -/
def ES (P : Program) (ops : Array Oper) (Wr : Nat → Prop) (E : Option (Nat × Nat)) (pl : List Nat) (hp : XH) (ρ : Rho) (fr : Fr) (H : Hp) : Prop := ∀ e b, E = some (e, b) → e ∈ fls ops pl ∧ ∃ o t d l', ops[e]? = some o ∧ o.op = .alloc t ∧ o.guard = none ∧ o.dst = some d ∧ fr d = .v (.pointer (some ⟨b, 0, none⟩)) ∧ H b = some (.cells t l') ∧ zcells (tZ P t) = some l' ∧ Wr b ∧
  ∀ i O p, hp.get i = some O → O ≠ .gone → ρ i = some p → p.1 ≠ b
theorem ES.none_ (pl : List Nat) (hp : XH) (ρ : Rho) (fr : Fr) (H : Hp) : ES P ops Wr none pl hp ρ fr H := fun _ _ h => by cases h
theorem HR.adopt {ρ : Rho} {hp : XH} {nx : Nat} {H : Hp} (h : HR lo Wr ρ hp nx H) {b : Nat} {O : XO} {A : AO} (hb : ∀ i O p, hp.get i = some O → O ≠ .gone → ρ i = some p → p.1 ≠ b) (hw : Wr b) (hA : H b = some A) (ho : OR (ρ.set nx (b, 0)) (b, 0) O (some A)) : HR lo Wr (ρ.set nx (b, 0)) (hp.set nx O) (nx + 1) H := by
  have h1 : HR lo Wr ρ hp nx (hdel H b) := h.hp_eq fun i O p e g r => if_neg (hb i O p e g r)
  have h2 := h1.new (b := b) (C := 0) (O := O) (A := A) (if_pos rfl) hw ho
  have e : hset (hdel H b) b A = H := by
    funext m; unfold hset hdel; split
    · rename_i q; rw [q, hA]
    · rfl
  rwa [e] at h2
theorem clear_sub {o : Oper} {D D' : List Nat} (h : clear ops o D = true) (k : ∀ d ∈ D', d ∈ D) : clear ops o D' = true := by
  unfold clear at *
  simp only [Bool.and_eq_true] at *
  have nc : ∀ d, (!D.contains d) = true → (!D'.contains d) = true := fun d q => by
    simp only [Bool.not_eq_true', List.contains_eq_mem, decide_eq_false_iff_not] at *
    exact fun q' => q (k d q')
  obtain ⟨⟨h1, h2⟩, h3⟩ := h
  refine ⟨⟨?_, ?_⟩, ?_⟩
  · split at h1
    · exact nc _ h1
    · rfl
  · rw [List.all_eq_true] at *
    intro x hx
    have := h2 x hx
    split at this
    · exact nc _ this
    · rfl
  · split at h3
    · rename_i j wt hg
      split at h3
      · exact nc _ h3
      · rfl
    · rfl
theorem dsts_mem {E : List Nat} {d : Nat} : d ∈ dsts ops E ↔ ∃ e ∈ E, (ops[e]?).bind (·.dst) = some d := by unfold dsts; rw [List.mem_filterMap]
theorem xO_alloc : ∀ (pl : List Nat) {st st' : XS}, xO lo P F pu ops (pl.map fun i => ops.getD i default) st = some st' → ∀ {j : Nat} {o : Oper} {t : TypeId}, j ∈ pl → ops[j]? = some o → o.op = .alloc t → o.guard = none → ∃ m, xzc (tZ P t) = some m
  | [], _, _, _, _, _, _, h, _, _, _ => by cases h
  | i :: pl, st, st', h, j, o, t, hj, ho, hop, hg => by
    rw [List.map_cons] at h
    unfold xO at h
    split at h
    · rename_i st1 h1
      rcases List.mem_cons.1 hj with rfl | hj
      · have e : ops.getD j default = o := by simp [ho]
        rw [e] at h1
        unfold xstep at h1
        rw [hg] at h1
        dsimp only at h1
        unfold xrun at h1
        rw [hop] at h1
        dsimp only [xop] at h1
        cases hz : xzc (tZ P t) with
        | none => rw [hz] at h1; cases h1
        | some m => exact ⟨m, rfl⟩
      · exact xO_alloc pl h hj ho hop hg
    · cases h
theorem fls_cons_le {i : Nat} {pl : List Nat} (h : (fls ops (i :: pl)).length ≤ 1) : (fls ops pl).length ≤ 1 :=
  Nat.le_trans (List.Sublist.length_le (List.Sublist.filter _ (List.sublist_cons_self i pl))) h
/-- a region that draws its order is reckoned rightly -/
theorem yD_sound (hs : Region.noSelect ops = true) (hF : FS P F) {hc : List Nat} {st' : XS} {ρ0 : Rho} (hK : ∀ σ fr' H', ρ0.le σ → lo ≤ st'.nx → FR σ st'.fr fr' [] → HR lo Wr σ st'.hp st'.nx H' → K .normal fr' H') :
    ∀ (pl : List Nat) (L : Array Bool) (st : XS) (ρ : Rho), L.size = ops.size → okX P ops hc pu L pl = true → (fls ops pl).length ≤ 1 → xO lo P F pu ops (pl.map fun i => ops.getD i default) st = some st' → lo ≤ st.nx → ρ0.le ρ →
      ∀ (f : Nat) (E : Option (Nat × Nat)) (listed : Array Bool) (fr : Fr) (H : Hp), f + (eI E).length = pl.length → listed = lst L (eI E) → Clsd .any ops listed → HR lo Wr ρ st.hp st.nx H → FR ρ st.fr fr (dsts ops (eI E)) → ES P ops Wr E pl st.hp ρ fr H →
        aD P Wr ops K (nxt hc ops.size pl) f listed fr H
  | [], L, st, ρ, hL, hok, _, hx, hlo, hle => by
    intro f E listed fr H hfe hl hcl hh hfx hES
    have hE : E = none := by
      cases E with
      | none => rfl
      | some p => simp [eI] at hfe
    subst hE
    have hf0 : f = 0 := by simpa [eI] using hfe
    subst hf0
    cases hx
    intro w s own tm ds hst hfr hf hbd
    unfold okX at hok
    subst hl
    exact ⟨by simpa [lst, eI] using hok, trivial, rfl, rfl, fr, s, own, H, Ext.refl .., hst, hfr, hK ρ fr H hle hlo (by simpa [eI, dsts] using hfx) hh⟩
  | i :: pl, L, st, ρ, hL, hok, hfl1, hx, hlo, hle => by
    have hnd := okX_nodup _ _ hok
    have hfresh := okX_fresh _ _ hok
    obtain ⟨o, ho, hclr, hfli, hiL, hok', hrd, hkind⟩ := okX_cons hok
    have hi : i < ops.size := (Array.getElem?_eq_some_iff.1 ho).1
    have hget : ops.getD i default = o := by simp [ho]
    rw [List.map_cons, hget] at hx
    unfold xO at hx
    split at hx
    case h_2 => cases hx
    rename_i st1 hstep
    have hL' : (L.setIfInBounds i true).size = ops.size := by simp [hL]
    have hfl1' := fls_cons_le hfl1
    have ih := fun ρ h1 h2 => yD_sound hs hF hK pl (L.setIfInBounds i true) st1 ρ hL' hok' hfl1' hx h1 h2
    -- it came up ahead of the plan
    have consumed : ∀ (f : Nat) (b : Nat) (listed : Array Bool) (fr : Fr) (H : Hp), f + 1 = (i :: pl).length → listed = lst L [i] → Clsd .any ops listed → HR lo Wr ρ st.hp st.nx H → FR ρ st.fr fr (dsts ops [i]) → ES P ops Wr (some (i, b)) (i :: pl) st.hp ρ fr H → aD P Wr ops K (nxt hc ops.size (i :: pl)) f listed fr H := by
      intro f b listed fr H hfe hl hcl hh hfx hES
      obtain ⟨_, o', t, d, l', h1, h2, h3, h4, h5, h6, h7, h8, h9⟩ := hES i b rfl
      rw [ho] at h1; cases h1
      have hstep' := hstep
      unfold xstep at hstep'
      rw [h3] at hstep'
      dsimp only at hstep'
      unfold xrun at hstep'
      rw [h2] at hstep'
      dsimp only [xop] at hstep'
      cases hz : xzc (tZ P t) with
      | none => rw [hz] at hstep'; cases hstep'
      | some m =>
        rw [hz] at hstep'
        simp only [xnew, h4, Option.some.injEq] at hstep'
        obtain ⟨l2, g1, g2⟩ := xzc_sound (ρ := ρ.set st.nx (b, 0)) hz
        rw [h7] at g1; cases g1
        have hle1 := hh.le_set (b, 0)
        have hh1 : HR lo Wr (ρ.set st.nx (b, 0)) st1.hp st1.nx H := by
          rw [← hstep']
          exact hh.adopt h9 h8 h6 ⟨rfl, g2.p, fun q => absurd rfl q⟩
        have hd : dsts ops [i] = [d] := by simp [dsts, ho, h4]
        have hfx1 : FR (ρ.set st.nx (b, 0)) st1.fr fr (dsts ops (eI none)) := by
          intro u x _ e
          rw [← hstep'] at e
          have e2 : (st.fr.set d (.v (.pointer (some ⟨st.nx, 0, none⟩)))).get u = some x := e
          rw [Tr.get_set] at e2
          by_cases q : u = d
          · rw [if_pos q] at e2
            cases e2
            rw [q, h5]
            exact .v _ _ (.p st.nx 0 (b, 0) (if_pos rfl))
          · rw [if_neg q] at e2
            exact (hfx u x (by rw [hd]; simpa using q) e2).mono hle1
        have hni : hc.contains i = false := hfli (by unfold isFl; rw [h2]; simp [h3, h4])
        rw [nxt_spec, if_neg (by rw [hni]; simp)]
        exact ih (ρ.set st.nx (b, 0)) (by rw [← hstep']; exact Nat.le_succ_of_le hlo) (hle.trans hle1) f none listed fr H (by simpa [eI] using hfe) hl hcl hh1 hfx1 (ES.none_ _ _ _ _ _)
    intro f
    induction f with
    | zero =>
      intro E listed fr H hfe hl hcl hh hfx hES
      cases E with
      | none => simp [eI] at hfe
      | some p =>
        obtain ⟨e, b⟩ := p
        have he : e = i := by
          have h1 := (fls_mem.1 (hES e b rfl).1).1
          have : pl = [] := by simpa [eI] using hfe.symm
          subst this
          simpa using h1
        subst he
        exact consumed 0 b listed fr H (by simpa [eI] using hfe) hl hcl hh hfx hES
    | succ f ihf =>
      intro E listed fr H hfe hl hcl hh hfx hES
      by_cases hiE : i ∈ eI E
      · cases E with
        | none => cases hiE
        | some p =>
          obtain ⟨e, b⟩ := p
          have he : i = e := by simpa [eI] using hiE
          subst he
          exact consumed (f + 1) b listed fr H (by simpa [eI] using hfe) hl hcl hh hfx hES
      -- the plan's next is still to come
      have hrdl : i ∈ Region.ready .any ops listed := by rw [hl]; exact ready_lst hrd hiE
      have hEpl : ∀ e b, E = some (e, b) → e ∈ fls ops pl := fun e b q => by
        have h1 := fls_mem.1 (hES e b q).1
        have hne : e ≠ i := fun q' => hiE (by rw [q, ← q']; simp [eI])
        exact fls_mem.2 ⟨(List.mem_cons.1 h1.1).resolve_left hne, h1.2⟩
      have hEsub : ∀ e ∈ eI E, e ∈ fls ops pl := fun e he => by
        cases E with
        | none => cases he
        | some p => have : e = p.1 := by simpa [eI] using he
                    rw [this]; exact hEpl p.1 p.2 rfl
      have hclr' : clear ops o (dsts ops (eI E)) = true := clear_sub hclr fun d hd => by
        obtain ⟨e, he, hd⟩ := dsts_mem.1 hd
        exact dsts_mem.2 ⟨e, hEsub e he, hd⟩
      have hls : listed.setIfInBounds i true = lst (L.setIfInBounds i true) (eI E) := by
        rw [hl]
        refine arr_ext (by simp [lst_size]) fun k => ?_
        rw [getD_set', lst_getD, lst_getD, getD_set', lst_size]
        by_cases h1 : i = k <;> by_cases h2 : k < L.size <;> by_cases h3 : k ∈ eI E <;> simp_all
      have hlsz : listed.size = ops.size := by rw [hl, lst_size, hL]
      have hcl' : Clsd .any ops (listed.setIfInBounds i true) := hcl.set hrdl
      have hfe' : f + (eI E).length = pl.length := by simp only [List.length_cons] at hfe; omega
      have hES' : ∀ {hp' : XH} {σ : Rho} {fr' : Fr} {H' : Hp}, (∀ e b, E = some (e, b) → ∀ d, fr d = .v (.pointer (some ⟨b, 0, none⟩)) → (∃ o, ops[e]? = some o ∧ o.dst = some d) → fr' d = .v (.pointer (some ⟨b, 0, none⟩))) → (∀ e b A, E = some (e, b) → H b = some A → H' b = some A) → (∀ e b, E = some (e, b) → ∀ i O p, hp'.get i = some O → O ≠ .gone → σ i = some p → p.1 ≠ b) → ES P ops Wr E pl hp' σ fr' H' := fun {hp' σ fr' H'} k1 k2 k3 e b q => by
        obtain ⟨_, o', t, d, l', h1, h2, h3, h4, h5, h6, h7, h8, h9⟩ := hES e b q
        exact ⟨hEpl e b q, o', t, d, l', h1, h2, h3, h4, k1 e b q d h5 ⟨o', h1, h4⟩, k2 e b _ q h6, h7, h8, k3 e b q⟩
      have hfput : ∀ (r : AV), ∀ e b, E = some (e, b) → ∀ d, fr d = .v (.pointer (some ⟨b, 0, none⟩)) → (∃ o, ops[e]? = some o ∧ o.dst = some d) → fput fr o.dst r d = .v (.pointer (some ⟨b, 0, none⟩)) := fun r e b q d h1 ⟨o', h2, h3⟩ => by
        have hdD : d ∈ dsts ops (eI E) := dsts_mem.2 ⟨e, by rw [q]; simp [eI], by rw [h2]; exact h3⟩
        have hne := clear_dst hclr' hdD
        cases hdst : o.dst with
        | none => exact h1
        | some d' =>
          show (if d = d' then r else fr d) = _
          rw [if_neg (fun q' => hne (by rw [hdst, q'])), h1]
      have hnc : ∀ e ∈ fls ops pl, hc.contains e = false := okX_fl pl _ hok'
      intro w s own tm ds hst hfr hf hbd
      have hbo : Oper.bd ops tm.size o = true := List.all_eq_true.1 hbd o (by rw [Array.mem_toList_iff]; exact Array.mem_of_getElem? ho)
      -- what only computes, or loads
      have early01 : xkind P o = 0 ∨ xkind P o = 1 → Region.free .any ops L i = true → hc.contains i = false → (xkind P o = 1 → waits .any ops (nxt hc ops.size pl) i = true) → wpX P .any ops (Post Wr K w s own tm.size ds) (Sw w) (nxt hc ops.size (i :: pl)) (f + 1) listed ⟨tm, ds⟩ w := fun hk hfree hni hw => by
        obtain ⟨a, r, v, e1, hra, hrv, hy⟩ := ystep01 hstep hk hst hfr hh hfx hbo hclr'
        rw [nxt_spec, if_neg (by rw [hni]; simp)]
        have hpnd : pnd (nxt hc ops.size pl) listed = true := by
          unfold pnd
          rcases nxt_mem (hc := hc) (n := ops.size) pl with q | ⟨q1, q2⟩
          · rw [q]; simp [Array.getElem?_eq_none (Nat.le_of_eq hlsz)]
          · have h1 := okX_fresh pl _ hok' _ q1
            have h2 : nxt hc ops.size pl ∉ eI E := fun q => by
              have := hnc _ (hEsub _ q)
              rw [q2] at this; cases this
            rw [hl, lst_getD, if_neg (fun q => h2 q.1)]
            rw [getD_set'] at h1
            have h3 : L.getD (nxt hc ops.size pl) true = false := by split at h1; cases h1; exact h1
            have hlt : nxt hc ops.size pl < L.size := by
              rcases Nat.lt_or_ge (nxt hc ops.size pl) L.size with hl | hl
              · exact hl
              · simp [Array.getElem?_eq_none hl] at h3
            simp [hlt] at h3 ⊢; exact h3
        have hne : nxt hc ops.size pl ≠ i := nxt_ne pl hi (List.nodup_cons.1 hnd).1
        have hnext : aD P Wr ops K (nxt hc ops.size pl) f (listed.setIfInBounds i true) (fput fr o.dst r) H := by
          refine ih ρ (by rw [e1]; exact hlo) hle f E _ _ H hfe' hls hcl' (by rw [e1]; exact hh) (by rw [e1]; exact hfx.put (.refl ρ) o.dst hra) (hES' (hfput r) (fun _ _ _ _ q => q) fun e b q => ?_)
          rw [e1]
          obtain ⟨_, _, _, _, _, _, _, _, _, _, _, _, _, h9⟩ := hES e b q
          exact h9
        have hfree' : ∀ (j : Nat) (oj : Oper), ops[j]? = some oj → j ≠ i → listed.getD j true = false → (∀ e ∈ oj.after, Region.binds .any e = true → e.on ≠ i) → o.apart ops oj = true := fun j oj h1 h2 h3 h4 => by
          refine Region.free_spec ho hfree j oj h1 h2 ?_ h4
          rw [hl, lst_getD] at h3
          split at h3
          · cases h3
          · exact h3
        rcases hy with ⟨k0, hy⟩ | ⟨k1, hy⟩
        · exact yfirst true ho hs hcl hrdl hfree' (.inl rfl) (.inl rfl) hne hst hfr hf hbd (hy.imp (fun ⟨h1, h2⟩ => ⟨h1, fun w _ => h2 w trivial⟩) id) hrv hnext
        · exact yfirst false ho hs hcl hrdl hfree' (.inr (hw k1)) (.inr hpnd) hne hst hfr hf hbd (hy.imp (fun ⟨h1, h2⟩ => ⟨h1, fun w' hw => h2 w' (hw.elim (fun e => by cases e) id)⟩) id) hrv hnext
      rcases hkind with ⟨k0, kf, kn⟩ | ⟨k1, kf, kn, kw⟩ | ⟨kr, kq⟩
      · exact early01 (.inl k0) kf kn (fun q => by rw [k0] at q; cases q)
      · exact early01 (.inr k1) kf kn (fun _ => kw)
      · refine ⟨fun q => (by rw [q] at hrdl; cases hrdl), fun j hj => ?_⟩
        by_cases hji : j = i
        · subst hji
          -- the plan's next
          have hop : ∀ x ∈ o.op.operands, Rep s (aev fr x) (Act.eval ⟨tm, ds⟩ x) := fun x hx => hfr.eval (by
            have := hbo
            unfold Oper.bd at this
            simp only [Bool.and_eq_true] at this
            exact List.all_eq_true.1 this.1.2 x (by simpa using hx))
          have hqb : ∀ {w' : World}, ((xW o.op = false ∧ (isCall o.op = true → pu o.dst = true)) → ∀ b, b < w.heap.size → w'.heap[b]? = w.heap[b]?) → nxt hc ops.size (j :: pl) = j ∨ nxt hc ops.size (j :: pl) = nxt hc ops.size pl ∧ ∀ b, b < w.heap.size → w'.heap[b]? = w.heap[b]? := fun {w'} q => by
            rw [nxt_spec]
            by_cases h : hc.contains j = true
            · rw [if_pos h]; exact .inl rfl
            · rw [if_neg h]; exact .inr ⟨rfl, q (kq.resolve_left h)⟩
          unfold wpOp
          rw [ho]
          dsimp only
          rcases guard_cases hstep hfr hfx hbo hclr' with ⟨hw, hr⟩ | ⟨hw, e1⟩
          · rw [if_pos hw]
            refine .inl (xrun_wp hF hr hlo hst hf hh (clear_ops (ops := ops) hclr' hfx) hop fun a x w' s' own' H' r σ e hlo1 Lf => ?_)
            have hfx1 : FR σ st1.fr (fput fr o.dst r) (dsts ops (eI E)) := by rw [e]; exact hfx.put Lf.le o.dst Lf.ra
            cases hE : E with
            | none =>
              subst hE
              exact yalone hlsz hi hfr hf hbd Lf.ext Lf.st Lf.rep (hqb Lf.still) (ih σ hlo1 (hle.trans Lf.le) f none _ _ H' hfe' hls hcl' Lf.hr hfx1 (ES.none_ _ _ _ _ _))
            | some p =>
              obtain ⟨e0, b⟩ := p
              obtain ⟨_, o', t, d, l', h1, h2, h3, h4, h5, h6, h7, h8, h9⟩ := hES e0 b hE
              have hob : own b = some b := (hst.obj b _ h6).1
              obtain ⟨fr1, fr2⟩ := Lf.frame b hob h9
              have hst2 : St w' s' own' (hset H' b (.cells t l')) := ⟨Lf.st.imm, Lf.st.lt, Lf.st.idem, fun m O hm => by
                unfold hset at hm
                split at hm
                · rename_i q; cases hm; subst q
                  exact (hst.obj m _ h6).keep Lf.ext.le fr1
                · exact Lf.st.obj m O hm⟩
              have hh2 : HR lo Wr σ st1.hp st1.nx (hset H' b (.cells t l')) := Lf.hr.hp_eq fun i O p e g r => if_neg (fr2 i O p e g r)
              refine yalone hlsz hi hfr hf hbd Lf.ext hst2 Lf.rep (hqb Lf.still) (ih σ hlo1 (hle.trans Lf.le) f E _ _ _ hfe' hls hcl' hh2 hfx1 (hES' (hfput r) (fun e' b' A q q2 => ?_) fun e' b' q => ?_))
              · rw [hE] at q; cases q
                rw [h6] at q2; cases q2
                exact if_pos rfl
              · rw [hE] at q; cases q; exact fr2
          · rw [if_neg (by rw [hw]; simp)]
            refine yalone hlsz hi hfr hf hbd (Ext.refl ..) hst (.v undef) (hqb fun _ _ _ => rfl) (ih ρ (by rw [e1]; exact hlo) hle f E _ _ H hfe' hls hcl' (by rw [e1]; exact hh) (by rw [e1]; exact hfx.put (.refl ρ) o.dst (.v _ _ (.k _ rfl))) (hES' (hfput _) (fun _ _ _ _ q => q) fun e b q => ?_))
            rw [e1]
            obtain ⟨_, _, _, _, _, _, _, _, _, _, _, _, _, h9⟩ := hES e b q
            exact h9
        · -- an allocation ahead of the plan
          have hjf : j ∈ fls ops pl := by
            by_cases hjf : j ∈ fls ops pl
            · exact hjf
            · rw [hl] at hj
              exact absurd (kr j (ready_sub hj hjf hEsub)) hji
          obtain ⟨hjpl, oj, hoj, hfj⟩ := fls_mem.1 hjf
          obtain ⟨t, d, g1, g2, g3⟩ := isFl_spec hfj
          have hjE : j ∉ eI E := fun q => by
            have := ready_unl hj
            rw [hl, lst_getD] at this
            have hlt : j < L.size := by rw [hL]; exact (Array.getElem?_eq_some_iff.1 hoj).1
            rw [if_pos ⟨q, hlt⟩] at this; cases this
          have hE : E = none := by
            cases hE : E with
            | none => rfl
            | some p =>
              have h1 := hEpl p.1 p.2 hE
              have h2 : p.1 ≠ j := fun q => hjE (by rw [hE]; simp [eI, q])
              exfalso
              match hfl : fls ops pl, hfl1', h1, hjf with
              | [], _, h1, _ => cases h1
              | [x], _, h1, hjf => rw [List.mem_singleton] at h1 hjf; exact h2 (h1.trans hjf.symm)
              | _ :: _ :: _, h, _, _ => simp at h
          subst hE
          obtain ⟨m, hm⟩ := xO_alloc pl hx hjpl hoj g1 g2
          obtain ⟨l', hl', _⟩ := xzc_sound (ρ := ρ) hm
          have hw : Region.wanted oj (yielded ops tm) = true := by simp [Region.wanted, g2]
          unfold wpOp
          rw [hoj]
          dsimp only
          rw [if_pos hw]
          have heop : eop P Wr (aev fr) H oj.op fun r H' => ∃ b, H b = none ∧ Wr b ∧ r = .v (.pointer (some ⟨b, 0, none⟩)) ∧ H' = hset H b (.cells t l') := by
            rw [g1]
            have : enew t Wr (zcells (tZ P t)) H fun r H' => ∃ b, H b = none ∧ Wr b ∧ r = .v (.pointer (some ⟨b, 0, none⟩)) ∧ H' = hset H b (.cells t l') := by
              rw [hl']
              exact fun b hb hw => ⟨b, hb, hw, rfl, rfl⟩
            exact this
          refine .inl ((eop_sound (ρ := Act.eval ⟨tm, ds⟩) hst hf (by rw [g1]; simp [Op.operands]) heop).wp fun x w' s' own' H' r hx' hsame hst' hrr hk => ?_)
          obtain ⟨b, hb, hwb, rfl, rfl⟩ := hk
          refine yalone (b' := nxt hc ops.size (i :: pl)) hlsz (Array.getElem?_eq_some_iff.1 hoj).1 hfr hf hbd hx' hst' hrr (.inr ⟨rfl, hsame (by rw [g1]; rfl)⟩) ?_
          have hnb : ∀ i O p, st.hp.get i = some O → O ≠ .gone → ρ i = some p → p.1 ≠ b := fun i O p e g r q => by
            obtain ⟨p', hp', ho'⟩ := hh.obj i O e g
            rw [r] at hp'; cases hp'
            rw [q, hb] at ho'
            exact ho'.none_ g
          refine ihf (some (j, b)) _ _ _ ?_ ?_ (hcl.set hj) (hh.hp_eq fun i O p e g r => if_neg (hnb i O p e g r)) ?_ ?_
          · simp [eI] at hfe ⊢; omega
          · rw [hl]; rfl
          · intro u x hu e
            have hd : u ≠ d := fun q => hu (dsts_mem.2 ⟨j, by simp [eI], by rw [hoj, q]; exact g3⟩)
            rw [g3]
            show RA ρ x (if u = d then _ else fr u)
            rw [if_neg hd]
            exact hfx u x (by simp [eI, dsts]) e
          · intro e' b' q
            cases q
            refine ⟨fls_mem.2 ⟨List.mem_cons_of_mem _ hjpl, oj, hoj, hfj⟩, oj, t, d, l', hoj, g1, g2, g3, ?_, if_pos rfl, hl', hwb, hnb⟩
            rw [g3]; exact if_pos rfl
end
end Go.Proofs.YtiallkiiofomgaaGreat
