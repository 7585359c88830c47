/- A run that is reckoned out: append, copy, rows that are written out, marks, strings. -/
import Derived.Test.YtiallkiiofomgaaGreatYd
import Derived.Laws.BytesArg
namespace Go.Proofs.YtiallkiiofomgaaGreat
section
variable {lo : Nat} {Wr : Nat → Prop} {ρ : Rho} {hp : XH} {nx : Nat} {H : Hp}
theorem RAp.rows {l m : List AV} (sz : Nat) : ∀ (n : Nat) {l m : List AV}, RAp ρ l m → n * sz ≤ l.length → RAss ρ (rowsOf sz n l) (rowsOf sz n m)
  | 0, _, _, _, _ => ⟨rfl, by simp [rowsOf]⟩
  | n + 1, l, m, h, hl => by
    rw [Nat.add_mul, Nat.one_mul] at hl
    obtain ⟨i1, i2⟩ := RAp.rows (l := l) (m := m) sz n (h.drop sz) (by simp; omega)
    refine ⟨by simp [rowsOf, i1], fun i r t e g => ?_⟩
    cases i with
    | zero =>
      simp [rowsOf] at e g
      subst e g
      exact h.take (by omega)
    | succ i => exact i2 i r t (by simpa [rowsOf] using e) (by simpa [rowsOf] using g)
theorem RAss.refl_byt (l : List UInt8) : RAss ρ (l.map byt) (l.map byt) := ⟨rfl, fun i r t e g => by
  rw [e] at g; cases g
  rw [List.getElem?_map, Option.map_eq_some_iff] at e
  obtain ⟨b, _, rfl⟩ := e
  exact RAs.cons (.int ..) RAs.nil⟩
theorem xsrc_sound {sz : Nat} {y y' : AV} {m : List (List AV)} (h : xsrc sz hp y = some m) (hh : HR lo Wr ρ hp nx H) (hy : RA ρ y y') : ∃ m', asrcG sz H y' = some m' ∧ RAss ρ m m' := by
  unfold xsrc at h
  split at h
  · cases h
    rw [hy.nil_inv]
    exact ⟨[], rfl, rfl, by simp⟩
  · rename_i b o n c
    obtain ⟨p, c', hp', _, _, rfl⟩ := hy.sli_inv
    split at h
    · rename_i T s l e
      obtain ⟨h1, rfl⟩ := bif_some h
      have h1 := ble_le h1
      obtain ⟨q, hq, ho⟩ := hh.obj b _ e (by simp)
      rw [hp'] at hq; cases hq
      obtain ⟨m', hm, hl, _⟩ := ho.cells_inv
      refine ⟨rowsOf sz n (m'.drop o), ?_, RAp.rows (l := l) (m := m') sz n (hl.drop o) (by simp; omega)⟩
      unfold asrcG
      simp only [hm]
      rw [if_pos (by have := hl.1; omega)]
    · cases h
  · cases h
    rw [hy.str_inv]
    exact ⟨_, rfl, RAss.refl_byt _⟩
  · cases h
    obtain ⟨m', hm, rfl⟩ := hy.sl_inv
    exact ⟨m', rfl, hm⟩
  · cases h
def szOf : Option (TypeId × Nat × Nat) → Nat
  | some (_, sz, _) => sz
  | none => 0
theorem xgrow_sound {te sz n : Nat} {l l' : List AV} {a : AV} {hp' : XH} {nx' : Nat} (h : xgrow te sz n l hp nx = some (a, hp', nx')) (hh : HR lo Wr ρ hp nx H) (hl : RAs ρ l l') : egrow te sz Wr n l' H (XK lo Wr ρ a hp' nx') := by
  unfold xgrow at h
  obtain ⟨h1, h2⟩ := bif_some h
  cases h2
  have h1 := beq_eq h1
  intro b c hb hw hn h0
  have hle := hh.le_set (b, c)
  refine ⟨ρ.set nx (b, c), hle, .v _ _ (.s nx 0 n 0 c (b, c) (if_pos rfl) hn (.inr ⟨rfl, fun _ => rfl⟩)), hh.new hb hw ⟨rfl, ⟨by simp [buf, hl.1], fun i x y e g => ?_⟩, fun _ => ?_⟩⟩
  · have hi : i < l'.length := by rw [← hl.1]; exact (List.getElem?_eq_some_iff.1 e).1
    unfold buf at g
    rw [List.getElem?_append_left hi] at g
    exact (hl.2 i x y e g).mono hle
  · simp only [buf, List.length_append, List.length_replicate, ← hl.1, h1]
    rw [← Nat.add_mul]
    congr 1
    omega
theorem rows_flat_len {m : List (List AV)} {sz : Nat} (h : ∀ r ∈ m, r.length = sz) : m.flatten.length = m.length * sz := flat_len h
theorem xap_sound {e : Option (TypeId × Nat × Nat)} {zk : Bool} {tn : Nat} {x y x' y' a : AV} {hp' : XH} {nx' : Nat} (h : xap lo e zk tn x y hp nx = some (a, hp', nx')) (hh : HR lo Wr ρ hp nx H) (hx : RA ρ x x') (hy : RA ρ y y') :
    eapG e zk tn Wr x' (asrcG (szOf e) H y') H (XK lo Wr ρ a hp' nx') := by
  unfold xap at h
  split at h
  · rename_i te sz by_
    split at h
    · rename_i m e1
      obtain ⟨h1, h⟩ := bif_opt h
      simp only [Bool.and_eq_true, Bool.or_eq_true, Bool.not_eq_true'] at h1
      obtain ⟨⟨⟨h1, h2⟩, h3⟩, h4⟩ := h1
      have h3 : sz ≠ 0 := fun e => by rw [e] at h3; cases h3
      have h4 := all_len h4
      obtain ⟨m', hm', rm⟩ := xsrc_sound e1 hh hy
      have hm4 := rm.rows h4
      have hne : (m = [] ↔ m' = []) := by
        have := rm.1
        constructor
        · intro q; subst q; exact List.eq_nil_of_length_eq_zero this.symm
        · intro q; subst q; exact List.eq_nil_of_length_eq_zero this
      show eapG (some (te, sz, by_)) zk tn Wr x' (asrcG sz H y') H _
      unfold eapG
      rw [hm']
      refine ⟨⟨h1, h2.imp beq_eq beq_eq, Nat.pos_of_ne_zero h3, hm4⟩, ?_⟩
      split at h
      · rename_i l
        obtain ⟨l', hl', rfl⟩ := hx.sl_inv
        obtain ⟨g1, h⟩ := bif_opt h
        simp only [Bool.and_eq_true] at g1
        obtain ⟨⟨g1, g2⟩, g3⟩ := g1
        have g2 := ble_le g2; have g3 := ble_le g3
        rw [hl'.1, rm.1] at g2 g3
        refine ⟨⟨hl'.rows (all_len g1), g2, g3⟩, .inr ?_⟩
        split at h
        · cases h
          exact ⟨fun _ => .same hh (hl'.sl _), fun q => absurd (hne.1 rfl) q⟩
        · rename_i hmn
          refine ⟨fun q => absurd (hne.2 q) (fun q => hmn q), fun _ => ?_⟩
          rw [← hl'.1, ← rm.1]
          exact xgrow_sound h hh (hl'.flat.append rm.flat)
      · rw [hx.nil_inv]
        obtain ⟨g1, h⟩ := bif_opt h
        simp only [Bool.and_eq_true] at g1
        have g2 := ble_le g1.1; have g3 := ble_le g1.2
        rw [rm.1] at g2 g3
        refine ⟨⟨g2, g3⟩, ?_⟩
        split at h
        · cases h
          exact ⟨fun _ => .same hh (.v _ _ (.k _ rfl)), fun q => absurd (hne.1 rfl) q⟩
        · rename_i hmn
          refine ⟨fun q => absurd (hne.2 q) (fun q => hmn q), fun _ => ?_⟩
          rw [← rm.1]
          exact xgrow_sound h hh rm.flat
      · rename_i b n _
        obtain ⟨p, c', hp', hn, hc, rfl⟩ := hx.sli_inv
        obtain ⟨g1, h⟩ := bif_opt h
        simp only [Bool.and_eq_true, Bool.not_eq_true'] at g1
        obtain ⟨⟨g0, g1⟩, g2⟩ := g1
        have g1 := ble_le g1; have g2 := ble_le g2
        rw [rm.1] at g1 g2
        have hm0 : m' ≠ [] := fun q => by rw [hne.2 q] at g0; cases g0
        refine ⟨⟨g1, g2⟩, ?_⟩
        split at h
        · rename_i T sz' l e2
          obtain ⟨k1, h⟩ := bif_opt h
          simp only [Bool.and_eq_true] at k1
          obtain ⟨⟨k1, k2⟩, k3⟩ := k1
          have k1 := ble_le k1; have k2 := beq_eq k2; have k3 := beq_eq k3
          subst k2 k3
          obtain ⟨q, hq, ho⟩ := hh.obj b _ e2 (by simp)
          rw [hp'] at hq; cases hq
          obtain ⟨l', hl', rl, hsz⟩ := ho.cells_inv
          have hlen := hsz h3
          unfold eapOG
          rw [hl']
          refine ⟨⟨rfl, hh.wr b _ p k1 e2 (by simp) hp', hn, ?_⟩, ?_⟩
          · rcases hc with hc | hc
            · right
              have := List.length_pos_iff.2 hm0
              subst hc
              exact ⟨by omega, by simp⟩
            · left
              rw [hc.2 rfl]
              exact ⟨hlen, .inr hm0⟩
          · have hgl : (l.take (n * sz') ++ m.flatten).length = (n + m.length) * sz' := by
              unfold xgrow at h
              exact beq_eq (bif_some h).1
            have hnl : n * sz' ≤ l.length := by
              rw [List.length_append, List.length_take, rows_flat_len h4, Nat.add_mul] at hgl
              omega
            rw [← rm.1]
            exact xgrow_sound h (hh.del e2 (by simp) hp') ((rl.take hnl).append rm.flat)
        · cases h
      · cases h
    · cases h
  · cases h
theorem RAp.cut {l m l' m' : List AV} (h : RAp ρ l m) {o k : Nat} (q : RAs ρ l' m') (hk : l'.length = k) (hl : o + k ≤ l.length) : RAp ρ (l.take o ++ l' ++ l.drop (o + k)) (m.take o ++ m' ++ m.drop (o + k)) ∧ (m.take o ++ m' ++ m.drop (o + k)).length = m.length := by
  have hlm := h.1
  have k1 := q.1
  refine ⟨⟨by simp; omega, fun i a b e g => ?_⟩, by simp; omega⟩
  have htk : RAs ρ (l.take o ++ l') (m.take o ++ m') := (h.take (by omega)).append q
  rw [List.getElem?_append] at e g
  rw [← htk.1] at g
  split at e
  · rw [if_pos (by assumption)] at g; exact htk.2 i a b e g
  · rw [if_neg (by assumption)] at g
    exact (h.drop _).2 _ a b e g
theorem xcp_sound {e : Option (TypeId × Nat × Nat)} {tn : Nat} {x y x' y' a : AV} {hp' : XH} (h : xcp lo e tn x y hp = some (a, hp')) (hh : HR lo Wr ρ hp nx H) (hx : RA ρ x x') (hy : RA ρ y y') :
    ecp e tn Wr x' (asrcG (szOf e) H y') H (XK lo Wr ρ a hp' nx) := by
  unfold xcp at h
  split at h
  · rename_i te sz by_
    split at h
    · rename_i m e1
      obtain ⟨h1, h⟩ := bif_opt h
      simp only [Bool.and_eq_true, Bool.or_eq_true, Bool.not_eq_true'] at h1
      obtain ⟨⟨h2, h3⟩, h4⟩ := h1
      have h3 : sz ≠ 0 := fun e => by rw [e] at h3; cases h3
      have h4 := all_len h4
      obtain ⟨m', hm', rm⟩ := xsrc_sound e1 hh hy
      have hm4 := rm.rows h4
      show ecp (some (te, sz, by_)) tn Wr x' (asrcG sz H y') H _
      unfold ecp
      rw [hm']
      refine ⟨⟨h2.imp beq_eq beq_eq, Nat.pos_of_ne_zero h3, hm4⟩, ?_⟩
      split at h
      · cases h
        rw [hx.nil_inv]
        exact .same hh (.int ..)
      · rename_i b o n c _
        obtain ⟨p, c', hp', hn, hc, rfl⟩ := hx.sli_inv
        split at h
        · rename_i T s l e2
          obtain ⟨g1, h2⟩ := bif_some h
          cases h2
          simp only [Bool.and_eq_true] at g1
          have g2 := ble_le g1.1; have g3 := ble_le g1.2
          obtain ⟨q, hq, ho⟩ := hh.obj b _ e2 (by simp)
          rw [hp'] at hq; cases hq
          obtain ⟨l', hl', rl, hsz⟩ := ho.cells_inv
          refine ⟨hh.wr b _ p g2 e2 (by simp) hp', ?_⟩
          unfold ecpO
          rw [hl']
          have hcut := rl.cut (o := o) (k := min m.length n * sz) (rm.tk n).flat (by rw [rows_flat_len fun r hr => h4 r (List.mem_of_mem_take hr), List.length_take, Nat.min_comm]) (by have := Nat.mul_le_mul_right sz (Nat.min_le_right m.length n); omega)
          refine ⟨by have := rl.1; omega, ?_⟩
          rw [← rm.1]
          exact ⟨ρ, .refl ρ, .int .., hh.upd e2 (by simp) hp' ⟨rfl, hcut.1, fun q => hcut.2.trans (hsz q)⟩⟩
        · cases h
      · cases h
    · cases h
  · cases h
theorem xbrow_sound {ev ev' : Operand → AV} {sz : Nat} : ∀ (ps : List (Nat × Operand)) (i : Nat) (l : List (List AV)), xbrow ev sz i ps = some l → (∀ p ∈ ps, RA ρ (ev p.2) (ev' p.2)) → ∃ l', brow ev' sz i ps = some l' ∧ RAss ρ l l'
  | [], i, l, h, _ => by cases h; exact ⟨[], rfl, rfl, by simp⟩
  | (j, x) :: r, i, l, h, hr => by
    unfold xbrow at h
    obtain ⟨h1, h⟩ := bif_opt h
    have h1 := beq_eq h1
    split at h
    · rename_i m t e1 e2
      obtain ⟨h2, rfl⟩ := bif_some h
      have h2 := beq_eq h2
      obtain ⟨m', g1, g2⟩ := xavc_sound e1 (hr (j, x) (by simp))
      obtain ⟨t', g3, g4⟩ := xbrow_sound r (i + 1) t e2 (fun p hp => hr p (by simp [hp]))
      refine ⟨m' :: t', ?_, by simp [g4.1], fun i' a b e g => ?_⟩
      · unfold brow
        rw [if_pos h1, g1, g3]
        dsimp only
        rw [if_pos (by rw [← g2.1]; exact h2)]
      · cases i' with
        | zero => simp at e g; subst e g; exact g2
        | succ i' => exact g4.2 i' a b (by simpa using e) (by simpa using g)
    · cases h
end
section
variable {P : Program} {s : Sto} {w : World} {own : Nat → Option Nat} {H : Hp} {Wr : Nat → Prop}
/-- a row that is written out, as the model makes it -/
theorem bs_run {t : TypeId} {len e sz b : Nat} {rv : Operand → AV} {ρ : Operand → Value} {ps : Array (Nat × Operand)} (hr : ∀ p ∈ ps.toList, Rep s (rv p.2) (ρ p.2)) (he : tE P t = some (e, sz, b)) {l : List (List AV)} (hl : brow rv sz 0 ps.toList = some l) (h1 : l.length = len) (h2 : len * sz ≤ 16777216) (hzk : tEz P t = true) :
    ∃ ws : List Value, (Instr.buildSlice t len (ps.map fun (i, x) => (i, ρ x))).run P w = .ok (.slice (some ⟨w.heap.size, 0, none⟩) len len) (w.alloc (.cells ws.toArray e)) ∧ Reps s l.flatten ws ∧ (∀ x ∈ ws, x.oneCell' = true) ∧ (∀ r ∈ l, r.length = sz) := by
  obtain ⟨z, hz, hzs, hz1⟩ := tEz_spec hzk he
  obtain ⟨i, hu, hi, rfl, rfl, hs⟩ := tE_spec he
  have hzi : i.zero = some z := by simpa [tZ, hi] using hz
  obtain ⟨zero, hzr, hzo⟩ : ∃ zero : Array Value, ((len * i.size = 0 → zero = #[]) ∧ (len * i.size ≠ 0 → zero = z.cells)) ∧ ∀ y ∈ ((Array.range (len * i.size)).map (zero[· % zero.size]!)).toList, y.oneCell' = true := by
    by_cases h0 : len * i.size = 0
    · exact ⟨#[], ⟨fun _ => rfl, fun e => absurd h0 e⟩, by simp [h0]⟩
    · refine ⟨z.cells, ⟨fun e => absurd e h0, fun _ => rfl⟩, fun y hy => ?_⟩
      simp only [Array.toList_map, List.mem_map] at hy
      obtain ⟨j, _, rfl⟩ := hy
      have hlt : j % z.cells.size < z.cells.size := Nat.mod_lt _ (by rw [hzs]; exact Nat.pos_of_ne_zero (fun e => h0 (by rw [e]; rfl)))
      rw [getElem!_pos z.cells _ hlt]
      exact hz1 _ (Array.mem_toList_iff.2 (Array.getElem_mem hlt))
  obtain ⟨zs, hzs'⟩ : ∃ zs : List Value, (Array.range (len * i.size)).map (zero[· % zero.size]!) = zs.toArray := ⟨_, Array.toArray_toList.symm⟩
  have hzl : zs.length = len * i.size := by rw [← List.size_toArray, ← hzs']; simp
  rw [hzs'] at hzo
  obtain ⟨ws, ef, rws, rw1, hrs, hwl⟩ := brow_sound ps.toList 0 l zs hr hl (by rw [hzl, h1]; simp) hzo
  simp only [Nat.zero_mul, List.take_zero, List.nil_append] at ef
  refine ⟨ws, ?_, rws, rw1, hrs⟩
  have hps : (ps.map fun (i, x) => (i, ρ x)).toList = ps.toList.map fun (i, x) => (i, ρ x) := by simp
  unfold Instr.buildSlice
  simp only [Sem.run_bind, und hu, Result.andThen_ok, run_sizeOf' hs]
  rw [if_neg (by omega)]
  have hzv : (zeroValue e).run P w = .ok z w := by simp [zeroValue, typeInfo, hi, hzi]
  split
  · rename_i h0
    rw [hzr.1 h0] at hzs'
    simp only [Sem.run_bind, Sem.run_pure, Result.andThen_ok, hps, hzs', ef, newRow, run_newObj]
    rfl
  · rename_i h0
    rw [hzr.2 h0] at hzs'
    simp only [Sem.run_bind, Sem.run_pure, Result.andThen_ok, hzv, hps, hzs', ef, newRow, run_newObj]
    rfl
/-- an object is marked: nobody will write it from here on -/
theorem St.mark (h : St w s own H) {m : Nat} {T : TypeId} {l : List AV} (hm : H m = some (.cells T l)) (hw : Wr m) {w' : World} (hsz : w'.heap.size = w.heap.size) (hout : Out w w') (hoth : ∀ b, b ≠ m → w'.heap[b]? = w.heap[b]?) (hcell : ∀ o, w'.cell? ⟨m, o, none⟩ = w.cell? ⟨m, o, none⟩) :
    ∃ s' own' vs, St w' s' own' (hdel H m) ∧ Ext Wr w s own w' s' own' ∧ Reps s' l vs ∧ ∀ o x, vs[o]? = some x → s' m o = some x := by
  obtain ⟨ho, us, hu, hr, hr1⟩ := h.obj m _ hm
  have hs : ∀ o, s m o = none := fun o => by
    cases e : s m o with
    | none => rfl
    | some x => have := (h.imm m o x e).1; rw [ho] at this; cases this
  have hle := Sto.put_le us hs
  refine ⟨s.put m us, fun b => if own b = some m then none else own b, us, ⟨fun b o x e => ?_, fun b k e => ?_, fun b k e => ?_, fun k O e => ?_⟩, ⟨hle, by omega, hout, fun b hb hn => ⟨hoth b (fun e => hn m (e ▸ ho) hw), if_neg (fun e => hn m e hw)⟩⟩, hr.mono hle, fun o x e => by simp [Sto.put, e]⟩
  · unfold Sto.put at e
    split at e
    · rename_i hb; subst hb
      exact ⟨if_pos ho, by rw [hcell]; simp [World.cell?, hu, e], hr1 x (List.mem_of_getElem? e)⟩
    · have h1 := h.imm b o x e
      have hbm : b ≠ m := by assumption
      exact ⟨by rw [if_neg (by rw [h1.1]; simp)]; exact h1.1, by rw [cell_heap (hoth b hbm)]; exact h1.2⟩
  · split at e
    · cases e
    · rw [hsz]; exact h.lt b k e
  · split at e
    · cases e
    · rename_i hk
      have := h.idem b k e
      rw [if_neg (by rw [this]; intro q; cases q; exact hk e)]; exact this
  · unfold hdel at e
    split at e
    · cases e
    · rename_i hk
      exact (h.obj k O e).keep hle (fun b hb => ⟨hoth b (fun e => hk (by rw [e, ho] at hb; cases hb; rfl)), by rw [if_neg (by rw [hb]; intro e; cases e; exact hk rfl)]; exact hb⟩)
/-- []byte of a constant: the row is marked -/
theorem mark_run {t e : TypeId} (ht : P.underlying t = some (.slice e)) (he : P.underlying e = some (.int .u8)) {b : Nat} {vs : List Value} {T : TypeId} (hv : w.heap[b]? = some (.cells vs.toArray T (0, 0))) (n c : Nat) :
    ∃ w', (convert t t (.slice (some ⟨b, 0, none⟩) n c)).run P w = .ok (.slice (some ⟨b, 0, none⟩) n c) w' ∧ w'.heap.size = w.heap.size ∧ Out w w' ∧ (∀ k, k ≠ b → w'.heap[k]? = w.heap[k]?) ∧ ∀ o, w'.cell? ⟨b, o, none⟩ = w.cell? ⟨b, o, none⟩ := by
  have hsh : w.shape? b = some (T, vs.length) := by unfold World.shape?; rw [hv]; simp
  have hlt : b < w.heap.size := (Array.getElem?_eq_some_iff.1 hv).1
  refine ⟨w.freeze ⟨b, vs.length, none⟩ 1, ?_, ?_, ?_, fun k hk => ?_, fun o => ?_⟩
  · simp [convert, run_underlying ht, run_underlying he, markStringish, hsh]
  · unfold World.freeze; rw [if_neg (by decide)]; simp
  · unfold World.freeze; rw [if_neg (by decide)]; exact ⟨rfl, rfl, rfl⟩
  · unfold World.freeze; rw [if_neg (by decide)]; simp [Array.getElem?_modify, Ne.symm hk]
  · unfold World.freeze; rw [if_neg (by decide)]
    simp only [World.cell?, Array.getElem?_modify, hv]
    simp [hlt, hv]
end
end Go.Proofs.YtiallkiiofomgaaGreat
