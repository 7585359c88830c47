/- A run that is reckoned out: every operation that is no call. -/
import Derived.Test.YtiallkiiofomgaaGreatYf
namespace Go.Proofs.YtiallkiiofomgaaGreat
section
variable {P : Program} {s : Sto} {w : World} {own : Nat → Option Nat} {H : Hp} {Wr : Nat → Prop} {lo : Nat} {ρ : Rho} {hp : XH} {nx : Nat}
theorem xkeep_inv {o : Option AV} {a : AV} {hp' : XH} {nx' : Nat} (h : xkeep hp nx o = some (a, hp', nx')) : o = some a ∧ hp' = hp ∧ nx' = nx := by
  cases o with
  | none => cases h
  | some b => cases h; exact ⟨rfl, rfl, rfl⟩
theorem Done.imp {hc : Bool} {m : Sem Next} {k k' : AV → Hp → Prop} (h : Done P hc Wr m w s own k) (hk : ∀ a H, k a H → k' a H) : Done P hc Wr m w s own k' := by
  obtain ⟨n, x, w', s', own', H', a, h1, h2, h3, h4, h5, h6, h7⟩ := h
  exact ⟨n, x, w', s', own', H', a, h1, h2, h3, h4, h5, hk _ _ h6, h7⟩
theorem Done.of_eop {o : Oper} {hc : Bool} {rv : Operand → AV} {ρ' : Operand → Value} {k : AV → Hp → Prop} (hst : St w s own H) (hf : ∀ m, w.heap.size ≤ m → Wr m) (hr : ∀ x ∈ o.op.operands, Rep s (rv x) (ρ' x)) (h : eop P Wr rv H o.op k) (hhc : hc = isW o.op) : Done P hc Wr (execOp ρ' o) w s own k := by
  subst hhc; exact eop_sound hst hf hr h
theorem tU8_spec {t : TypeId} (h : tU8 P t = true) : ∃ e, P.underlying t = some (.slice e) ∧ P.underlying e = some (.int .u8) := by
  unfold tU8 at h
  split at h
  · rename_i e hu
    split at h
    · rename_i h2; exact ⟨e, hu, h2⟩
    · cases h
  · cases h
/-- a marked row -/
theorem xmark_sound {t : TypeId} {x : Operand} {o : Oper} {rv rv' : Operand → AV} {ev : Operand → Value} {a : AV} {hp' : XH} {nx' : Nat} (ho : o.op = .convert t t x) (hu : tU8 P t = true) (h : xmark lo (tE P t) true (rv x) hp nx = some (a, hp', nx')) (hst : St w s own H) (hh : HR lo Wr ρ hp nx H) (hr : RA ρ (rv x) (rv' x)) (hrep : Rep s (rv' x) (ev x)) :
    Done P true Wr (execOp ev o) w s own (XK lo Wr ρ a hp' nx') := by
  obtain ⟨e, ht, he⟩ := tU8_spec hu
  unfold xmark at h
  split at h
  · rename_i te by_ _ b n c he1 hx
    rw [hx] at hr
    obtain ⟨p, c', hp', hn, hc, hxe⟩ := hr.sli_inv
    split at h
    · rename_i T sz l e2
      obtain ⟨h1, h2⟩ := bif_some h
      cases h2
      simp only [Bool.and_eq_true] at h1
      have k1 := ble_le h1.1.1
      have k2 := ble_le h1.2
      obtain ⟨q, hq, ho'⟩ := hh.obj b _ e2 (by simp)
      rw [hp'] at hq; cases hq
      obtain ⟨l', hl', rl, _⟩ := ho'.cells_inv
      obtain ⟨_, vs, hv, _, _⟩ := hst.obj p.1 _ hl'
      have hev : ev x = .slice (some ⟨p.1, 0, none⟩) n c' := by rw [hxe] at hrep; exact hrep.v_inv
      obtain ⟨w', g1, g2, g0, g3, g4⟩ := mark_run (P := P) ht he hv n c'
      obtain ⟨s', own', us, st', ex, ru, hs⟩ := hst.mark hl' (hh.wr b _ p k1 e2 (by simp) hp') g2 g0 g3 g4
      have hul : us.length = l'.length := ru.1
      have hrow : Rep s' (.sl false ((l'.take n).map fun a => [a])) (.slice (some ⟨p.1, 0, none⟩) n c') := by
        have hln : ((l'.take n).map fun a => [a]).length = n := by simp; have := rl.1; omega
        have := imm_row (s := s') (l := (l'.take n).map fun a => [a]) (vs := us.take n) (rest := us.drop n) (es := 1) (b := p.1) (c := c') (e := false) (t := s') (by rw [reps_one]; exact ru.take n) (fun r hr => by obtain ⟨a, _, rfl⟩ := List.mem_map.1 hr; rfl) (Sto.le.refl _) (fun o y hy => hs o y (by rwa [List.take_append_drop] at hy)) (by rw [hln]; exact hn) (by simp)
        rwa [hln] at this
      refine ⟨.value (ev x), _, w', s', own', _, _, ?_, .inl rfl, ex, st', by rw [hev]; exact hrow, ⟨ρ, .refl ρ, ?_, hh.del e2 (by simp) hp'⟩, fun e => by cases e⟩
      · simp only [execOp, ho, hev, Sem.run_bind, g1]; rfl
      · refine RAss.sl ⟨by simp; have := rl.1; omega, fun i r t' e g => ?_⟩ false
        rw [List.getElem?_map, Option.map_eq_some_iff] at e g
        obtain ⟨y, e, rfl⟩ := e
        obtain ⟨y', g, rfl⟩ := g
        exact RAs.cons ((rl.take k2).2 i y y' e g) RAs.nil
    · cases h
  · cases h
theorem xbytes_sound : ∀ {m m' : List (List AV)} {bl : List UInt8} {news : List Value}, xbytes m = some bl → RAss ρ m m' → Reps s m'.flatten news → ∃ ns : List Int, news = ns.map (Value.int .u8) ∧ bl = ns.map fun n => UInt8.ofNat n.toNat
  | [], m', bl, news, h, hm, hr => by
    have := List.eq_nil_of_length_eq_zero hm.1.symm
    subst this
    cases h
    exact ⟨[], hr.nil_inv, rfl⟩
  | r :: m, m', bl, news, h, hm, hr => by
    unfold xbytes at h
    split at h
    · rename_i e1; cases e1
    · rename_i n l e1
      cases e1
      split at h
      · rename_i t e2
        cases h
        cases m' with
        | nil => have := hm.1; simp at this
        | cons r' m' =>
          have h0 := hm.2 0 _ r' rfl rfl
          obtain ⟨b, t', rfl, hb, ht⟩ := h0.cons_inv
          rw [ht.nil_inv, hb.int_inv] at hr
          rw [List.flatten_cons, List.singleton_append] at hr
          obtain ⟨v, ws, rfl, hv, hws⟩ := hr.cons_inv
          obtain ⟨ns, g1, g2⟩ := xbytes_sound (m := m) (m' := m') e2 ⟨by have := hm.1; simpa using this, fun i a b e g => hm.2 (i + 1) a b (by simpa using e) (by simpa using g)⟩ hws
          exact ⟨n :: ns, by rw [hv.v_inv, g1]; rfl, by rw [g2]; rfl⟩
      · cases h
    · cases h
theorem xbytes_rows : ∀ {m : List (List AV)} {bl : List UInt8}, xbytes m = some bl → ∀ r ∈ m, r.length = 1
  | [], _, _ => by simp
  | r :: m, bl, h => by
    unfold xbytes at h
    split at h
    · rename_i e3; cases e3
    · rename_i n l e3
      cases e3
      split at h
      · rename_i t e4
        intro r hr
        rcases List.mem_cons.1 hr with rfl | hr
        · rfl
        · exact xbytes_rows e4 r hr
      · cases h
    · cases h
/-- bytes as a string -/
theorem xstr_sound {t u : TypeId} {x : Operand} {o : Oper} {rv rv' : Operand → AV} {ev : Operand → Value} {bl : List UInt8} (ho : o.op = .convert t u x) (hu : tU8 P t = true) (h7 : tN P u = 7) (h : xstr hp (rv x) = some bl) (hst : St w s own H) (hh : HR lo Wr ρ hp nx H) (hr : RA ρ (rv x) (rv' x)) (hrep : Rep s (rv' x) (ev x)) :
    Done P false Wr (execOp ev o) w s own (XK lo Wr ρ (.v (.string ⟨bl.toArray⟩)) hp nx) := by
  obtain ⟨e, ht, he⟩ := tU8_spec hu
  have hd : P.underlying u = some .string := by
    obtain ⟨d, hd⟩ := tN_und h7 (by decide)
    unfold tN at h7
    rw [hd] at h7 ⊢
    cases d <;> first | rfl | (cases h7; done)
  have ht2 : tN P t = 2 := by unfold tN; rw [ht]
  -- what it reads as
  have key : ∀ m, xsrc 1 hp (rv x) = some m → xbytes m = some bl → (∀ b, ev x ≠ .string b) → (convert t u (ev x)).run P w = .ok (.string ⟨bl.toArray⟩) w := fun m e1 e2 hns => by
    obtain ⟨m', hm', rm⟩ := xsrc_sound e1 hh hr
    have hlen : ∀ r ∈ m', r.length = 1 := rm.rows (xbytes_rows e2)
    obtain ⟨news, hsrc, hrn, hnl, hn1, hnk⟩ := asrcG_sound (P := P) (.inl ht2) hst hrep hm' hlen (by decide)
    obtain ⟨ns, g1, g2⟩ := xbytes_sound e2 rm hrn
    have hl0 := hsrc.len w
    have hc0 := hsrc.cells
    cases hev : ev x with
    | string b => exact absurd hev (hns b)
    | slice a n c =>
      rw [hev] at hl0 hc0
      have hn : n = m'.length := by
        have : (Result.ok n w : Result Nat) = .ok m'.length w := hl0
        cases this; rfl
      cases a with
      | none =>
        have hn0 : news.toArray = #[] := by
          have : (Result.ok #[] w : Result (Array Value)) = .ok news.toArray w := hc0
          cases hh : news with
          | nil => rfl
          | cons y ys => rw [hh] at this; cases this
        have hns0 : ns = [] := by
          have : news = [] := by simpa using hn0
          rw [this] at g1
          cases ns with
          | nil => rfl
          | cons y ys => cases g1
        rw [g2, hns0]
        exact run_convert_bytes_nil w t e ht he n c u hd
      | some a =>
        rw [run_convert_bytes_string w t u e (some a) n c ht he hd]
        have hld : (loadCells a n).run P w = .ok (ns.map (Value.int .u8)).toArray w := by
          have : (loadCells a (m'.length * 1)).run P w = .ok news.toArray w := hc0
          rw [Nat.mul_one, ← hn, g1] at this
          exact this
        rw [run_bytesToString w a n c ns hld, foldl_push_bytes, g2]
        have e0 : ByteArray.empty.data = #[] := rfl
        rw [e0]
        simp
    | _ => rw [hev] at hl0; exact absurd hl0 (by simp [Builtin.lenOf])
  have fin : (convert t u (ev x)).run P w = .ok (.string ⟨bl.toArray⟩) w → Done P false Wr (execOp ev o) w s own (XK lo Wr ρ (.v (.string ⟨bl.toArray⟩)) hp nx) := fun g =>
    ⟨.value (.string ⟨bl.toArray⟩), _, w, s, own, H, _, by simp only [execOp, ho, Sem.run_bind, g]; rfl, .inl rfl, Ext.refl .., hst, .v _, .same hh (.str ..), fun _ _ _ => rfl⟩
  refine fin ?_
  unfold xstr at h
  split at h
  · cases h
  · rename_i hns
    split at h
    · rename_i m e1
      refine key m e1 h fun b hb => ?_
      rw [hb] at hrep
      -- a string reads as itself, or as nothing
      cases hrv : rv' x with
      | v y =>
        rw [hrv] at hrep
        have := hrep.v_inv
        subst this
        rw [hrv] at hr
        cases hx : rv x with
        | any => rw [hx] at e1; cases e1
        | v z =>
          rw [hx] at hr
          exact hns b (by rw [hx]; exact hr.str_back (by simp))
        | _ => rw [hx] at hr; cases hr
      | sl y l => rw [hrv] at hrep; cases hrep
      | ep l i k => rw [hrv] at hrep; cases hrep
      | agg l => rw [hrv] at hrep; cases hrep
      | tup l => rw [hrv] at hrep; cases hrep
      | _ =>
        rw [hrv] at hr
        cases hx : rv x with
        | any => rw [hx] at e1; cases e1
        | _ => rw [hx] at hr; cases hr
    · cases h
end
end Go.Proofs.YtiallkiiofomgaaGreat
