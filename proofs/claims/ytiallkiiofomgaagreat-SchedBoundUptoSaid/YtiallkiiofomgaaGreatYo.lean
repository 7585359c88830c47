/- A run that is reckoned out: atomic words, bytes compared. -/
import Derived.Test.YtiallkiiofomgaaGreatYn
import Derived.Laws.LoneSync
import Derived.Lib.Bytealg
namespace Go.Proofs.YtiallkiiofomgaaGreat
def spLoad (q : IntKind) : List AV → XH → Nat → Nat → XR := fun xs hp nx _ => match xs with
  | [.v (.pointer p)] => match xld (some none) (.v (.pointer p)) hp with
    | some (.v (.int q' n)) => bif decide (q = q') then some (.v (.int q n), hp, nx) else none
    | _ => none
  | _ => none
def spStore (q : IntKind) : List AV → XH → Nat → Nat → XR := fun xs hp nx lo => match xs with
  | [.v (.pointer p), .v (.int q' n)] => match xld (some none) (.v (.pointer p)) hp with
    | some (.v (.int q'' _)) => bif decide (q = q') && decide (q = q'') then (match xst lo (some 1) (.v (.pointer p)) (.v (.int q n)) hp with
      | some hp => some (.v (.tuple #[]), hp, nx)
      | none => none) else none
    | _ => none
  | _ => none
def spAdd (q : IntKind) : List AV → XH → Nat → Nat → XR := fun xs hp nx lo => match xs with
  | [.v (.pointer p), .v (.int q' n)] => match xld (some none) (.v (.pointer p)) hp with
    | some (.v (.int q'' m)) => bif decide (q = q') && decide (q = q'') then (match xst lo (some 1) (.v (.pointer p)) (.v (.int q (q.wrap (m + n)))) hp with
      | some hp => some (.v (.int q (q.wrap (m + n))), hp, nx)
      | none => none) else none
    | _ => none
  | _ => none
def spCas (q : IntKind) : List AV → XH → Nat → Nat → XR := fun xs hp nx lo => match xs with
  | [.v (.pointer p), .v (.int q1 n), .v (.int q2 u)] => match xld (some none) (.v (.pointer p)) hp with
    | some (.v (.int q3 m)) => bif decide (q = q1) && decide (q = q2) && decide (q = q3) then
        (bif m == n then (match xst lo (some 1) (.v (.pointer p)) (.v (.int q u)) hp with
          | some hp => some (.v (.bool true), hp, nx)
          | none => none) else some (.v (.bool false), hp, nx)) else none
    | _ => none
  | _ => none
def xtext (hp : XH) (x : AV) : Option (List UInt8) := match x with
  | .v (.string _) => none
  | x => match xsrc 1 hp x with
    | some m => xbytes m
    | none => none
def spCmp : List AV → XH → Nat → Nat → XR := fun xs hp nx _ => match xs with
  | [x, y] => match xtext hp x, xtext hp y with
    | some a, some b => some (.v (.int .i64 (Lib.compareBytes a b)), hp, nx)
    | _, _ => none
  | _ => none
section
variable {P : Program} {f : FuncId} {fn : Func} {s : Sto} {w : World} {own : Nat → Option Nat} {H : Hp} {Wr : Nat → Prop} {lo : Nat} {ρ : Rho} {hp : XH} {nx : Nat}
/-- a cell that holds a number -/
theorem xld_cell {p : Option Addr} {q : IntKind} {n : Int} (h : xld (some none) (.v (.pointer p)) hp = some (.v (.int q n))) (hst : St w s own H) (hh : HR lo Wr ρ hp nx H) {x' : AV} (hx : RA ρ (.v (.pointer p)) x') :
    ∃ b o p' T l, p = some ⟨b, o, none⟩ ∧ ρ b = some p' ∧ x' = .v (.pointer (some ⟨p'.1, o, none⟩)) ∧ H p'.1 = some (.cells T l) ∧ o < l.length ∧ w.cell? ⟨p'.1, o, none⟩ = some (.int q n) ∧ w.frozen? ⟨p'.1, o, none⟩ = false ∧ own p'.1 = some p'.1 ∧ ∃ sz c, hp.get b = some (.cells T sz c) := by
  unfold xld at h
  split at h
  · rename_i tk b o htk hpp
    cases htk
    cases hpp
    obtain ⟨p', hp', rfl⟩ := hx.ptr_inv
    split at h
    · rename_i T sz c e
      obtain ⟨q', hq', ho⟩ := hh.obj b _ e (by simp)
      rw [hp'] at hq'; cases hq'
      obtain ⟨l, hl, rl, _⟩ := ho.cells_inv
      obtain ⟨y, e1, r1⟩ := rl.get (show c[o]? = some (.v (.int q n)) from h)
      rw [r1.int_inv] at e1
      obtain ⟨how, vs, hv, rv, _⟩ := hst.obj p'.1 _ hl
      obtain ⟨v, e2, r2⟩ := rv.get e1
      have := r2.v_inv
      subst this
      refine ⟨b, o, p', T, l, rfl, hp', rfl, hl, (List.getElem?_eq_some_iff.1 e1).1, by simp [World.cell?, hv, e2], by simp [World.frozen?, hv], how, sz, c, e⟩
    · cases h
  · rename_i hpp; cases hpp
  · cases h
/-- a number is stored there -/
theorem set_cell {m o : Nat} {T : TypeId} {l : List AV} (hst : St w s own H) (hm : H m = some (.cells T l)) (hw : Wr m) (q : IntKind) (n : Int) :
    St (w.setCell ⟨m, o, none⟩ (.int q n)) s own (hset H m (.cells T (l.set o (.v (.int q n))))) ∧ Ext Wr w s own (w.setCell ⟨m, o, none⟩ (.int q n)) s own := by
  obtain ⟨how, vs, hv, rv, r1⟩ := hst.obj m _ hm
  have e : w.setCell ⟨m, o, none⟩ (.int q n) = w.setRow m (vs.set o (.int q n)).toArray := by
    rw [setCell_eq_setRow w m o vs.toArray T (0, 0) _ hv]
    congr 1
    simp
  rw [e]
  refine hst.setRow hm hw ⟨by simp [rv.1], fun i a x e g => ?_⟩ (fun x hx => ?_)
  · rw [List.getElem?_set] at e g
    rw [rv.1] at g
    split at e
    · rw [if_pos (by assumption)] at g
      split at e
      · rw [if_pos (by assumption)] at g; cases e; cases g; exact .v _
      · cases e
    · rw [if_neg (by assumption)] at g; exact rv.2 i a x e g
  · rcases List.mem_or_eq_of_mem_set hx with h | h
    · exact r1 x h
    · rw [h]; rfl
theorem spLoad_sound (q : IntKind) (hl : ∀ {a x w}, w.cell? a = some (.int q x) → (callFunc f #[.pointer (some a)]).run P w = .ok (.value (.int q x)) w) : FS1 P f (spLoad q) := by
  intro xs hp nx lo a hp' nx' h hlo
  unfold spLoad at h
  split at h
  · rename_i p
    split at h
    · rename_i q' n e
      obtain ⟨hq, h⟩ := bif_some h
      cases h
      have hq : q = q' := by simpa using hq
      subst hq
      refine ⟨.refl .., fun ρ H xs' W hxs hh w s own vs Wr hst hr hW hf => .inr ?_⟩
      obtain ⟨x', t, rfl, hx, ht⟩ := hxs.cons_inv
      cases ht.nil_inv
      obtain ⟨b, o, p', T, l, rfl, hb, rfl, hH, _, hc, _, _, _⟩ := xld_cell e hst hh hx
      obtain ⟨v, us, rfl, hv, hu⟩ := hr.cons_inv
      cases hu.nil_inv
      rw [hv.v_inv]
      exact ⟨_, w, hl hc, _, .v (.int q n), s, own, H, rfl, Ext.refl .., hst, .v _, ρ, .refl ρ, .int .., hh.mono hW⟩
    · cases h
  · cases h
/-- behind a store -/
theorem store_left {p : Option Addr} {q : IntKind} {n m : Int} {hp' : XH} {b o : Nat} {p' : Nat × Nat} {T : TypeId} {l : List AV} (h : xst lo (some 1) (.v (.pointer p)) (.v (.int q n)) hp = some hp') (hpe : p = some ⟨b, o, none⟩) (hb : ρ b = some p') (hst : St w s own H) (hh : HR lo Wr ρ hp nx H) (hH : H p'.1 = some (.cells T l)) :
    XG lo hp nx hp' nx ∧ St (w.setCell ⟨p'.1, o, none⟩ (.int q n)) s own (hset H p'.1 (.cells T (l.set o (.v (.int q n))))) ∧ Ext Wr w s own (w.setCell ⟨p'.1, o, none⟩ (.int q n)) s own ∧ HR lo Wr ρ hp' nx (hset H p'.1 (.cells T (l.set o (.v (.int q n))))) := by
  subst hpe
  unfold xst at h
  have e0 : xavc (.v (.int q n)) = some [.v (.int q n)] := rfl
  rw [e0] at h
  dsimp only at h
  split at h
  · rename_i U sz c e
    obtain ⟨k, rfl⟩ := bif_some h
    simp only [Bool.and_eq_true] at k
    have k1 := ble_le k.1.1
    have k3 := ble_le k.2
    obtain ⟨q', hq', ho⟩ := hh.obj b _ e (by simp)
    rw [hb] at hq'; cases hq'
    obtain ⟨l', hl', rl, hsz⟩ := ho.cells_inv
    rw [hH] at hl'; cases hl'
    obtain ⟨s1, s2⟩ := set_cell (o := o) (Wr := Wr) hst hH (hh.wr b _ p' k1 e (by simp) hb) q n
    have hsp := rl.splice (o := o) (RAs.cons (.int ρ q n) RAs.nil) (by simpa using k3)
    exact ⟨.set hp nx k1 _, s1, s2, hh.upd e (by simp) hb ⟨rfl, hsp.1, fun q => hsp.2.trans (hsz q)⟩⟩
  · cases h
theorem xst_g {n : Option Nat} {x y : AV} {hp' : XH} (h : xst lo n x y hp = some hp') : XG lo hp nx hp' nx := by
  unfold xst at h
  split at h
  · split at h
    · obtain ⟨k, rfl⟩ := bif_some h
      simp only [Bool.and_eq_true] at k
      exact .set hp nx (ble_le k.1.1) _
    · cases h
  · cases h
theorem spStore_sound (q : IntKind) (hl : ∀ {a y u w}, w.cell? a = some u → w.frozen? a = false → (callFunc f #[.pointer (some a), .int q y]).run P w = .ok (.value (.tuple #[])) (w.setCell a (.int q y))) : FS1 P f (spStore q) := by
  intro xs hp nx lo a hp' nx' h hlo
  unfold spStore at h
  split at h
  · rename_i p q' n
    split at h
    · rename_i q'' m e
      have hq := (bif_opt h).1
      replace h := (bif_opt h).2
      simp only [Bool.and_eq_true, decide_eq_true_eq] at hq
      obtain ⟨rfl, rfl⟩ := hq
      split at h
      · rename_i hp2 e2
        cases h
        refine ⟨xst_g e2, fun ρ H xs' W hxs hh w s own vs Wr hst hr hW hf => .inr ?_⟩
        obtain ⟨x', t, rfl, hx, ht⟩ := hxs.cons_inv
        obtain ⟨y', t2, rfl, hy, ht2⟩ := ht.cons_inv
        cases ht2.nil_inv
        obtain ⟨b, o, p', T, l, hpe, hb, rfl, hH, _, hc, hz, _, _⟩ := xld_cell e hst hh hx
        obtain ⟨v, us, rfl, hv, hu⟩ := hr.cons_inv
        obtain ⟨v2, us2, rfl, hv2, hu2⟩ := hu.cons_inv
        cases hu2.nil_inv
        rw [hy.int_inv] at hv2
        rw [hv.v_inv, hv2.v_inv]
        obtain ⟨_, g2, g3, g4⟩ := store_left (m := m) e2 hpe hb hst (hh.mono hW) hH
        exact ⟨_, _, hl hc hz, _, .v (.tuple #[]), s, own, _, rfl, g3, g2, .v _, ρ, .refl ρ, .v _ _ (.k _ rfl), g4⟩
      · cases h
    · cases h
  · cases h
theorem spAdd_sound (q : IntKind) (hl : ∀ {a x y w}, w.cell? a = some (.int q x) → w.frozen? a = false → (callFunc f #[.pointer (some a), .int q y]).run P w = .ok (.value (.int q (q.wrap (x + y)))) (w.setCell a (.int q (q.wrap (x + y))))) : FS1 P f (spAdd q) := by
  intro xs hp nx lo a hp' nx' h hlo
  unfold spAdd at h
  split at h
  · rename_i p q' n
    split at h
    · rename_i q'' m e
      have hq := (bif_opt h).1
      replace h := (bif_opt h).2
      simp only [Bool.and_eq_true, decide_eq_true_eq] at hq
      obtain ⟨rfl, rfl⟩ := hq
      split at h
      · rename_i hp2 e2
        cases h
        refine ⟨xst_g e2, fun ρ H xs' W hxs hh w s own vs Wr hst hr hW hf => .inr ?_⟩
        obtain ⟨x', t, rfl, hx, ht⟩ := hxs.cons_inv
        obtain ⟨y', t2, rfl, hy, ht2⟩ := ht.cons_inv
        cases ht2.nil_inv
        obtain ⟨b, o, p', T, l, hpe, hb, rfl, hH, _, hc, hz, _, _⟩ := xld_cell e hst hh hx
        obtain ⟨v, us, rfl, hv, hu⟩ := hr.cons_inv
        obtain ⟨v2, us2, rfl, hv2, hu2⟩ := hu.cons_inv
        cases hu2.nil_inv
        rw [hy.int_inv] at hv2
        rw [hv.v_inv, hv2.v_inv]
        obtain ⟨_, g2, g3, g4⟩ := store_left (m := m) e2 hpe hb hst (hh.mono hW) hH
        exact ⟨_, _, hl hc hz, _, .v (.int q (q.wrap (m + n))), s, own, _, rfl, g3, g2, .v _, ρ, .refl ρ, .int .., g4⟩
      · cases h
    · cases h
  · cases h
theorem spCas_sound (q : IntKind) (hl : ∀ {a x y w}, w.cell? a = some (.int q x) → w.frozen? a = false → (callFunc f #[.pointer (some a), .int q x, .int q y]).run P w = .ok (.value (.bool true)) (w.setCell a (.int q y))) (hm : ∀ {a x o y w}, w.cell? a = some (.int q x) → w.frozen? a = false → ¬ x = o → (callFunc f #[.pointer (some a), .int q o, .int q y]).run P w = .ok (.value (.bool false)) w) : FS1 P f (spCas q) := by
  intro xs hp nx lo a hp' nx' h hlo
  unfold spCas at h
  split at h
  · rename_i p q1 n q2 u
    split at h
    · rename_i q3 m e
      have hq := (bif_opt h).1
      replace h := (bif_opt h).2
      simp only [Bool.and_eq_true, decide_eq_true_eq] at hq
      obtain ⟨⟨rfl, rfl⟩, rfl⟩ := hq
      cases hmn : m == n with
      | true =>
        rw [hmn] at h
        have hmn : m = n := by simpa using hmn
        subst hmn
        simp only [cond_true] at h
        split at h
        · rename_i hp2 e2
          cases h
          refine ⟨xst_g e2, fun ρ H xs' W hxs hh w s own vs Wr hst hr hW hf => .inr ?_⟩
          obtain ⟨x', t, rfl, hx, ht⟩ := hxs.cons_inv
          obtain ⟨y', t2, rfl, hy, ht2⟩ := ht.cons_inv
          obtain ⟨z', t3, rfl, hz', ht3⟩ := ht2.cons_inv
          cases ht3.nil_inv
          obtain ⟨b, o, p', T, l, hpe, hb, rfl, hH, _, hc, hz, _, _⟩ := xld_cell e hst hh hx
          obtain ⟨v, us, rfl, hv, hu⟩ := hr.cons_inv
          obtain ⟨v2, us2, rfl, hv2, hu2⟩ := hu.cons_inv
          obtain ⟨v3, us3, rfl, hv3, hu3⟩ := hu2.cons_inv
          cases hu3.nil_inv
          rw [hy.int_inv] at hv2
          rw [hz'.int_inv] at hv3
          rw [hv.v_inv, hv2.v_inv, hv3.v_inv]
          obtain ⟨_, g2, g3, g4⟩ := store_left (m := m) e2 hpe hb hst (hh.mono hW) hH
          exact ⟨_, _, hl hc hz, _, .v (.bool true), s, own, _, rfl, g3, g2, .v _, ρ, .refl ρ, .bool .., g4⟩
        · cases h
      | false =>
        rw [hmn] at h
        have hmn : ¬ m = n := by simpa using hmn
        cases h
        refine ⟨.refl .., fun ρ H xs' W hxs hh w s own vs Wr hst hr hW hf => .inr ?_⟩
        obtain ⟨x', t, rfl, hx, ht⟩ := hxs.cons_inv
        obtain ⟨y', t2, rfl, hy, ht2⟩ := ht.cons_inv
        obtain ⟨z', t3, rfl, hz', ht3⟩ := ht2.cons_inv
        cases ht3.nil_inv
        obtain ⟨b, o, p', T, l, hpe, hb, rfl, hH, _, hc, hz, _, _⟩ := xld_cell e hst hh hx
        obtain ⟨v, us, rfl, hv, hu⟩ := hr.cons_inv
        obtain ⟨v2, us2, rfl, hv2, hu2⟩ := hu.cons_inv
        obtain ⟨v3, us3, rfl, hv3, hu3⟩ := hu2.cons_inv
        cases hu3.nil_inv
        rw [hy.int_inv] at hv2
        rw [hz'.int_inv] at hv3
        rw [hv.v_inv, hv2.v_inv, hv3.v_inv]
        exact ⟨_, w, hm hc hz hmn, _, .v (.bool false), s, own, H, rfl, Ext.refl .., hst, .v _, ρ, .refl ρ, .bool .., hh.mono hW⟩
    · cases h
  · cases h
theorem run_loadBytes' : ∀ (l : List Int) (b o : Nat) (acc : ByteArray) (w : World), (∀ j x, l[j]? = some x → w.cell? ⟨b, o + j, none⟩ = some (.int .u8 x)) →
    (Extern.Bytes.loadBytes ⟨b, o, none⟩ l.length acc).run P w = .ok ⟨acc.data ++ (l.map fun n => UInt8.ofNat n.toNat).toArray⟩ w
  | [], b, o, acc, w, _ => by simp [Extern.Bytes.loadBytes]
  | x :: l, b, o, acc, w, h => by
    have h0 : w.cell? ⟨b, o, none⟩ = some (.int .u8 x) := by simpa using h 0 x rfl
    have ha : (⟨b, o, none⟩ : Addr).add 1 = ⟨b, o + 1, none⟩ := by simp [Addr.add]
    have ih := run_loadBytes' l b (o + 1) (acc.push x.toNat.toUInt8) w (fun j y hy => by
      have := h (j + 1) y (by simpa using hy)
      rwa [show o + (j + 1) = o + 1 + j by omega] at this)
    simp only [List.length_cons, Extern.Bytes.loadBytes, Sem.run_bind, run_load, h0, Result.andThen, ha]
    rw [ih]
    congr 1
    apply ByteArray.ext
    simp [ByteArray.push]
/-- a text's bytes, as the library reads them -/
theorem xtext_run {x x' : AV} {v : Value} {bl : List UInt8} (h : xtext hp x = some bl) (hst : St w s own H) (hh : HR lo Wr ρ hp nx H) (hx : RA ρ x x') (hv : Rep s x' v) : (Extern.Bytes.bytesOf v).run P w = .ok ⟨bl.toArray⟩ w := by
  -- the cells
  have key : ∀ m, xsrc 1 hp x = some m → xbytes m = some bl → (∀ b, x ≠ .v (.string b)) → (Extern.Bytes.bytesOf v).run P w = .ok ⟨bl.toArray⟩ w := fun m e1 e2 hns => by
    obtain ⟨m', hm', rm⟩ := xsrc_sound e1 hh hx
    have hlen : ∀ r ∈ m', r.length = 1 := rm.rows (xbytes_rows e2)
    have fin : ∀ {b o c : Nat} {vs : List Value}, Reps s m'.flatten vs → (∀ j z, vs[j]? = some z → w.cell? ⟨b, o + j, none⟩ = some z) → vs.length = m'.length → (Extern.Bytes.bytesOf (.slice (some ⟨b, o, none⟩) m'.length c)).run P w = .ok ⟨bl.toArray⟩ w := fun {b o c vs} hr hc hl => by
      obtain ⟨ns, g1, g2⟩ := xbytes_sound e2 rm hr
      subst g1
      have := run_loadBytes' (P := P) ns b o .empty w (fun j y hy => hc j _ (by simp [hy]))
      have hl : ns.length = m'.length := by simpa using hl
      rw [hl] at this
      show (Extern.Bytes.loadBytes ⟨b, o, none⟩ m'.length .empty).run P w = _
      rw [this, g2]
      have e0 : ByteArray.empty.data = #[] := rfl
      rw [e0]
      simp
    have nil_ : ∀ c, m' = [] → (Extern.Bytes.bytesOf (.slice none 0 c)).run P w = .ok ⟨bl.toArray⟩ w := fun c e => by
      subst e
      have := List.eq_nil_of_length_eq_zero rm.1
      subst this
      cases e2
      rfl
    unfold asrcG at hm'
    split at hm'
    · cases hm'
      rw [hv.v_inv]
      exact nil_ 0 rfl
    · rename_i b o n c
      rw [hv.v_inv]
      split at hm'
      · rename_i T l hb
        split at hm'
        · rename_i hle
          cases hm'
          obtain ⟨_, vs, hvs, rl, _⟩ := hst.obj b _ hb
          have hvl : vs.length = l.length := rl.1
          have hfl := rowsOf_flat 1 n (l.drop o) (by simp; omega)
          have := fin (b := b) (o := o) (c := c) (vs := (vs.drop o).take n) (by rw [hfl, Nat.mul_one]; exact (rl.drop o).take n) (fun j z hz => by
            rw [List.getElem?_take] at hz
            split at hz
            · rw [List.getElem?_drop] at hz
              simp [World.cell?, hvs, hz]
            · cases hz) (by rw [rowsOf_len]; simp; omega)
          rw [rowsOf_len] at this
          exact this
        · cases hm'
      · cases hm'
    · -- a string
      cases hx with
      | any => cases e1
      | v y _ h => exact absurd (by rw [h.str_back]) (hns _)
    · cases hm'
      rcases rows_inv hv rfl with ⟨rfl, a0, c0, rfl, hn0, hx0⟩ | ⟨b, o, es, c, f, rfl, g1, g2, g3, g4, g5⟩
      · cases a0 with
        | none => exact nil_ c0 rfl
        | some a =>
          have := List.eq_nil_of_length_eq_zero rm.1
          subst this
          cases e2
          rfl
      · obtain ⟨vs, h1, h2, h3⟩ := row_cells g1 g2 g3
        rcases Nat.eq_zero_or_pos m'.length with h0 | h0
        · have hm0 := List.eq_nil_of_length_eq_zero h0
          subst hm0
          have := List.eq_nil_of_length_eq_zero rm.1
          subst this
          cases e2
          rfl
        · have hes : es = 1 := by rw [← g1 _ (List.getElem_mem h0), hlen _ (List.getElem_mem h0)]
          subst hes
          exact fin h2 (fun j z hz => (hst.imm b _ _ (h3 j z hz)).2.1) (by rw [h1, Nat.mul_one])
    · cases hm'
  unfold xtext at h
  split at h
  · cases h
  · rename_i hns
    split at h
    · rename_i m e1
      exact key m e1 h fun b hb => hns b hb
    · cases h
theorem spCmp_sound (hl : ∀ {a b x y w}, (Extern.Bytes.bytesOf a).run P w = .ok ⟨x⟩ w → (Extern.Bytes.bytesOf b).run P w = .ok ⟨y⟩ w → (callFunc f #[a, b]).run P w = .ok (.value (.int .i64 (Lib.compareBytes x.toList y.toList))) w) : FS1 P f spCmp := by
  intro xs hp nx lo a hp' nx' h hlo
  unfold spCmp at h
  split at h
  · rename_i x y
    split at h
    · rename_i t1 t2 e1 e2
      cases h
      refine ⟨.refl .., fun ρ H xs' W hxs hh w s own vs Wr hst hr hW hf => .inr ?_⟩
      obtain ⟨x', t, rfl, hx, ht⟩ := hxs.cons_inv
      obtain ⟨y', t2', rfl, hy, ht2⟩ := ht.cons_inv
      cases ht2.nil_inv
      obtain ⟨v, us, rfl, hv, hu⟩ := hr.cons_inv
      obtain ⟨v2, us2, rfl, hv2, hu2⟩ := hu.cons_inv
      cases hu2.nil_inv
      have := hl (xtext_run (P := P) e1 hst hh hx hv) (xtext_run (P := P) e2 hst hh hy hv2)
      exact ⟨_, w, this, _, .v (.int .i64 (Lib.compareBytes t1 t2)), s, own, H, rfl, Ext.refl .., hst, .v _, ρ, .refl ρ, .int .., hh.mono hW⟩
    · cases h
  · cases h
end
end Go.Proofs.YtiallkiiofomgaaGreat
