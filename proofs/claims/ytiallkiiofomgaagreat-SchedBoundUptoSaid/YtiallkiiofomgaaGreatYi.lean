/- A run that is reckoned out: calls; an operation, whatever it is. -/
import Derived.Test.YtiallkiiofomgaaGreatYh
namespace Go.Proofs.YtiallkiiofomgaaGreat
/-- what stands below lo is as it was -/
def XG (lo : Nat) (hp : XH) (nx : Nat) (hp' : XH) (nx' : Nat) : Prop := nx ≤ nx' ∧ ∀ i, i < lo → hp'.get i = hp.get i
section
variable {lo : Nat} {hp hp' : XH} {nx nx' : Nat}
theorem XG.refl (lo : Nat) (hp : XH) (nx : Nat) : XG lo hp nx hp nx := ⟨Nat.le_refl _, fun _ _ => rfl⟩
theorem XG.trans {hp2 : XH} {nx2 : Nat} (h : XG lo hp nx hp' nx') (k : XG lo hp' nx' hp2 nx2) : XG lo hp nx hp2 nx2 := ⟨Nat.le_trans h.1 k.1, fun i hi => (k.2 i hi).trans (h.2 i hi)⟩
theorem XG.up {lo' : Nat} (h : XG lo' hp nx hp' nx') (k : lo ≤ lo') : XG lo hp nx hp' nx' := ⟨h.1, fun i hi => h.2 i (by omega)⟩
theorem XG.set (hp : XH) (nx : Nat) {b : Nat} (h : lo ≤ b) (O : XO) : XG lo hp nx (hp.set b O) nx := ⟨Nat.le_refl _, fun i hi => by rw [Tr.get_set, if_neg (by omega)]⟩
theorem XG.new (hp : XH) {nx : Nat} (h : lo ≤ nx) (O : XO) : XG lo hp nx (hp.set nx O) (nx + 1) := ⟨Nat.le_succ _, fun i hi => by rw [Tr.get_set, if_neg (by omega)]⟩
theorem xkeep_g {o : Option AV} {a : AV} (h : xkeep hp nx o = some (a, hp', nx')) : XG lo hp nx hp' nx' := by
  obtain ⟨_, rfl, rfl⟩ := xkeep_inv h; exact .refl ..
theorem xgrow_g {te sz n : Nat} {l : List AV} {a : AV} (h : xgrow te sz n l hp nx = some (a, hp', nx')) (hlo : lo ≤ nx) : XG lo hp nx hp' nx' := by
  obtain ⟨_, h⟩ := bif_some h; cases h; exact .new hp hlo _
theorem xap_g {e : Option (TypeId × Nat × Nat)} {zk : Bool} {tn : Nat} {x y a : AV} (h : xap lo e zk tn x y hp nx = some (a, hp', nx')) (hlo : lo ≤ nx) : XG lo hp nx hp' nx' := by
  unfold xap at h
  split at h
  · split at h
    · obtain ⟨_, h⟩ := bif_opt h
      split at h
      · obtain ⟨_, h⟩ := bif_opt h
        split at h
        · cases h; exact .refl ..
        · exact xgrow_g h hlo
      · obtain ⟨_, h⟩ := bif_opt h
        split at h
        · cases h; exact .refl ..
        · exact xgrow_g h hlo
      · obtain ⟨_, h⟩ := bif_opt h
        split at h
        · obtain ⟨k, h⟩ := bif_opt h
          simp only [Bool.and_eq_true] at k
          exact (XG.set hp nx (ble_le k.1.1) _).trans (xgrow_g h hlo)
        · cases h
      · cases h
    · cases h
  · cases h
theorem xcp_g {e : Option (TypeId × Nat × Nat)} {tn : Nat} {x y a : AV} (h : xcp lo e tn x y hp = some (a, hp')) : XG lo hp nx hp' nx := by
  unfold xcp at h
  split at h
  · split at h
    · obtain ⟨_, h⟩ := bif_opt h
      split at h
      · cases h; exact .refl ..
      · split at h
        · obtain ⟨k, h⟩ := bif_some h
          cases h
          simp only [Bool.and_eq_true] at k
          exact .set hp nx (ble_le k.1) _
        · cases h
      · cases h
    · cases h
  · cases h
theorem xnew_g {T : TypeId} {m : Option (List AV)} {a : AV} (h : xnew T m hp nx = some (a, hp', nx')) (hlo : lo ≤ nx) : XG lo hp nx hp' nx' := by
  unfold xnew at h
  split at h
  · cases h; exact .new hp hlo _
  · cases h
theorem xmap_g {P : Program} {rv : Operand → AV} {op : Op} {a : AV} (h : xmap lo P rv hp nx op = some (a, hp', nx')) (hlo : lo ≤ nx) : XG lo hp nx hp' nx' := by
  unfold xmap at h
  split at h
  · obtain ⟨_, h⟩ := bif_some h; cases h; exact .new hp hlo _
  · obtain ⟨_, h⟩ := bif_opt h
    split at h
    · split at h
      · split at h <;> (cases h; exact .refl ..)
      · cases h
    · cases h
  · obtain ⟨_, h⟩ := bif_opt h
    split at h
    · split at h
      · obtain ⟨k, h⟩ := bif_opt h
        split at h <;> (cases h; exact .set hp nx (ble_le k) _)
      · cases h
    · cases h
  · cases h
theorem xop_g {P : Program} {rv : Operand → AV} {op : Op} {a : AV} (h : xop lo P rv hp nx op = some (a, hp', nx')) (hlo : lo ≤ nx) : XG lo hp nx hp' nx' := by
  have pg : ∀ op', op = op' → xkeep hp nx (xpop P rv op') = some (a, hp', nx') → XG lo hp nx hp' nx' := fun _ _ e => xkeep_g e
  cases op <;> try exact pg _ rfl h
  case load t x => exact xkeep_g (show xkeep hp nx (xld (tK P t) (rv x) hp) = some (a, hp', nx') from h)
  case store t x y =>
    have h : (match xst lo (tS P t) (rv x) (rv y) hp with | some hp => some (AV.v undef, hp, nx) | none => none) = some (a, hp', nx') := h
    split at h
    · rename_i hp2 e1
      cases h
      unfold xst at e1
      split at e1
      · split at e1
        · obtain ⟨k, e1⟩ := bif_some e1
          subst e1
          simp only [Bool.and_eq_true] at k
          exact .set hp _ (ble_le k.1.1) _
        · cases e1
      · cases e1
    · cases h
  case alloc t => exact xnew_g h hlo
  case box t x => exact xnew_g h hlo
  case makeSlice t x y =>
    have h : xmk (tE P t) (xZe P (tE P t)) (num (rv x)) (num (rv y)) hp nx = some (a, hp', nx') := h
    unfold xmk at h
    split at h
    · obtain ⟨_, h⟩ := bif_some h; cases h; exact .new hp hlo _
    · cases h
  case buildSlice t n pa =>
    have h : xbs (tEz P t) (tE P t) n rv pa.toList hp nx = some (a, hp', nx') := h
    unfold xbs at h
    split at h
    · split at h
      · obtain ⟨_, h⟩ := bif_some h; cases h; exact .refl ..
      · obtain ⟨_, h⟩ := bif_some h; cases h; exact .new hp hlo _
      · cases h
    · cases h
  case makeMap t r => exact xmap_g (P := P) (rv := rv) (op := .makeMap t r) h hlo
  case lookup t m k c => exact xmap_g (P := P) (rv := rv) (op := .lookup t m k c) h hlo
  case mapUpdate t m k v => exact xmap_g (P := P) (rv := rv) (op := .mapUpdate t m k v) h hlo
  case convert t u x =>
    have h : (bif (tI P t).isSome && (tI P u).isSome then xkeep hp nx (xcvt (tN P t) (tI P u) (rv x))
      else bif Nat.beq t u then xmark lo (tE P t) (tU8 P t) (rv x) hp nx
      else bif tU8 P t && Nat.beq (tN P u) 7 then (match xstr hp (rv x) with
        | some l => some (AV.v (.string ⟨l.toArray⟩), hp, nx)
        | none => none)
      else none) = some (a, hp', nx') := h
    cases c1 : (tI P t).isSome && (tI P u).isSome with
    | true => rw [c1] at h; exact xkeep_g h
    | false =>
      rw [c1] at h
      cases c2 : Nat.beq t u with
      | true =>
        rw [c2] at h
        simp only [cond_false, cond_true] at h
        unfold xmark at h
        split at h
        · split at h
          · obtain ⟨k, h⟩ := bif_some h
            cases h
            simp only [Bool.and_eq_true] at k
            exact .set hp _ (ble_le k.1.1) _
          · cases h
        · cases h
      | false =>
        rw [c2] at h
        obtain ⟨_, h⟩ := bif_opt h
        split at h
        · cases h; exact .refl ..
        · cases h
  case call c =>
    have hb : xcb lo P rv hp nx c.callee c.args.toList c.argTypes.toList = some (a, hp', nx') := h
    unfold xcb at hb
    split at hb
    · exact xap_g hb hlo
    · split at hb
      · rename_i e1; cases hb; exact xcp_g e1
      · cases hb
    · exact xkeep_g hb
end
theorem HR.mono {lo : Nat} {Wr Wr' : Nat → Prop} {ρ : Rho} {hp : XH} {nx : Nat} {H : Hp} (h : HR lo Wr ρ hp nx H) (k : ∀ b, Wr b → Wr' b) : HR lo Wr' ρ hp nx H := ⟨h.lt, h.obj, h.inj, fun i O p hl e g r => k _ (h.wr i O p hl e g r)⟩
/-- a block that a name from lo on stands for -/
def LB (lo : Nat) (ρ : Rho) (hp : XH) (b : Nat) : Prop := ∃ i O p, lo ≤ i ∧ hp.get i = some O ∧ O ≠ .gone ∧ ρ i = some p ∧ p.1 = b
theorem HR.lb {lo lo' : Nat} {Wr Wr' : Nat → Prop} {ρ : Rho} {hp : XH} {nx : Nat} {H : Hp} (h : HR lo Wr ρ hp nx H) (k : ∀ b, LB lo' ρ hp b → Wr' b) : HR lo' Wr' ρ hp nx H := ⟨h.lt, h.obj, h.inj, fun i O p hl e g r => k _ ⟨i, O, p, hl, e, g, r, rfl⟩⟩
/-- what is told behind a call -/
def XR' (lo : Nat) (ρ : Rho) (a : AV) (hp' : XH) (nx' : Nat) : Rs := fun N b H' => XK lo N ρ a hp' nx' b H'
/-- the calls are reckoned rightly -/
def FS (P : Program) (F : XF) : Prop := ∀ f xs hp nx lo a hp' nx', F f xs hp nx lo = some (a, hp', nx') → lo ≤ nx → XG lo hp nx hp' nx' ∧
  ∀ (ρ : Rho) (H : Hp) (xs' : List AV) (W : List Nat), RAs ρ xs xs' → HR lo (fun b => b ∈ W) ρ hp nx H → AC P f xs' H W (XR' lo ρ a hp' nx')
section
variable {P : Program} {s : Sto} {w : World} {own : Nat → Option Nat} {H : Hp} {Wr : Nat → Prop} {lo : Nat} {ρ : Rho} {hp : XH} {nx : Nat}
/-- the blocks of the names from lo on -/
def lbs (lo : Nat) (ρ : Rho) (hp : XH) (nx : Nat) : List Nat := (List.range nx).filterMap fun i => if lo ≤ i then (match hp.get i with
  | some .gone => none
  | none => none
  | some _ => (ρ i).map (·.1)) else none
theorem HR.lbs_mem (h : HR lo Wr ρ hp nx H) (lo' : Nat) : HR lo' (fun b => b ∈ lbs lo' ρ hp nx) ρ hp nx H := ⟨h.lt, h.obj, h.inj, fun i O p hl e g r => by
  unfold lbs
  refine List.mem_filterMap.2 ⟨i, List.mem_range.2 (h.lt i p r), ?_⟩
  rw [if_pos hl, e]
  cases O <;> first | exact absurd rfl g | simp [r]⟩
theorem lbs_lb {lo' b : Nat} (h : b ∈ lbs lo' ρ hp nx) : LB lo' ρ hp b := by
  unfold lbs at h
  obtain ⟨i, _, h⟩ := List.mem_filterMap.1 h
  split at h
  · rename_i hl
    split at h
    · cases h
    · cases h
    · rename_i O hne e
      rw [Option.map_eq_some_iff] at h
      obtain ⟨p, hp', rfl⟩ := h
      exact ⟨i, O, p, hl, e, fun q => hne q, hp', rfl⟩
  · cases h
theorem RA.vals {l m : List Value} (h : RAs ρ (l.map .v) (m.map .v)) : RAs ρ (l.map .v) (m.map .v) := h
theorem xmeth_run {t : TypeId} {name : String} {g : FuncId} (h : xmeth P t name = some g) (v : Value) (w : World) : (method (P.types.size + Made.depth) t v name).run P w = .ok (g, v) w := by
  unfold xmeth at h
  split at h
  · rename_i i e hi hu
    split at h
    · rename_i m hm
      split at h
      · rename_i f hf
        obtain ⟨hp, rfl⟩ := bif_some h
        have hpl : m.path.toList = [] := by simpa using hp
        have hfu : ∃ n, P.types.size + Made.depth = n + 1 := ⟨P.types.size + (Made.depth - 1), by have : 0 < Made.depth := by decide
                                                                                                  omega⟩
        obtain ⟨n, hn⟩ := hfu
        rw [hn]
        unfold method
        simp only [typeInfo, Sem.run_bind, run_program, Result.andThen_ok, hi, Sem.run_pure, hm, hpl, follow, hf, receiverAt, run_underlying hu, Place.get]
      · cases h
    · cases h
  · cases h
/-- what an operation is said to leave -/
structure Left (P : Program) (lo : Nat) (Wr : Nat → Prop) (w : World) (s : Sto) (own : Nat → Option Nat) (ρ : Rho) (hp : XH) (a : AV) (hp' : XH) (nx' : Nat) (quiet : Prop) (x : Value) (w' : World) (s' : Sto) (own' : Nat → Option Nat) (H' : Hp) (r : AV) (σ : Rho) : Prop where
  ext : Ext Wr w s own w' s' own'
  st : St w' s' own' H'
  rep : Rep s' r x
  le : ρ.le σ
  ra : RA σ a r
  hr : HR lo Wr σ hp' nx' H'
  still : quiet → ∀ b, b < w.heap.size → w'.heap[b]? = w.heap[b]?
  frame : ∀ b, own b = some b → (∀ i O p, hp.get i = some O → O ≠ .gone → ρ i = some p → p.1 ≠ b) → (∀ b', own b' = some b → w'.heap[b']? = w.heap[b']? ∧ own' b' = some b) ∧ ∀ i O p, hp'.get i = some O → O ≠ .gone → σ i = some p → p.1 ≠ b
/-- the least that may be written -/
def Wl (lo : Nat) (ρ : Rho) (hp : XH) (w : World) : Nat → Prop := fun b => LB lo ρ hp b ∨ w.heap.size ≤ b
theorem left_of {a : AV} {hp' : XH} {nx' : Nat} {quiet : Prop} {x : Value} {w' : World} {s' : Sto} {own' : Nat → Option Nat} {H' : Hp} {r : AV} {σ : Rho} {lo' : Nat} (hll : lo ≤ lo') (hst : St w s own H) (hf : ∀ m, w.heap.size ≤ m → Wr m) (hh : HR lo Wr ρ hp nx H) (hg : XG lo' hp nx hp' nx')
    (hx : Ext (Wl lo' ρ hp w) w s own w' s' own') (hst' : St w' s' own' H') (hrep : Rep s' r x) (hle : ρ.le σ) (hra : RA σ a r) (hhr : HR lo' (Wl lo' ρ hp w) σ hp' nx' H') (hq : quiet → ∀ b, b < w.heap.size → w'.heap[b]? = w.heap[b]?) : Left P lo Wr w s own ρ hp a hp' nx' quiet x w' s' own' H' r σ := by
  have wl : ∀ b, Wl lo' ρ hp w b → Wr b := fun b hb => by
    rcases hb with ⟨i, O, p, hl, e, g, hr, rfl⟩ | hb
    · exact hh.wr i O p (by omega) e g hr
    · exact hf b hb
  refine ⟨hx.mono fun b m _ _ q => wl m q, hst', hrep, hle, hra, ⟨hhr.lt, hhr.obj, hhr.inj, fun i O p hl e g hr => ?_⟩, hq, fun b hb hn => ⟨fun b' hb' => ?_, fun i O p e g hr => ?_⟩⟩
  · by_cases h : lo' ≤ i
    · exact wl _ (hhr.wr i O p h e g hr)
    · rw [hg.2 i (by omega)] at e
      obtain ⟨q, hq', _⟩ := hh.obj i O e g
      have := hle i q hq'
      rw [hr] at this; cases this
      exact hh.wr i O p hl e g hq'
  · have hlt := (hst.lt b' b hb').1
    obtain ⟨k1, k2⟩ := hx.keep b' hlt fun m hm q => by
      rw [hb'] at hm; cases hm
      rcases q with ⟨i, O, p, _, e, g, hr, e2⟩ | q
      · exact hn i O p e g hr e2
      · have := (hst.lt b' b hb').2; omega
    exact ⟨k1, k2.trans hb'⟩
  · by_cases h : lo' ≤ i
    · intro e2
      rcases hhr.wr i O p h e g hr with ⟨j, O2, q, _, e3, g3, hr3, e4⟩ | q
      · exact hn j O2 q e3 g3 hr3 (e4.trans e2)
      · have := (hst.lt b b hb).1; omega
    · rw [hg.2 i (by omega)] at e
      obtain ⟨q, hq', _⟩ := hh.obj i O e g
      have := hle i q hq'
      rw [hr] at this; cases this
      exact hn i O p e g hq'
/-- an operation, reckoned -/
theorem xrun_wp {F : XF} (hF : FS P F) {pu : Option Tmp → Bool} {o : Oper} {st st' : XS} {fr : Fr} {tm : Array Value} {ds : List Deferred} {K : Act → World → Prop} {Q : Exit → Act → World → Prop}
    (h : xrun lo P F pu o st = some st') (hlo : lo ≤ st.nx) (hst : St w s own H) (hf : ∀ m, w.heap.size ≤ m → Wr m) (hh : HR lo Wr ρ st.hp st.nx H) (hr : ∀ x ∈ o.op.operands, RA ρ (xev st.fr x) (aev fr x)) (hrep : ∀ x ∈ o.op.operands, Rep s (aev fr x) (Act.eval ⟨tm, ds⟩ x))
    (hk : ∀ a x w' s' own' H' r σ, st' = ⟨xput st.fr o.dst a, st'.hp, st'.nx⟩ → lo ≤ st'.nx → Left P lo Wr w s own ρ st.hp a st'.hp st'.nx (xW o.op = false ∧ (isCall o.op = true → pu o.dst = true)) x w' s' own' H' r σ → K (Act.put ⟨tm, ds⟩ o.dst x) w') : o.wp P ⟨tm, ds⟩ w K Q := by
  have wlf : ∀ lo' m, w.heap.size ≤ m → Wl lo' ρ st.hp w m := fun lo' m hm => .inr hm
  have hhl : ∀ lo', HR lo' (Wl lo' ρ st.hp w) ρ st.hp st.nx H := fun lo' => hh.lb fun b hb => .inl hb
  have plain : ∀ {a hp' nx'}, xop lo P (xev st.fr) st.hp st.nx o.op = some (a, hp', nx') → isCall o.op = false → st' = ⟨xput st.fr o.dst a, hp', nx'⟩ → o.wp P ⟨tm, ds⟩ w K Q := fun {a hp' nx'} e hnc es => by
    subst es
    have hg := xop_g e hlo
    refine (xop_sound e hst (wlf lo) (hhl lo) hr hrep).wp fun x w' s' own' H' r hx hq hst' hrr hkk => ?_
    obtain ⟨σ, h1, h2, h3⟩ := hkk
    exact hk a x w' s' own' H' r σ rfl (Nat.le_trans hlo hg.1) (left_of (Nat.le_refl _) hst hf hh hg hx hst' hrr h1 h2 h3 fun q => hq q.1)
  unfold xrun at h
  split at h
  · rename_i a hp' nx' e
    cases h
    split at e
    · rename_i c hc
      cases hic : isCall (.call c) with
      | false =>
        rw [hic] at e
        exact plain (by rw [hc]; exact e) (by rw [hc]; exact hic) rfl
      | true =>
        rw [hic] at e
        simp only [cond_true] at e
        -- whom it calls
        have fin : ∀ {g : FuncId} {xs xs' : List AV}, F g xs st.hp st.nx (bif pu o.dst then st.nx else lo) = some (a, hp', nx') → RAs ρ xs xs' →
            (∀ k, acall P (Wl (bif pu o.dst then st.nx else lo) ρ st.hp w) false g xs' H k → ecl P (Wl (bif pu o.dst then st.nx else lo) ρ st.hp w) false (aev fr) H c k) → o.wp P ⟨tm, ds⟩ w K Q := fun {g xs xs'} e1 hxs hecl => by
          have hlo' : (bif pu o.dst then st.nx else lo) ≤ st.nx := by cases pu o.dst <;> simp [hlo]
          have hll : lo ≤ (bif pu o.dst then st.nx else lo) := by cases pu o.dst <;> simp [hlo]
          obtain ⟨hg, hac⟩ := hF _ _ _ _ _ _ _ _ e1 hlo'
          have hac := hac ρ H xs' (lbs (bif pu o.dst then st.nx else lo) ρ st.hp st.nx) hxs (hh.lbs_mem _)
          have hacall : acall P (Wl (bif pu o.dst then st.nx else lo) ρ st.hp w) false g xs' H fun b H' => XK (bif pu o.dst then st.nx else lo) (Wl (bif pu o.dst then st.nx else lo) ρ st.hp w) ρ a hp' nx' b H' :=
            ⟨_, _, hac, (fun q => by cases q), fun m hm => .inl (lbs_lb hm), fun N b H' hN hR => by
              obtain ⟨σ, h1, h2, h3⟩ := hR
              exact ⟨σ, h1, h2, h3.mono hN⟩⟩
          refine ecl_sound hc hst (wlf _) hrep (hecl _ hacall) fun x w' s' own' H' r hx _ hst' hrr hkk => ?_
          obtain ⟨σ, h1, h2, h3⟩ := hkk
          refine hk a x w' s' own' H' r σ rfl (Nat.le_trans hlo hg.1) (left_of hll hst hf hh hg hx hst' hrr h1 h2 h3 fun q b hb => ?_)
          have hpu := q.2 (by rw [hc]; exact hic)
          refine (hx.keep b hb fun m hm hw => ?_).1
          rw [hpu] at hw
          rcases hw with ⟨i, O, p, hl, e3, g3, hr3, e4⟩ | hw
          · have := hh.lt i p hr3
            simp only [cond_true] at hl
            omega
          · have := (hst.lt b m hm).2; omega
        unfold xcall at e
        have hargs : RAs ρ (c.args.toList.map (xev st.fr)) (c.args.toList.map fun x => nrm (aev fr x)) := ⟨by simp, fun i a b e g => by
          rw [List.getElem?_map, Option.map_eq_some_iff] at e g
          obtain ⟨z, hz, rfl⟩ := e
          obtain ⟨z', hz', rfl⟩ := g
          rw [hz] at hz'; cases hz'
          refine (hr z ?_).nrm
          have hm : z ∈ c.args := by simpa using List.mem_of_getElem? hz
          rw [hc]
          cases e : c.callee <;> simp [Op.operands, Call.operands, e, hm]⟩
        split at e
        · rename_i f hcf
          split at e
          · rename_i g l r hfv
            have h1 := (hr f (by rw [hc]; simp [Op.operands, Call.operands, hcf])).nrm
            rw [hfv] at h1
            obtain ⟨l', r', hl', hr', hfe⟩ := h1.fn_inv
            refine fin e ((hl'.append hargs).append hr') fun k hk => ?_
            unfold ecl
            rw [hcf]
            show ecv P _ false (nrm (aev fr f)) _ H k
            rw [hfe]
            exact hk
          · cases e
        · rename_i x m hcf
          split at e
          · rename_i t v hxv
            split at e
            · rename_i g hm
              have h1 := (hr x (by rw [hc]; simp [Op.operands, Call.operands, hcf])).nrm
              rw [hxv] at h1
              obtain ⟨y, hy, hye⟩ := h1.if_inv
              refine fin e (RAs.cons (.v _ _ hy) hargs) fun k hk => ?_
              unfold ecl
              rw [hcf]
              show eiv P _ false m (nrm (aev fr x)) _ H k
              rw [hye]
              exact ⟨g, y, fun w => xmeth_run hm y w, hk⟩
            · cases e
          · cases e
        · cases e
    · rename_i hne
      refine plain (a := a) (hp' := hp') (nx' := nx') ?_ ?_ rfl
      · exact e
      · cases hop : o.op <;> first | rfl | exact absurd hop (hne _)
  · cases h
end
end Go.Proofs.YtiallkiiofomgaaGreat
