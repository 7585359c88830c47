/- A run that is reckoned out: functions, what is deferred; all calls. -/
import Derived.Test.YtiallkiiofomgaaGreatYm
namespace Go.Proofs.YtiallkiiofomgaaGreat
section
variable {P : Program} {Wr : Nat → Prop} {lo : Nat} {F : XF} {PU : FuncId → Bool} {lim : Nat} {pu : Option Tmp → Bool} {ops : Array Oper}
/-- a region in the order of the text, and what comes behind it -/
theorem xO_cps (hF : FS P F) {Q : Exit → Act → World → Prop} {tail : List Oper} : ∀ (l : List Oper) {st st' : XS} {ρ : Rho} {fr : Fr} {H : Hp} {w : World} {s : Sto} {own : Nat → Option Nat} {tm : Array Value} {ds : List Deferred}, xO lo P F pu ops l st = some st' → lo ≤ st.nx → St w s own H → RepF s fr tm → (∀ m, w.heap.size ≤ m → Wr m) → HR lo Wr ρ st.hp st.nx H → FR ρ st.fr fr [] →
    l.all (Oper.bd ops tm.size) = true → (∀ σ fr' H' w' s' own' tm', ρ.le σ → lo ≤ st'.nx → Ext Wr w s own w' s' own' → St w' s' own' H' → RepF s' fr' tm' → tm'.size = tm.size → FR σ st'.fr fr' [] → HR lo Wr σ st'.hp st'.nx H' → wpList P ops Q tail ⟨tm', ds⟩ w') → wpList P ops Q (l ++ tail) ⟨tm, ds⟩ w
  | [], st, st', ρ, fr, H, w, s, own, tm, ds, h, hlo, hst, hfr, hf, hh, hfx, _, hK => by
    cases h
    exact hK ρ fr H w s own tm (.refl ρ) hlo (Ext.refl ..) hst hfr rfl hfx hh
  | o :: l, st, st', ρ, fr, H, w, s, own, tm, ds, h, hlo, hst, hfr, hf, hh, hfx, hb, hK => by
    simp only [List.all_cons, Bool.and_eq_true] at hb
    obtain ⟨hbo, hbl⟩ := hb
    unfold xO at h
    split at h
    · rename_i st1 h1
      have hbo' := hbo
      unfold Oper.bd at hbo'
      simp only [Bool.and_eq_true] at hbo'
      have hop : ∀ x ∈ o.op.operands, Rep s (aev fr x) (Act.eval ⟨tm, ds⟩ x) := fun x hx => hfr.eval (List.all_eq_true.1 hbo'.1.2 x (by simpa using hx))
      have fin : ∀ {a x r : _} {w' : World} {s' : Sto} {own' : Nat → Option Nat} {H' : Hp} {σ : Rho}, st1 = ⟨xput st.fr o.dst a, st1.hp, st1.nx⟩ → lo ≤ st1.nx → Ext Wr w s own w' s' own' → St w' s' own' H' → Rep s' r x → ρ.le σ → RA σ a r → HR lo Wr σ st1.hp st1.nx H' → wpList P ops Q (l ++ tail) (Act.put ⟨tm, ds⟩ o.dst x) w' :=
        fun {a x r w' s' own' H' σ} e hlo1 hx hst' hrr hle hra hhr => by
          have hsz : (Act.put ⟨tm, ds⟩ o.dst x).tmps.size = tm.size := by cases o.dst <;> simp [Act.put]
          have e1 : (⟨(Act.put ⟨tm, ds⟩ o.dst x).tmps, ds⟩ : Act) = Act.put ⟨tm, ds⟩ o.dst x := by cases o.dst <;> rfl
          have hfx' : FR σ st1.fr (fput fr o.dst r) [] := by rw [e]; exact hfx.put hle o.dst hra
          rw [← e1]
          exact xO_cps hF l (tm := (Act.put ⟨tm, ds⟩ o.dst x).tmps) (ds := ds) h hlo1 hst' ((hfr.mono hx.le).put o.dst hrr) (fun m hm => hf m (Nat.le_trans hx.size hm)) hhr hfx' (by rw [hsz]; exact hbl) (fun τ fr' H'' w2 s2 own2 tm2 h1 h2 h3 h4 h5 h6 => hK τ fr' H'' w2 s2 own2 tm2 (hle.trans h1) h2 (hx.trans h3) h4 h5 (h6.trans hsz))
      rw [List.cons_append]
      unfold wpList
      rcases guard_cases h1 hfr hfx hbo (clear_nil o) with ⟨hw, hr⟩ | ⟨hw, rfl⟩
      · rw [if_pos hw]
        refine .inl (xrun_wp hF hr hlo hst hf hh (clear_ops (ops := ops) (clear_nil o) hfx) hop fun a x w' s' own' H' r σ e hlo1 L => ?_)
        exact fin e hlo1 L.ext L.st L.rep L.le L.ra L.hr
      · rw [if_neg (by rw [hw]; simp)]
        exact fin rfl hlo (Ext.refl ..) hst (.v _) (.refl ρ) (.v _ _ (.k _ rfl)) hh
    · cases h
/-- what a function gives back -/
def RQ (lo : Nat) (Wr : Nat → Prop) (w : World) (s : Sto) (own : Nat → Option Nat) (ρ : Rho) (a : AV) (hp' : XH) (nx' : Nat) : Ending → World → Prop := fun e w' => ∃ v b s' own' H', e = .returned v ∧ Ext Wr w s own w' s' own' ∧ St w' s' own' H' ∧ Rep s' b v ∧ XK lo Wr ρ a hp' nx' b H'
theorem RQ.back {w w1 w' : World} {s s1 : Sto} {own own1 : Nat → Option Nat} {ρ σ : Rho} {a : AV} {hp' : XH} {nx' : Nat} {e : Ending} (x : Ext Wr w s own w1 s1 own1) (l : ρ.le σ) (h : RQ lo Wr w1 s1 own1 σ a hp' nx' e w') : RQ lo Wr w s own ρ a hp' nx' e w' := by
  obtain ⟨v, b, s', own', H', h1, h2, h3, h4, τ, h5, h6⟩ := h
  exact ⟨v, b, s', own', H', h1, x.trans h2, h3, h4, τ, l.trans h5, h6⟩
/-- a function that defers nothing -/
theorem plain_wp (hF : FS P F) (hp : P.follows .mixedOrders = true) {f : FuncId} {xs : List AV} {hp0 : XH} {nx : Nat} {a : AV} {hp' : XH} {nx' : Nat} (h : xplain PU P F lim f xs hp0 nx lo = some (a, hp', nx')) (hlo : lo ≤ nx) :
    XG lo hp0 nx hp' nx' ∧ ∃ fn c, P.funcs[f]? = some fn ∧ fn.body = some c ∧ (fn.name == "runtime.NumGoroutine") = false ∧ ∀ {Wr : Nat → Prop} {ρ : Rho} {H : Hp} {w : World} {s : Sto} {own : Nat → Option Nat} {xs' : List AV} {vs : List Value}, RAs ρ xs xs' → St w s own H → Reps s xs' vs → HR lo Wr ρ hp0 nx H → (∀ m, w.heap.size ≤ m → Wr m) →
      c.wp P (bodyPost P fn (RQ lo Wr w s own ρ a hp' nx')) { tmps := vs.toArray ++ Array.replicate (fn.ntmps - vs.toArray.size) undef, defers := [] } w := by
  unfold xplain at h
  split at h
  · rename_i fn hfn
    split at h
    · rename_i c hc
      obtain ⟨hbd, h⟩ := bif_opt h
      simp only [Bool.and_eq_true, decide_eq_true_eq, Bool.not_eq_true'] at hbd
      obtain ⟨hn, ⟨hb1, hb2⟩, hb3⟩ := hbd
      -- it comes to an end
      obtain ⟨e, st, h1, he, h2⟩ : ∃ e st, xC lo PU P F lim c ⟨xargs 0 xs .e, hp0, nx⟩ = some (e, st) ∧ (e = .normal ∨ e = .ret) ∧ xend P st fn.results.toList = some (a, hp', nx') := by
        split at h
        · rename_i st e1; exact ⟨_, st, e1, .inl rfl, h⟩
        · rename_i st e1; exact ⟨_, st, e1, .inr rfl, h⟩
        · cases h
      have hg := xC_g hF c h1 hlo
      have heq : hp' = st.hp ∧ nx' = st.nx := by
        unfold xend at h2
        split at h2 <;> cases h2 <;> exact ⟨rfl, rfl⟩
      refine ⟨by rw [heq.1, heq.2]; exact hg, fn, c, hfn, hc, hn, fun {Wr ρ H w s own xs' vs} hxs hst hr hh hf => ?_⟩
      have hlen : vs.length = xs.length := hr.1.trans hxs.1.symm
      have hsz : (vs.toArray ++ Array.replicate (fn.ntmps - vs.toArray.size) undef).size = fn.ntmps := by simp; omega
      have ha := xC_sound (Wr := Wr) hF hp c (K := fun e2 fr' H' => e2 = e ∧ ∃ σ, ρ.le σ ∧ lo ≤ st.nx ∧ FR σ st.fr fr' [] ∧ HR lo Wr σ st.hp st.nx H') h1 hlo hh (fargs_fr hxs) (fun σ fr' H' k1 k2 k3 k4 => ⟨rfl, σ, k1, k2, k3, k4⟩)
      have := ha w s own (vs.toArray ++ Array.replicate (fn.ntmps - vs.toArray.size) undef) [] hst (fargs_rep _ hr) hf (by rw [hsz]; exact hb1)
      refine Code.wp_mono (fun e2 ac w' hq => ?_) this
      obtain ⟨_, g1, g2, fr', s', own', H', hx, hst', hfr', rfl, σ, k1, k2, k3, k4⟩ := hq
      obtain ⟨q1, q2, v, b, r1, r2, r3⟩ := xend_run (fn := fn) h2 hst' hfr' k3 k4 (by rw [g2, hsz]; exact hb2)
      have fin : ac.defers = [] ∧ ∃ v, (results fn ac.tmps).run P w' = .ok v w' ∧ RQ lo Wr w s own ρ a hp' nx' (.returned v) w' := ⟨g1, v, r1, v, b, s', own', H', rfl, hx, hst', r2, σ, k1, r3, by rw [q1, q2]; exact k4⟩
      rcases he with rfl | rfl
      · exact fin
      · exact fin
    · cases h
  · cases h
theorem leaves_weak {fn : Func} {tm : Array Value} {R R' : Ending → World → Prop} (hR : ∀ e w, R e w → R' e w) : ∀ (ds : List Deferred) (u : FrameMode) (w : World), Leaves P fn tm R ds u w → Leaves P fn tm R' ds u w
  | [], .returning, w, ⟨v, h1, h2⟩ => ⟨v, h1, hR _ _ h2⟩
  | [], .panicking _, w, h => hR _ _ h
  | [], .run, w, h => h
  | d :: ds, u, w, ⟨h1, fv, cap, f, args, h2, h3, h4⟩ => ⟨h1, fv, cap, f, args, h2, h3, h4.mono fun e u' w' q => by
    cases e with
    | returned v => exact leaves_weak hR ds _ _ q
    | panicked c => exact leaves_weak hR ds _ _ q
    | outgrown => exact hR _ _ q⟩
/-- a function's code, one call of which may be deferred -/
theorem isDef_spec {pre : List Oper} {o : Oper} (h : isDef ops = some (pre, o)) : ops.toList = pre ++ [o] ∧ ∃ c, o.op = .defer c := by
  unfold isDef at h
  split at h
  · rename_i o' hl
    split at h
    · rename_i c hc
      cases h
      refine ⟨?_, c, hc⟩
      have hne : ops.toList ≠ [] := fun e => by rw [e] at hl; cases hl
      have := List.dropLast_concat_getLast hne
      rw [List.getLast?_eq_some_getLast hne] at hl
      cases hl
      exact this.symm
    · cases h
  · cases h
theorem dfOf_spec {c : Code} {pre : List Oper} {o : Oper} (h : dfOf c = some (ops, pre, o)) : ∃ id, c = .region id ops false ∧ isDef ops = some (pre, o) := by
  unfold dfOf at h
  split at h
  · rename_i id ops'
    split at h
    · rename_i p q e
      cases h
      exact ⟨id, rfl, e⟩
    · cases h
  · cases h
theorem spine_wp (hF : FS P F) (hp : P.follows .mixedOrders = true) {fn : Func} {a : AV} {hp' : XH} {nx' : Nat} : ∀ (c : Code) {st : XS} {ρ : Rho} {fr : Fr} {H : Hp} {w : World} {s : Sto} {own : Nat → Option Nat} {tm : Array Value}, xspine lo PU P F lim fn.results.toList c st = some (a, hp', nx') → lo ≤ st.nx →
    XG lo st.hp st.nx hp' nx' ∧ (St w s own H → RepF s fr tm → (∀ m, w.heap.size ≤ m → Wr m) → HR lo Wr ρ st.hp st.nx H → FR ρ st.fr fr [] → Code.bd tm.size c = true → fn.results.toList.all (fun r => decide (ResultVar.tm r < tm.size)) = true →
      c.wp P (bodyPostD P fn (RQ lo Wr w s own ρ a hp' nx')) ⟨tm, []⟩ w) := by
  -- an end
  have fin : ∀ {st : XS} {e : Exit} {ρ : Rho} {fr : Fr} {H : Hp} {w w' : World} {s s' : Sto} {own own' : Nat → Option Nat} {ac : Act} {σ : Rho}, (e = .normal ∨ e = .ret) → xend P st fn.results.toList = some (a, hp', nx') → ac.defers = [] → fn.results.toList.all (fun r => decide (ResultVar.tm r < ac.tmps.size)) = true → Ext Wr w s own w' s' own' → St w' s' own' H → RepF s' fr ac.tmps → ρ.le σ → FR σ st.fr fr [] → HR lo Wr σ st.hp st.nx H →
      bodyPostD P fn (RQ lo Wr w s own ρ a hp' nx') e ac w' := fun {st e ρ fr H w w' s s' own own' ac σ} he h g1 hb hx hst hfr hle hfx hh => by
    obtain ⟨q1, q2, v, b, r1, r2, r3⟩ := xend_run (fn := fn) h hst hfr hfx hh hb
    have : Leaves P fn ac.tmps (RQ lo Wr w s own ρ a hp' nx') ac.defers .returning w' := by
      rw [g1]
      exact ⟨v, r1, v, b, s', own', H, rfl, hx, hst, r2, σ, hle, r3, by rw [q1, q2]; exact hh⟩
    rcases he with rfl | rfl <;> exact this
  have xend_eq : ∀ {st : XS}, xend P st fn.results.toList = some (a, hp', nx') → hp' = st.hp ∧ nx' = st.nx := fun {st} h2 => by
    unfold xend at h2
    split at h2 <;> cases h2 <;> exact ⟨rfl, rfl⟩
  -- code that is no sequence
  have one : ∀ {c : Code} {st : XS} {ρ : Rho} {fr : Fr} {H : Hp} {w : World} {s : Sto} {own : Nat → Option Nat} {tm : Array Value}, (match xC lo PU P F lim c st with
      | some (.normal, st) | some (.ret, st) => xend P st fn.results.toList
      | _ => none) = some (a, hp', nx') → lo ≤ st.nx → XG lo st.hp st.nx hp' nx' ∧ (St w s own H → RepF s fr tm → (∀ m, w.heap.size ≤ m → Wr m) → HR lo Wr ρ st.hp st.nx H → FR ρ st.fr fr [] → Code.bd tm.size c = true → fn.results.toList.all (fun r => decide (ResultVar.tm r < tm.size)) = true →
      c.wp P (bodyPostD P fn (RQ lo Wr w s own ρ a hp' nx')) ⟨tm, []⟩ w) := fun {c st ρ fr H w s own tm} h hlo => by
    obtain ⟨e, st1, h1, he, h2⟩ : ∃ e st1, xC lo PU P F lim c st = some (e, st1) ∧ (e = .normal ∨ e = .ret) ∧ xend P st1 fn.results.toList = some (a, hp', nx') := by
      split at h
      · rename_i st e1; exact ⟨_, st, e1, .inl rfl, h⟩
      · rename_i st e1; exact ⟨_, st, e1, .inr rfl, h⟩
      · cases h
    have hg := xC_g hF c h1 hlo
    refine ⟨by rw [(xend_eq h2).1, (xend_eq h2).2]; exact hg, fun hst hfr hf hh hfx hb hbr => ?_⟩
    have ha := xC_sound (Wr := Wr) hF hp c (K := fun e2 fr' H' => e2 = e ∧ ∃ σ, ρ.le σ ∧ lo ≤ st1.nx ∧ FR σ st1.fr fr' [] ∧ HR lo Wr σ st1.hp st1.nx H') h1 hlo hh hfx (fun σ fr' H' k1 k2 k3 k4 => ⟨rfl, σ, k1, k2, k3, k4⟩)
    refine Code.wp_mono (fun e2 ac w' hq => ?_) (ha w s own tm [] hst hfr hf hb)
    obtain ⟨_, g1, g2, fr', s', own', H', hx, hst', hfr', rfl, σ, k1, k2, k3, k4⟩ := hq
    exact fin he h2 g1 (by rw [g2]; exact hbr) hx hst' hfr' k1 k3 k4
  intro c
  induction c with
  | seq x y _ ihy =>
    intro st ρ fr H w s own tm h hlo
    unfold xspine at h
    split at h
    · -- a call is deferred
      rename_i ops pre o hdf
      obtain ⟨id, rfl, hd⟩ := dfOf_spec hdf
      obtain ⟨hops, c, hoc⟩ := isDef_spec hd
      split at h
      · rename_i st1 h1
        split at h
        · rename_i g xs hg hdst hxd
          obtain ⟨e, st2, h2, he, h3⟩ : ∃ e st2, xC lo PU P F lim y st1 = some (e, st2) ∧ (e = .normal ∨ e = .ret) ∧ (match xplain PU P F lim g xs st2.hp st2.nx lo with
              | some (_, hp, nx) => xend P ⟨st2.fr, hp, nx⟩ fn.results.toList
              | none => none) = some (a, hp', nx') := by
            split at h
            · rename_i st e1; exact ⟨_, st, e1, .inl rfl, h⟩
            · rename_i st e1; exact ⟨_, st, e1, .inr rfl, h⟩
            · cases h
          split at h3
          · rename_i a3 hp3 nx3 h4
            have g1 := xO_g hF pre h1 hlo
            have hlo1 := Nat.le_trans hlo g1.1
            have g2 := xC_g hF y h2 hlo1
            have hlo2 := Nat.le_trans hlo1 g2.1
            obtain ⟨g3, fn2, c2, hfn2, hc2, hn2, hwp⟩ := plain_wp hF hp h4 hlo2
            have hq3 := xend_eq h3
            refine ⟨by rw [hq3.1, hq3.2]; exact (g1.trans g2).trans g3, fun hst hfr hf hh hfx hb hbr => ?_⟩
            simp only [Code.bd, Bool.and_eq_true] at hb
            refine wp_seq (wp_region_list ?_)
            rw [hops]
            have hball : (pre ++ [o]).all (Oper.bd ops tm.size) = true := by rw [← hops]; exact hb.1
            rw [List.all_append, Bool.and_eq_true] at hball
            refine xO_cps hF pre h1 hlo hst hfr hf hh hfx hball.1 fun σ fr1 H1 w1 s1 own1 tm1 k1 _ hx1 hst1 hfr1 hsz1 hfx1 hh1 => ?_
            -- the operation that defers
            unfold wpList
            have hw : Region.wanted o (yielded ops tm1) = true := by simp [Region.wanted, hg]
            rw [if_pos hw]
            left
            unfold xdef at hxd
            rw [hoc] at hxd
            dsimp only at hxd
            split at hxd
            · rename_i f hcf
              split at hxd
              · rename_i g' l r hfv
                cases hxd
                have hr1 := (hfx1.ev (x := f) (fun t _ => by simp)).nrm
                rw [hfv] at hr1
                obtain ⟨l', r', hl', hr', hfe⟩ := hr1.fn_inv
                have hbo : Oper.bd ops tm1.size o = true := by rw [hsz1]; simpa using hball.2
                have hbo' := hbo
                unfold Oper.bd at hbo'
                simp only [Bool.and_eq_true] at hbo'
                have hop : ∀ x ∈ o.op.operands, Rep s1 (nrm (aev fr1 x)) (Act.eval ⟨tm1, []⟩ x) := fun x hx => nrm_rep (hfr1.eval (List.all_eq_true.1 hbo'.1.2 x (by simpa using hx)))
                have hfin : f ∈ o.op.operands := by rw [hoc]; simp [Op.operands, Call.operands, hcf]
                have rf : Act.eval ⟨tm1, []⟩ f = .func (.func g) l' r' := by
                  have := hop f hfin
                  rw [hfe] at this
                  exact this.v_inv
                have hain : ∀ x ∈ c.args.toList, x ∈ o.op.operands := fun x hx => by rw [hoc]; simp [Op.operands, Call.operands, hcf, Array.mem_toList_iff.1 hx]
                have rargs : Reps s1 (c.args.toList.map fun x => nrm (aev fr1 x)) (c.args.toList.map (Act.eval ⟨tm1, []⟩)) := ⟨by simp, fun i b x e g => by
                  rw [List.getElem?_map, Option.map_eq_some_iff] at e g
                  obtain ⟨z, hz, rfl⟩ := e
                  obtain ⟨z', hz', rfl⟩ := g
                  rw [hz] at hz'; cases hz'
                  exact hop z (hain z (List.mem_of_getElem? hz))⟩
                have aargs : RAs σ (c.args.toList.map (xev st1.fr)) (c.args.toList.map fun x => nrm (aev fr1 x)) := ⟨by simp, fun i b x e g => by
                  rw [List.getElem?_map, Option.map_eq_some_iff] at e g
                  obtain ⟨z, hz, rfl⟩ := e
                  obtain ⟨z', hz', rfl⟩ := g
                  rw [hz] at hz'; cases hz'
                  exact (hfx1.ev (fun t _ => by simp)).nrm⟩
                have vals : ∀ l : List Value, Reps s1 (l.map .v) l := fun l => ⟨by simp, fun i a x e g => by
                  rw [List.getElem?_map, Option.map_eq_some_iff] at e
                  obtain ⟨z, hz, rfl⟩ := e
                  rw [g] at hz; cases hz; exact .v _⟩
                have rall := ((vals l'.toList).append rargs).append (vals r'.toList)
                have aall := (hl'.append aargs).append hr'
                unfold Oper.wp
                have hex : (execOp (Act.eval ⟨tm1, []⟩) o).run P w1 = .ok (.defer { target := .fn (.func g) r', args := l' ++ c.args.map (Act.eval ⟨tm1, []⟩) }) w1 := by
                  simp only [execOp, hoc, resolve, hcf, rf, Deferred.ofValue, Sem.run_bind, Sem.run_pure, Result.andThen_ok]
                rw [hex, Oper.upon_defer, hdst]
                show wpList P ops _ [] ⟨tm1, [{ target := .fn (.func g) r', args := l' ++ c.args.map (Act.eval ⟨tm1, []⟩) }]⟩ w1
                unfold wpList
                show y.wp P _ ⟨tm1, _⟩ w1
                have ha := xC_sound (Wr := Wr) hF hp y (K := fun e2 fr' H' => e2 = e ∧ ∃ τ, σ.le τ ∧ lo ≤ st2.nx ∧ FR τ st2.fr fr' [] ∧ HR lo Wr τ st2.hp st2.nx H') h2 hlo1 hh1 hfx1 (fun σ fr' H' k1 k2 k3 k4 => ⟨rfl, σ, k1, k2, k3, k4⟩)
                refine Code.wp_mono (fun e2 ac w2 hq => ?_) (ha w1 s1 own1 tm1 _ hst1 hfr1 (fun m hm => hf m (Nat.le_trans hx1.size hm)) (by rw [hsz1]; exact hb.2))
                obtain ⟨_, j1, j2, fr2, s2, own2, H2, hx2, hst2, hfr2, rfl, τ, k5, k6, k7, k8⟩ := hq
                have hx12 := hx1.trans hx2
                have hf2 : ∀ m, w2.heap.size ≤ m → Wr m := fun m hm => hf m (Nat.le_trans hx12.size hm)
                have lv : Leaves P fn ac.tmps (RQ lo Wr w s own ρ a hp' nx') ac.defers .returning w2 := by
                  rw [j1]
                  have ee : l' ++ c.args.map (Act.eval ⟨tm1, []⟩) ++ r' = (l'.toList ++ c.args.toList.map (Act.eval ⟨tm1, []⟩) ++ r'.toList).toArray := by simp
                  refine leaves_cons (f := g) (args := (l'.toList ++ c.args.toList.map (Act.eval ⟨tm1, []⟩) ++ r'.toList).toArray) (by simp) ?_ ?_
                  · simp only [invoke]
                    rw [ee]
                    unfold callFunc
                    simp only [Sem.run_bind, run_program, Result.andThen_ok, hfn2, hn2, hc2]
                    rfl
                  · refine CallsD.mono (callsD_of_wp hfn2 hc2 (hwp (aall.mono (k5)) hst2 (rall.mono hx2.le) k8 hf2)) fun e3 u3 w3 hq3' => ?_
                    obtain ⟨rfl, v3, b3, s3, own3, H3, rfl, hx3, hst3, hr3, υ, k9, k10, k11⟩ := hq3'
                    show Leaves P fn ac.tmps _ [] (settle .returning) w3
                    have hfx3 : FR υ (XS.mk st2.fr hp3 nx3).fr fr2 [] := k7.mono k9
                    obtain ⟨q1, q2, v, b, r1, r2, r3⟩ := xend_run (fn := fn) h3 hst3 (hfr2.mono hx3.le) hfx3 k11 (by rw [j2, hsz1]; exact hbr)
                    exact ⟨v, r1, v, b, s3, own3, H3, rfl, hx12.trans hx3, hst3, r2, υ, (k1.trans k5).trans k9, r3, by rw [q1, q2]; exact k11⟩
                rcases he with rfl | rfl <;> exact lv
              · cases hxd
            · cases hxd
          · cases h3
        · cases h
      · cases h
    · rename_i hdf
      cases h1 : xC lo PU P F lim x st with
      | none => rw [h1] at h; cases h
      | some r =>
        obtain ⟨e1, st1⟩ := r
        rw [h1] at h
        have g1 := xC_g hF x h1 hlo
        have hlo1 := Nat.le_trans hlo g1.1
        have hax : HR lo Wr ρ st.hp st.nx H → FR ρ st.fr fr [] → aC P Wr x (fun e2 fr' H' => e2 = e1 ∧ ∃ σ, ρ.le σ ∧ lo ≤ st1.nx ∧ FR σ st1.fr fr' [] ∧ HR lo Wr σ st1.hp st1.nx H') fr H := fun hh hfx => xC_sound (Wr := Wr) hF hp x h1 hlo hh hfx (fun σ fr' H' k1 k2 k3 k4 => ⟨rfl, σ, k1, k2, k3, k4⟩)
        cases e1 with
        | normal =>
          dsimp only at h
          refine ⟨g1.trans (ihy (ρ := ρ) (fr := fr) (H := H) (w := w) (s := s) (own := own) (tm := tm) h hlo1).1, fun hst hfr hf hh hfx hb hbr => ?_⟩
          simp only [Code.bd, Bool.and_eq_true] at hb
          refine wp_seq (Code.wp_mono (fun e2 ac w1 hq => ?_) (hax hh hfx w s own tm [] hst hfr hf hb.1))
          obtain ⟨_, j1, j2, fr1, s1, own1, H1, hx1, hst1, hfr1, rfl, σ, k1, k2, k3, k4⟩ := hq
          have := (ihy (ρ := σ) h hlo1).2 hst1 hfr1 (fun m hm => hf m (Nat.le_trans hx1.size hm)) k4 k3 (by rw [j2]; exact hb.2) (by rw [j2]; exact hbr)
          rw [← j1] at this
          refine Code.wp_mono (fun e3 ac3 w3 hq => ?_) this
          have lv : ∀ {ds u}, Leaves P fn ac3.tmps (RQ lo Wr w1 s1 own1 σ a hp' nx') ds u w3 → Leaves P fn ac3.tmps (RQ lo Wr w s own ρ a hp' nx') ds u w3 := fun {ds u} q => leaves_weak (fun e w q => q.back hx1 k1) _ _ _ q
          cases e3 with
          | normal => exact lv hq
          | ret => exact lv hq
          | panic ch => exact lv hq
          | outgrown => exact RQ.back hx1 k1 hq
          | _ => exact hq
        | ret =>
          dsimp only at h
          have hq := xend_eq h
          refine ⟨by rw [hq.1, hq.2]; exact g1, fun hst hfr hf hh hfx hb hbr => ?_⟩
          simp only [Code.bd, Bool.and_eq_true] at hb
          refine wp_seq (Code.wp_mono (fun e2 ac w1 hq => ?_) (hax hh hfx w s own tm [] hst hfr hf hb.1))
          obtain ⟨_, j1, j2, fr1, s1, own1, H1, hx1, hst1, hfr1, rfl, σ, k1, k2, k3, k4⟩ := hq
          exact fin (e := .ret) (.inr rfl) h j1 (by rw [j2]; exact hbr) hx1 hst1 hfr1 k1 k3 k4
        | _ => cases h
  | _ => intro st ρ fr H w s own tm h hlo; exact one h hlo
/-- one function is reckoned rightly -/
def FS1 (P : Program) (f : FuncId) (g : List AV → XH → Nat → Nat → XR) : Prop := ∀ xs hp nx lo a hp' nx', g xs hp nx lo = some (a, hp', nx') → lo ≤ nx → XG lo hp nx hp' nx' ∧
  ∀ (ρ : Rho) (H : Hp) (xs' : List AV) (W : List Nat), RAs ρ xs xs' → HR lo (fun b => b ∈ W) ρ hp nx H → AC P f xs' H W (XR' lo ρ a hp' nx')
theorem xfun_sound (hF : FS P F) (hp : P.follows .mixedOrders = true) (f : FuncId) : FS1 P f (xfun PU P F lim f) := by
  intro xs hp0 nx lo a hp' nx' h hlo
  unfold xfun at h
  split at h
  · rename_i fn hfn
    split at h
    · rename_i c hc
      cases hd : hasDef c with
      | false =>
        rw [hd] at h
        obtain ⟨hg, fn2, c2, hfn2, hc2, hn2, hwp⟩ := plain_wp hF hp h hlo
        refine ⟨hg, fun ρ H xs' W hxs hh w s own vs Wr hst hr hW hf => .inl ⟨?_, ?_⟩⟩
        · unfold callFunc
          simp only [Sem.run_bind, run_program, Result.andThen_ok, hfn2, hn2, hc2]
          rfl
        · exact Calls.mono (calls_of_wp hfn2 hc2 (hwp hxs hst hr (hh.mono hW) hf)) fun e w' hq => hq
      | true =>
        rw [hd] at h
        obtain ⟨hbd, h⟩ := bif_opt h
        simp only [Bool.and_eq_true, decide_eq_true_eq, Bool.not_eq_true'] at hbd
        obtain ⟨hn, ⟨hb1, hb2⟩, hb3⟩ := hbd
        refine ⟨(spine_wp (Wr := fun _ => True) (ρ := fun _ => none) (fr := fun _ => .any) (H := fun _ => none) (w := default) (s := fun _ _ => none) (own := fun _ => none) (tm := #[]) hF hp c h hlo).1, fun ρ H xs' W hxs hh w s own vs Wr hst hr hW hf => .inl ⟨?_, ?_⟩⟩
        · unfold callFunc
          simp only [Sem.run_bind, run_program, Result.andThen_ok, hfn, hn, hc]
          rfl
        · have hlen : vs.length = xs.length := hr.1.trans hxs.1.symm
          have hsz : (vs.toArray ++ Array.replicate (fn.ntmps - vs.toArray.size) undef).size = fn.ntmps := by simp; omega
          exact Calls.mono (calls_of_wp_defers hfn hc ((spine_wp hF hp c h hlo).2 hst (fargs_rep _ hr) hf (hh.mono hW) (fargs_fr hxs) (by rw [hsz]; exact hb1) (by rw [hsz]; exact hb2))) fun e w' hq => hq
    · cases h
  · cases h
/-- all calls are reckoned rightly -/
theorem xgo_sound (hp : P.follows .mixedOrders = true) {S : FuncId → Option (List AV → XH → Nat → Nat → XR)} (hS : ∀ f g, S f = some g → FS1 P f g) : ∀ n, FS P (xgo PU P S lim n)
  | 0 => fun f xs hp nx lo a hp' nx' h => by cases h
  | n + 1 => fun f xs hp0 nx lo a hp' nx' h hlo => by
    unfold xgo at h
    split at h
    · rename_i g hg
      exact hS f g hg xs hp0 nx lo a hp' nx' h hlo
    · exact xfun_sound (xgo_sound hp hS n) hp f xs hp0 nx lo a hp' nx' h hlo
end
end Go.Proofs.YtiallkiiofomgaaGreat
