/- Abstract values: functions. -/
import Derived.Test.YtiallkiiofomgaaGreatVj
namespace Go.Proofs.YtiallkiiofomgaaGreat
section
variable {P : Program} {Wr : Nat → Prop} {w : World} {s : Sto} {own : Nat → Option Nat} {H : Hp}
def ResultVar.tm : ResultVar → Nat
  | .tmp t => t
  | .cell t _ => t
/-- one value, or several -/
def vone : List Value → Value
  | [v] => v
  | vs => .tuple vs.toArray
def aone : List AV → AV
  | [v] => v
  | vs => .tup vs
/-- one result -/
def rget (tm : Array Value) : ResultVar → Sem Value
  | .tmp t => pure (tm.getD t undef)
  | .cell a t => do loadVar t (← asAddr (tm.getD a undef))
theorem results_eq (fn : Func) (tm : Array Value) : results fn tm = (fn.results.mapM (rget tm) >>= fun vs => pure (if h : vs.size = 1 then vs[0] else .tuple vs)) := by
  unfold results
  congr 1
theorem run_loadVar_of {t : TypeId} {a : Addr} {y : Value} (h : (Instr.loadAt t (.pointer (some a))).run P w = .ok y w) : (loadVar t a).run P w = .ok y w := by
  simpa only [Instr.loadAt, Instr.sureAddr, Sem.run_bind, Sem.run_pure, Result.andThen_ok] using h
theorem ares_sound {fr : Fr} {tm : Array Value} (hst : St w s own H) (hfr : RepF s fr tm) : ∀ (l : List ResultVar) (as : List AV), l.all (fun r => decide (ResultVar.tm r < tm.size)) = true → ares (P := P) fr H l = some as →
    ∃ vs, (l.mapM (rget tm)).run P w = .ok vs w ∧ Reps s as vs
  | [], as, _, h => by cases h; exact ⟨[], rfl, Reps.nil s⟩
  | .tmp t :: l, as, hb, h => by
    simp only [List.all_cons, Bool.and_eq_true, decide_eq_true_eq] at hb
    unfold ares at h
    rw [Option.map_eq_some_iff] at h
    obtain ⟨m, hm, rfl⟩ := h
    obtain ⟨vs, h1, h2⟩ := ares_sound hst hfr l m hb.2 hm
    have ht : t < tm.size := hb.1
    refine ⟨tm[t] :: vs, ?_, Reps.cons (nrm_rep (hfr t _ (Array.getElem?_eq_getElem ht))) h2⟩
    have e : (rget tm (.tmp t)).run P w = .ok tm[t] w := by simp [rget, ht]
    rw [List.mapM_cons, Sem.run_bind, e]
    simp only [Sem.run_pure, Result.andThen_ok, Sem.run_bind, h1]
  | .cell t T :: l, as, hb, h => by
    simp only [List.all_cons, Bool.and_eq_true, decide_eq_true_eq] at hb
    have ht : t < tm.size := hb.1
    have hr := nrm_rep (hfr t _ (Array.getElem?_eq_getElem ht))
    have key : ∀ m a y, ares (P := P) fr H l = some m → (Instr.loadAt T tm[t]).run P w = .ok y w → (∃ a, tm[t] = .pointer (some a)) → Rep s a y → ∃ vs, ((ResultVar.cell t T :: l).mapM (rget tm)).run P w = .ok vs w ∧ Reps s (a :: m) vs := by
      intro m a y hm hy hp ha
      obtain ⟨vs, h1, h2⟩ := ares_sound hst hfr l m hb.2 hm
      obtain ⟨p, hp⟩ := hp
      refine ⟨y :: vs, ?_, Reps.cons ha h2⟩
      rw [hp] at hy
      have e : (rget tm (.cell t T)).run P w = .ok y w := by
        have e1 : tm.getD t undef = .pointer (some p) := by rw [← hp]; simp [ht]
        simp only [rget, e1, asAddr, Sem.run_bind, Sem.run_pure, Result.andThen_ok, run_loadVar_of hy]
      rw [List.mapM_cons, Sem.run_bind, e]
      simp only [Sem.run_pure, Result.andThen_ok, Sem.run_bind, h1]
    unfold ares at h
    split at h
    · rename_i b o hp
      rw [hp] at hr
      split at h
      · rename_i T' c hc
        have ld : ∀ {k : AV → Prop} {tk}, tK P T = some tk → pick1 tk c o k → ∃ y a, (Instr.loadAt T tm[t]).run P w = .ok y w ∧ Rep s a y ∧ k a := by
          intro k tk hk hp1
          obtain ⟨y, a, h1, h2, h3⟩ := eld_sound (P := P) (t := T) (k := k) hst hr (by rw [hk]; unfold eld; dsimp only; rw [hc]; exact hp1)
          exact ⟨y, a, h1 w (fun _ _ => rfl), h2, h3⟩
        have hpt : ∃ a, tm[t] = .pointer (some a) := ⟨_, hr.v_inv⟩
        split at h
        · rename_i hk
          split at h
          · rename_i a ha
            rw [Option.map_eq_some_iff] at h
            obtain ⟨m, hm, rfl⟩ := h
            obtain ⟨y, a', h1, h2, h3⟩ := ld (k := fun x => x = a) hk (by unfold pick1; dsimp only; rw [ha]; rfl)
            subst h3
            exact key m _ y hm h1 hpt h2
          · cases h
        · rename_i n hk
          split at h
          · rename_i hle
            rw [Option.map_eq_some_iff] at h
            obtain ⟨m, hm, rfl⟩ := h
            obtain ⟨y, a', h1, h2, h3⟩ := ld (k := fun x => x = .agg ((c.drop o).take n)) hk ⟨hle, rfl⟩
            subst h3
            exact key m _ y hm h1 hpt h2
          · cases h
        · cases h
      · cases h
    · cases h
theorem results_run {fn : Func} {tm : Array Value} {vs : List Value} (h : (fn.results.toList.mapM (rget tm)).run P w = .ok vs w) :
    (results fn tm).run P w = .ok (vone vs) w := by
  rw [results_eq, Sem.run_bind, Array.mapM_eq_mapM_toList]
  have e : (List.toArray <$> (fn.results.toList.mapM (rget tm))).run P w = .ok vs.toArray w := by
    rw [Sem.run_map, h]; rfl
  rw [e]
  simp only [Result.andThen_ok, Sem.run_pure]
  match vs with
  | [] => rfl
  | [v] => rfl
  | v :: u :: l => rfl
/-- the end: what is told of the result and the heap, said more weakly perhaps -/
def Fin (Wr : Nat → Prop) (R : AV → Hp → Prop) (a : AV) (H : Hp) : Prop := ∃ b H', (∀ (w : World) (s : Sto) (own : Nat → Option Nat) (x : Value), St w s own H → Rep s a x → (∀ m, w.heap.size ≤ m → Wr m) → ∃ s' own', Ext Wr w s own w s' own' ∧ St w s' own' H' ∧ Rep s' b x) ∧ R b H'
theorem Fin.mk {R : AV → Hp → Prop} {a : AV} (h : R a H) : Fin Wr R a H := ⟨a, H, fun w s own x hst hr _ => ⟨s, own, Ext.refl .., hst, hr⟩, h⟩
theorem Fin.sub {R : AV → Hp → Prop} {a b : AV} {H' : Hp} (k : Sub H' H) (l : a.le b) (h : R b H') : Fin Wr R a H := ⟨b, H', fun w s own x hst hr _ => ⟨s, own, Ext.refl .., hst.drop k, l _ _ hr⟩, h⟩
def retK (P : Program) (Wr : Nat → Prop) (rs : List ResultVar) (R : AV → Hp → Prop) : Kt := fun e fr H => match e with
  | .normal | .ret => match ares1 (P := P) fr H rs with
    | some a => Fin Wr R a H
    | none => False
  | _ => False
def fargs (as : List AV) : Fr := fun i => as.getD i .any
theorem fargs_rep {as : List AV} {vs : List Value} (n : Nat) (r : Reps s as vs) : RepF s (fargs as) (vs.toArray ++ Array.replicate n undef) := fun i x h => by
  unfold fargs
  rw [List.getD_eq_getElem?_getD]
  cases e : as[i]? with
  | none => exact .any x
  | some a =>
    obtain ⟨y, hy, hr⟩ := r.get e
    have hi : i < vs.length := (List.getElem?_eq_some_iff.1 hy).1
    rw [Array.getElem?_append_left (by simpa using hi)] at h
    have : x = y := by simpa [hy] using h.symm
    rw [this]; exact hr
def kF (P : Program) (Wr : Nat → Prop) (rs : List ResultVar) (R : AV → Hp → Prop) : Kt := retK P Wr rs R
theorem AC.ofA {f : FuncId} {fn : Func} {c : Code} {as : List AV} {H : Hp} {W : List Nat} {R : Rs} (hf : P.funcs[f]? = some fn) (hb : fn.body = some c) (hn : (fn.name == "runtime.NumGoroutine") = false)
    (hbd : (Code.bd fn.ntmps c && fn.results.toList.all (fun r => decide (ResultVar.tm r < fn.ntmps)) && decide (as.length ≤ fn.ntmps)) = true)
    (h : ∀ Wr : Nat → Prop, (∀ m ∈ W, Wr m) → aC P Wr c (kF P Wr fn.results.toList (R Wr)) (fargs as) H) : AC P f as H W R := by
  simp only [Bool.and_eq_true, decide_eq_true_eq] at hbd
  obtain ⟨⟨hb1, hb2⟩, hb3⟩ := hbd
  intro w s own vs Wr hst hr hW hfr
  refine .inl ⟨?_, ?_⟩
  · unfold callFunc
    simp only [Sem.run_bind, run_program, Result.andThen_ok, hf, hn, hb]
    rfl
  · refine calls_of_wp hf hb ?_
    have hlen : vs.length = as.length := hr.1
    have hsz : (vs.toArray ++ Array.replicate (fn.ntmps - vs.toArray.size) undef).size = fn.ntmps := by simp; omega
    have := h Wr hW w s own (vs.toArray ++ Array.replicate (fn.ntmps - vs.toArray.size) undef) [] hst (fargs_rep _ hr) hfr (by rw [hsz]; exact hb1)
    refine Code.wp_mono (fun e a w' hq => ?_) this
    obtain ⟨h0, h1, h2, fr', s', own', H', hx, hst', hfr', hk⟩ := hq
    have fin : ∀ {e}, retK P Wr fn.results.toList (R Wr) e fr' H' → (e = .normal ∨ e = .ret) → ∃ v, (results fn a.tmps).run P w' = .ok v w' ∧ ∃ v' r s' own' H', Ending.returned v = .returned v' ∧ Ext Wr w s own w' s' own' ∧ St w' s' own' H' ∧ Rep s' r v' ∧ R Wr r H' := by
      intro e hk he
      have hk : match ares1 (P := P) fr' H' fn.results.toList with | some a => Fin Wr (R Wr) a H' | none => False := by rcases he with rfl | rfl <;> exact hk
      split at hk
      · rename_i r hr1
        unfold ares1 at hr1
        have go : ∀ as', ares (P := P) fr' H' fn.results.toList = some as' → aone as' = r → ∃ v, (results fn a.tmps).run P w' = .ok v w' ∧ ∃ v' r s' own' H', Ending.returned v = .returned v' ∧ Ext Wr w s own w' s' own' ∧ St w' s' own' H' ∧ Rep s' r v' ∧ R Wr r H' := fun as' ha hra => by
          obtain ⟨vs', g1, g2⟩ := ares_sound (P := P) hst' hfr' fn.results.toList as' (by rw [h2, hsz]; exact hb2) ha
          have g3 := results_run g1
          have hrep : Rep s' r (vone vs') := by
            subst hra
            match as', vs', g2 with
            | [], vs', g2 => cases g2.nil_inv; exact .tup [] [] rfl (by simp)
            | [a], vs', g2 =>
              obtain ⟨x, ws, rfl, hx, hws⟩ := g2.cons_inv
              cases hws.nil_inv
              exact hx
            | a :: b :: l, vs', g2 =>
              obtain ⟨x, ws, rfl, hx, hws⟩ := g2.cons_inv
              obtain ⟨y, us, rfl, hy, hus⟩ := hws.cons_inv
              exact .tup _ _ g2.1 g2.2
          obtain ⟨b, H'', hv, hR⟩ := hk
          obtain ⟨s2, own2, hx2, hst2, hr2⟩ := hv w' s' own' _ hst' hrep (fun m hm => hfr m (Nat.le_trans hx.size hm))
          exact ⟨_, g3, _, b, s2, own2, H'', rfl, hx.trans hx2, hst2, hr2, hR⟩
        split at hr1
        · rename_i a' ha
          exact go _ ha (by cases hr1; rfl)
        · rename_i l hne ha
          refine go _ ha ?_
          cases hr1
          match l, hne with
          | [], _ => rfl
          | [a], hne => exact absurd rfl (hne a)
          | _ :: _ :: _, _ => rfl
        · cases hr1
      · exact hk.elim
    cases e with
    | normal => exact ⟨h1, fin hk (.inl rfl)⟩
    | ret => exact ⟨h1, fin hk (.inr rfl)⟩
    | _ => exact hk.elim
theorem AC.of0 {f : FuncId} {fn : Func} {c : Code} {as : List AV} {H : Hp} {W : List Nat} {R : Rs} (hf : P.funcs[f]? = some fn) (hb : fn.body = some c) (hn : (fn.name == "runtime.NumGoroutine") = false)
    (hbd : (Code.bd fn.ntmps c && fn.results.toList.all (fun r => decide (ResultVar.tm r < fn.ntmps)) && decide (as.length ≤ fn.ntmps)) = true)
    (h : ∀ Wr : Nat → Prop, (∀ m ∈ W, Wr m) → eC P Wr c (kF P Wr fn.results.toList (R Wr)) (fargs as) H) : AC P f as H W R := AC.ofA hf hb hn hbd fun Wr hW => eC_sound _ _ _ _ (h Wr hW)
theorem ACq.mono {f : FuncId} {vs : Array Value} {w : World} {Q Q' : Ending → World → Prop} (h : ACq P f vs w Q) (k : ∀ e w', Q e w' → Q' e w') : ACq P f vs w Q' :=
  h.imp (fun ⟨a, b⟩ => ⟨a, b.mono k⟩) fun ⟨v, w', a, b⟩ => ⟨v, w', a, k _ _ b⟩
/-- more is said of what is given back -/
theorem AC.mono {f : FuncId} {as : List AV} {H : Hp} {W : List Nat} {R R' : Rs} (h : AC P f as H W R) (k : ∀ N a H', R N a H' → R' N a H') : AC P f as H W R' :=
  fun w s own vs Wr hst hr hW hf => (h w s own vs Wr hst hr hW hf).mono fun e w' ⟨v, a, s', own', H', h1, h2, h3, h4, h5⟩ => ⟨v, a, s', own', H', h1, h2, h3, h4, k _ _ _ h5⟩
/-- what is given back is said more weakly, or frozen, or one -/
theorem AC.fin {f : FuncId} {as : List AV} {H : Hp} {W : List Nat} {R R' : Rs} (h : AC P f as H W R) (k : ∀ N a H', (∀ m ∈ W, N m) → R N a H' → Fin N (R' N) a H') : AC P f as H W R' :=
  fun w s own vs Wr hst hr hW hf => (h w s own vs Wr hst hr hW hf).mono fun e w' ⟨v, a, s', own', H', h1, h2, h3, h4, h5⟩ => by
    obtain ⟨b, G, hv, hR⟩ := k Wr a H' hW h5
    obtain ⟨s2, own2, j1, j2, j3⟩ := hv w' s' own' v h3 h4 (fun m hm => hf m (Nat.le_trans h2.size hm))
    exact ⟨v, b, s2, own2, G, h1, h2.trans j1, j2, j3, hR⟩
theorem aC.ev0 {c : Code} {K : Kt} {fr : Fr} {H : Hp} (h : eC P Wr c K fr H) : aC P Wr c K fr H := eC_sound c K fr H h
theorem aO.ev0 {ops : Array Oper} {K : Kt} {l : List Oper} {fr : Fr} {H : Hp} (h : eO P Wr ops (fun _ => false) (cT P Wr ops K) K l fr H) : aO P Wr ops K l fr H := eO_sound l fr H h
end
end Go.Proofs.YtiallkiiofomgaaGreat
