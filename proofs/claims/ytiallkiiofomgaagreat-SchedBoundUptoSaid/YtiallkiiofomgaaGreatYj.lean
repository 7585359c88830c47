/- A run that is reckoned out: regions. -/
import Derived.Test.YtiallkiiofomgaaGreatYi
namespace Go.Proofs.YtiallkiiofomgaaGreat
section
variable {P : Program} {s : Sto} {w : World} {own : Nat → Option Nat} {H : Hp} {Wr : Nat → Prop} {lo : Nat} {ρ : Rho} {F : XF} {pu : Option Tmp → Bool} {ops : Array Oper} {K : Kt}
theorem FR.put {fr : Tr AV} {fr' : Fr} {D : List Nat} {σ : Rho} (h : FR ρ fr fr' D) (hle : ρ.le σ) (d : Option Tmp) {a r : AV} (hr : RA σ a r) : FR σ (xput fr d a) (fput fr' d r) D := by
  cases d with
  | none => exact fun t x ht e => (h t x ht e).mono hle
  | some d =>
    intro t x ht e
    have e : (fr.set d a).get t = some x := e
    rw [Tr.get_set] at e
    show RA σ x (if t = d then r else fr' t)
    split at e
    · cases e; rw [if_pos (by assumption)]; exact hr
    · rw [if_neg (by assumption)]; exact (h t x ht e).mono hle
theorem FR.mono {fr : Tr AV} {fr' : Fr} {D : List Nat} {σ : Rho} (h : FR ρ fr fr' D) (hle : ρ.le σ) : FR σ fr fr' D := fun t x ht e => (h t x ht e).mono hle
/-- what a region's operation that is not held up yields, or does -/
theorem guard_cases {o : Oper} {st st' : XS} (h : xstep lo P F pu ops o st = some st') {fr : Fr} {tm : Array Value} {D : List Nat} (hfr : RepF s fr tm) (hfx : FR ρ st.fr fr D) (hb : Oper.bd ops tm.size o = true) (hc : clear ops o D = true) :
    (Region.wanted o (yielded ops tm) = true ∧ xrun lo P F pu o st = some st') ∨ (Region.wanted o (yielded ops tm) = false ∧ st' = ⟨xput st.fr o.dst (.v undef), st.hp, st.nx⟩) := by
  unfold xstep at h
  cases hg : o.guard with
  | none =>
    rw [hg] at h
    exact .inl ⟨by simp [Region.wanted, hg], h⟩
  | some jw =>
    obtain ⟨j, wt⟩ := jw
    rw [hg] at h
    dsimp only at h
    split at h
    · rename_i t ht
      split at h
      · rename_i A hA
        have htD : t ∉ D := by
          unfold clear at hc
          rw [hg] at hc
          simp only [ht, Bool.and_eq_true, Bool.not_eq_true', List.contains_iff_mem] at hc
          simpa using hc.2
        have h1 := (hfx t _ htD hA).bool_inv
        unfold Oper.bd at hb
        simp only [hg, Bool.and_eq_true] at hb
        have hy := hfr.gv (A := A) hb.2 (by unfold gv; rw [ht]; exact h1)
        have hw : Region.wanted o (yielded ops tm) = (A == wt) := by
          simp only [Region.wanted, hg, hy]
          cases A <;> cases wt <;> rfl
        cases e : A == wt with
        | true => rw [e] at h; exact .inl ⟨hw.trans e, h⟩
        | false => rw [e] at h; cases h; exact .inr ⟨hw.trans e, rfl⟩
      · cases h
    · cases h
theorem clear_nil (o : Oper) : clear ops o [] = true := by
  unfold clear
  simp only [Bool.and_eq_true]
  refine ⟨⟨?_, ?_⟩, ?_⟩
  · split <;> rfl
  · rw [List.all_eq_true]; intro x _; split <;> rfl
  · split
    · split <;> rfl
    · rfl
theorem clear_ops {o : Oper} {D : List Nat} (h : clear ops o D = true) {fr : Tr AV} {fr' : Fr} (hfx : FR ρ fr fr' D) : ∀ x ∈ o.op.operands, RA ρ (xev fr x) (aev fr' x) := fun x hx => hfx.ev fun t ht => by
  subst ht
  unfold clear at h
  simp only [Bool.and_eq_true] at h
  have := List.all_eq_true.1 h.1.2 (.tmp t) (by simpa using hx)
  simpa using this
theorem clear_dst {o : Oper} {D : List Nat} (h : clear ops o D = true) {d : Nat} (hd : d ∈ D) : o.dst ≠ some d := fun e => by
  unfold clear at h
  simp only [Bool.and_eq_true, e] at h
  have := h.1.1
  simp [hd] at this
/-- a region in the order of the text -/
theorem xO_list (hF : FS P F) : ∀ (l : List Oper) {st st' : XS} {ρ : Rho} {fr : Fr} {H : Hp} {w : World} {s : Sto} {own : Nat → Option Nat} {tm : Array Value} {ds : List Deferred}, xO lo P F pu ops l st = some st' → lo ≤ st.nx → St w s own H → RepF s fr tm → (∀ m, w.heap.size ≤ m → Wr m) → HR lo Wr ρ st.hp st.nx H → FR ρ st.fr fr [] →
    l.all (Oper.bd ops tm.size) = true → (∀ σ fr' H', ρ.le σ → lo ≤ st'.nx → FR σ st'.fr fr' [] → HR lo Wr σ st'.hp st'.nx H' → K .normal fr' H') → wpList P ops (Post Wr K w s own tm.size ds) l ⟨tm, ds⟩ w
  | [], st, st', ρ, fr, H, w, s, own, tm, ds, h, hlo, hst, hfr, hf, hh, hfx, _, hK => by
    cases h
    exact ⟨trivial, rfl, rfl, fr, s, own, H, Ext.refl .., hst, hfr, hK ρ fr H (.refl ρ) hlo hfx hh⟩
  | o :: l, st, st', ρ, fr, H, w, s, own, tm, ds, h, hlo, hst, hfr, hf, hh, hfx, hb, hK => by
    simp only [List.all_cons, Bool.and_eq_true] at hb
    obtain ⟨hbo, hbl⟩ := hb
    unfold xO at h
    split at h
    · rename_i st1 h1
      have hbo' := hbo
      unfold Oper.bd at hbo'
      simp only [Bool.and_eq_true] at hbo'
      have hop : ∀ x ∈ o.op.operands, Rep s (aev fr x) (Act.eval ⟨tm, ds⟩ x) := fun x hx => hfr.eval (List.all_eq_true.1 hbo'.1.2 x (by simpa using hx))
      -- what is left
      have fin : ∀ {a x r : _} {w' : World} {s' : Sto} {own' : Nat → Option Nat} {H' : Hp} {σ : Rho}, st1 = ⟨xput st.fr o.dst a, st1.hp, st1.nx⟩ → lo ≤ st1.nx → Ext Wr w s own w' s' own' → St w' s' own' H' → Rep s' r x → ρ.le σ → RA σ a r → HR lo Wr σ st1.hp st1.nx H' → wpList P ops (Post Wr K w s own tm.size ds) l (Act.put ⟨tm, ds⟩ o.dst x) w' :=
        fun {a x r w' s' own' H' σ} e hlo1 hx hst' hrr hle hra hhr => by
          have hsz : (Act.put ⟨tm, ds⟩ o.dst x).tmps.size = tm.size := by cases o.dst <;> simp [Act.put]
          have e1 : (⟨(Act.put ⟨tm, ds⟩ o.dst x).tmps, ds⟩ : Act) = Act.put ⟨tm, ds⟩ o.dst x := by cases o.dst <;> rfl
          have hfx' : FR σ st1.fr (fput fr o.dst r) [] := by rw [e]; exact hfx.put hle o.dst hra
          have := xO_list hF l (tm := (Act.put ⟨tm, ds⟩ o.dst x).tmps) (ds := ds) h hlo1 hst' ((hfr.mono hx.le).put o.dst hrr) (fun m hm => hf m (Nat.le_trans hx.size hm)) hhr hfx' (by rw [hsz]; exact hbl) (fun τ fr' H'' h1 => hK τ fr' H'' (hle.trans h1))
          rw [hsz, e1] at this
          exact wpList_mono (fun e a w h => h.back hx) _ _ _ this
      unfold wpList
      rcases guard_cases h1 hfr hfx hbo (clear_nil o) with ⟨hw, hr⟩ | ⟨hw, rfl⟩
      · rw [if_pos hw]
        refine .inl (xrun_wp hF hr hlo hst hf hh (clear_ops (ops := ops) (clear_nil o) hfx) hop fun a x w' s' own' H' r σ e hlo1 L => ?_)
        exact fin e hlo1 L.ext L.st L.rep L.le L.ra L.hr
      · rw [if_neg (by rw [hw]; simp)]
        exact fin rfl hlo (Ext.refl ..) hst (.v _) (.refl ρ) (.v _ _ (.k _ rfl)) hh
    · cases h
-- what is listed
theorem lst_size : ∀ (E : List Nat) (L : Array Bool), (lst L E).size = L.size
  | [], _ => rfl
  | e :: E, L => by
    show (lst (L.setIfInBounds e true) E).size = _
    rw [lst_size E]; simp
theorem getD_set' (L : Array Bool) (e k : Nat) (b : Bool) : (L.setIfInBounds e true).getD k b = if e = k ∧ k < L.size then true else L.getD k b := by
  simp only [Array.getD_eq_getD_getElem?, Array.getElem?_setIfInBounds]
  by_cases h : e = k
  · subst h
    by_cases hl : e < L.size
    · simp [hl]
    · simp [hl]
  · simp [h]
theorem lst_getD : ∀ (E : List Nat) (L : Array Bool) (k : Nat) (b : Bool), (lst L E).getD k b = if k ∈ E ∧ k < L.size then true else L.getD k b
  | [], L, k, b => by simp [lst]
  | e :: E, L, k, b => by
    show (lst (L.setIfInBounds e true) E).getD k b = _
    rw [lst_getD E, getD_set']
    by_cases h1 : k ∈ E <;> by_cases h2 : k < L.size <;> by_cases h3 : e = k <;> simp_all <;> omega
theorem arr_ext {a b : Array Bool} (hs : a.size = b.size) (h : ∀ k, a.getD k false = b.getD k false) : a = b := by
  apply Array.ext hs
  intro i h1 h2
  have := h i
  simpa [h1, h2] using this
theorem ready_lst {E : List Nat} {L : Array Bool} {j : Nat} (h : j ∈ Region.ready .any ops L) (hj : j ∉ E) : j ∈ Region.ready .any ops (lst L E) := by
  rw [mem_ready] at *
  obtain ⟨h0, o, ho, hall⟩ := h
  refine ⟨by rw [lst_getD, if_neg (fun q => hj q.1)]; exact h0, o, ho, fun e he hb => ?_⟩
  rw [lst_getD]
  split
  · rfl
  · exact hall e he hb
theorem ready_sub {E G : List Nat} {L : Array Bool} {j : Nat} (h : j ∈ Region.ready .any ops (lst L E)) (hj : j ∉ G) (hs : ∀ e ∈ E, e ∈ G) : j ∈ Region.ready .any ops (lst L G) := by
  rw [mem_ready] at *
  obtain ⟨h0, o, ho, hall⟩ := h
  rw [lst_getD] at h0
  have h0' : L.getD j true = false := by split at h0; cases h0; exact h0
  refine ⟨by rw [lst_getD, if_neg (fun q => hj q.1)]; exact h0', o, ho, fun e he hb => ?_⟩
  have h1 := hall e he hb
  rw [lst_getD] at h1 ⊢
  split at h1
  · rename_i q; rw [if_pos ⟨hs _ q.1, q.2⟩]
  · split
    · rfl
    · exact h1
theorem ready_unl {L : Array Bool} {j : Nat} (h : j ∈ Region.ready .any ops L) : L.getD j true = false := (mem_ready.1 h).1
theorem okX_cons {hc : List Nat} {L : Array Bool} {i : Nat} {pl : List Nat} (h : okX P ops hc pu L (i :: pl) = true) : ∃ o, ops[i]? = some o ∧ clear ops o (dsts ops (fls ops pl)) = true ∧ (isFl o = true → hc.contains i = false) ∧ L.getD i true = false ∧ okX P ops hc pu (L.setIfInBounds i true) pl = true ∧ i ∈ Region.ready .any ops L ∧
    (xkind P o = 0 ∧ Region.free .any ops L i = true ∧ hc.contains i = false ∨ xkind P o = 1 ∧ Region.free .any ops L i = true ∧ hc.contains i = false ∧ waits .any ops (nxt hc ops.size pl) i = true ∨
      (∀ j ∈ Region.ready .any ops (lst L (fls ops pl)), j = i) ∧ (hc.contains i = true ∨ xW o.op = false ∧ (isCall o.op = true → pu o.dst = true))) := by
  unfold okX at h
  simp only [Bool.and_eq_true, Bool.not_eq_true'] at h
  obtain ⟨⟨h1, h2⟩, h3⟩ := h
  cases ho : ops[i]? with
  | none => rw [ho] at h1; cases h1
  | some o =>
    rw [ho] at h1
    dsimp only at h1
    simp only [Bool.and_eq_true, Bool.or_eq_true, Bool.not_eq_true'] at h1
    obtain ⟨⟨h1, hcl⟩, hfl⟩ := h1
    refine ⟨o, rfl, hcl, fun q => (hfl.resolve_left (by rw [q]; simp)), h2, h3, ?_⟩
    split at h1
    · rename_i hk
      simp only [Bool.and_eq_true, Bool.not_eq_true'] at h1
      exact ⟨by simpa using h1.1.1, .inl ⟨hk, h1.1.2, h1.2⟩⟩
    · rename_i hk
      simp only [Bool.and_eq_true, Bool.not_eq_true'] at h1
      exact ⟨by simpa using h1.1.1.1, .inr (.inl ⟨hk, h1.1.1.2, h1.1.2, h1.2⟩)⟩
    · simp only [Bool.and_eq_true, Bool.or_eq_true, Bool.not_eq_true'] at h1
      refine ⟨by simpa using h1.1.1, .inr (.inr ⟨fun j hj => beq_eq (List.all_eq_true.1 h1.1.2 j hj), h1.2.imp id fun q => ⟨q.1, fun hcall => q.2.resolve_left (by rw [hcall]; simp)⟩⟩)⟩
theorem okX_fresh {hc : List Nat} : ∀ (pl : List Nat) (L : Array Bool), okX P ops hc pu L pl = true → ∀ i ∈ pl, L.getD i true = false
  | [], _, _, i, h => by cases h
  | j :: pl, L, h, i, hi => by
    obtain ⟨_, _, _, _, h1, h2, _⟩ := okX_cons h
    rcases List.mem_cons.1 hi with rfl | hi
    · exact h1
    · have := okX_fresh pl _ h2 i hi
      rw [getD_set'] at this
      split at this
      · cases this
      · exact this
theorem okX_nodup {hc : List Nat} : ∀ (pl : List Nat) (L : Array Bool), okX P ops hc pu L pl = true → pl.Nodup
  | [], _, _ => List.nodup_nil
  | j :: pl, L, h => by
    obtain ⟨_, _, _, _, h1, h2, _⟩ := okX_cons h
    refine List.nodup_cons.2 ⟨fun hj => ?_, okX_nodup pl _ h2⟩
    have := okX_fresh pl _ h2 j hj
    rw [getD_set'] at this
    split at this
    · cases this
    · rename_i hn
      have hl : j < L.size := by
        rcases Nat.lt_or_ge j L.size with hl | hl
        · exact hl
        · simp [Array.getElem?_eq_none hl] at h1
      exact hn ⟨rfl, hl⟩
theorem okX_fl {hc : List Nat} : ∀ (pl : List Nat) (L : Array Bool), okX P ops hc pu L pl = true → ∀ e ∈ fls ops pl, hc.contains e = false
  | [], _, _, e, h => by cases h
  | j :: pl, L, h, e, he => by
    obtain ⟨o, ho, _, h1, _, h2, _⟩ := okX_cons h
    unfold fls at he
    rw [List.filter_cons, ho] at he
    dsimp only at he
    split at he
    · rename_i hf
      rcases List.mem_cons.1 he with rfl | he
      · exact h1 hf
      · exact okX_fl pl _ h2 e he
    · exact okX_fl pl _ h2 e he
theorem nxt_mem {hc : List Nat} {n : Nat} : ∀ (pl : List Nat), nxt hc n pl = n ∨ (nxt hc n pl ∈ pl ∧ hc.contains (nxt hc n pl) = true)
  | [] => .inl rfl
  | i :: pl => by
    rw [nxt_spec]
    by_cases h : hc.contains i = true
    · rw [if_pos h]; exact .inr ⟨by simp, h⟩
    · rw [if_neg h]; exact (nxt_mem pl).imp id fun q => ⟨by simp [q.1], q.2⟩
/-- a step that is taken while the world stands -/
theorem yfirst {i b f : Nat} {o : Oper} {listed : Array Bool} {fr : Fr} {tm : Array Value} {ds : List Deferred} {v : Value} {a : AV} (t : Bool) (ho : ops[i]? = some o) (hs : Region.noSelect ops = true) (hcl : Clsd .any ops listed)
    (hr : i ∈ Region.ready .any ops listed) (hfree : ∀ (j : Nat) (oj : Oper), ops[j]? = some oj → j ≠ i → listed.getD j true = false → (∀ e ∈ oj.after, Region.binds .any e = true → e.on ≠ i) → o.apart ops oj = true) (hw : t = true ∨ waits .any ops b i = true) (hp : t = true ∨ pnd b listed = true) (hn : b ≠ i)
    (hst : St w s own H) (hfr : RepF s fr tm) (hf : ∀ m, w.heap.size ≤ m → Wr m) (hbd : ops.toList.all (Oper.bd ops tm.size) = true) (hy : YieldsIf P ops (fun w' => t = true ∨ Sw w w') o v ⟨tm, ds⟩) (ha : Rep s a v)
    (h : aD P Wr ops K b f (listed.setIfInBounds i true) (fput fr o.dst a) H) :
    wpX P .any ops (Post Wr K w s own tm.size ds) (Sw w) b (f + 1) listed ⟨tm, ds⟩ w := by
  refine wpX_first t ho (Region.noSelect_spec hs) (fun c a w hq => ?_) (Ne.symm hn) hw f listed _ w hfree hcl hr hp hy (fun _ => Sw.refl w) ?_
  · exact hq.1.elim
  · have hsz : (Act.put ⟨tm, ds⟩ o.dst v).tmps.size = tm.size := by cases o.dst <;> simp [Act.put]
    have := h w s own (Act.put ⟨tm, ds⟩ o.dst v).tmps ds hst (hfr.put o.dst ha) hf (by rw [hsz]; exact hbd)
    rw [hsz] at this
    have e : (⟨(Act.put ⟨tm, ds⟩ o.dst v).tmps, ds⟩ : Act) = Act.put ⟨tm, ds⟩ o.dst v := by cases o.dst <;> rfl
    rw [e] at this
    exact this
/-- behind an operation that came up alone; b: what is waited for -/
theorem yalone {i b b' f : Nat} {listed : Array Bool} {fr : Fr} {H' : Hp} {w' : World} {s' : Sto} {own' : Nat → Option Nat} {tm : Array Value} {ds : List Deferred} {d : Option Tmp} {x : Value} {r : AV} (hsz : listed.size = ops.size) (hi : i < ops.size)
    (hfr : RepF s fr tm) (hf : ∀ m, w.heap.size ≤ m → Wr m) (hbd : ops.toList.all (Oper.bd ops tm.size) = true) (hx : Ext Wr w s own w' s' own') (hst' : St w' s' own' H') (hr : Rep s' r x)
    (hq : b = i ∨ b = b' ∧ ∀ b, b < w.heap.size → w'.heap[b]? = w.heap[b]?)
    (h : aD P Wr ops K b' f (listed.setIfInBounds i true) (fput fr d r) H') :
    (pnd b (listed.setIfInBounds i true) = true → Sw w w') ∧ wpX P .any ops (Post Wr K w s own tm.size ds) (Sw w) b f (listed.setIfInBounds i true) (Act.put ⟨tm, ds⟩ d x) w' := by
  have hts : (Act.put ⟨tm, ds⟩ d x).tmps.size = tm.size := by cases d <;> simp [Act.put]
  have h1 := h w' s' own' (Act.put ⟨tm, ds⟩ d x).tmps ds hst' ((hfr.mono hx.le).put d hr) (fun m hm => hf m (Nat.le_trans hx.size hm)) (by rw [hts]; exact hbd)
  rw [hts] at h1
  have e : (⟨(Act.put ⟨tm, ds⟩ d x).tmps, ds⟩ : Act) = Act.put ⟨tm, ds⟩ d x := by cases d <;> rfl
  rw [e] at h1
  rcases hq with rfl | ⟨rfl, hq⟩
  · have hp : pnd b (listed.setIfInBounds b true) = false := by
      unfold pnd
      simp [Array.getElem?_setIfInBounds, hsz, hi]
    exact ⟨fun e => (by rw [hp] at e; cases e), wpX_past _ _ _ _ hp (wpX_mono (S' := Sw w') (fun e a w h => Post.back hx h) (fun _ h => h) _ _ _ _ h1)⟩
  · have hs : Sw w w' := ⟨hx.size, hq⟩
    exact ⟨fun _ => hs, wpX_mono (fun e a w h => Post.back hx h) (fun _ h => hs.trans h) _ _ _ _ h1⟩
/-- what only computes, or loads -/
theorem ystep01 {o : Oper} {st st' : XS} {fr : Fr} {tm : Array Value} {ds : List Deferred} {D : List Nat} {nn : Nat} (h : xstep lo P F pu ops o st = some st') (hk : xkind P o = 0 ∨ xkind P o = 1) (hst : St w s own H) (hfr : RepF s fr tm) (hh : HR lo Wr ρ st.hp nn H) (hfx : FR ρ st.fr fr D) (hb : Oper.bd ops tm.size o = true) (hc : clear ops o D = true) :
    ∃ a r v, st' = ⟨xput st.fr o.dst a, st.hp, st.nx⟩ ∧ RA ρ a r ∧ Rep s r v ∧ (xkind P o = 0 ∧ YieldsIf P ops (fun _ => True) o v ⟨tm, ds⟩ ∨ xkind P o = 1 ∧ YieldsIf P ops (Sw w) o v ⟨tm, ds⟩) := by
  have hb' := hb
  unfold Oper.bd at hb'
  simp only [Bool.and_eq_true] at hb'
  have hop : ∀ x ∈ o.op.operands, Rep s (aev fr x) (Act.eval ⟨tm, ds⟩ x) := fun x hx => hfr.eval (List.all_eq_true.1 hb'.1.2 x (by simpa using hx))
  have hev := clear_ops hc hfx
  rcases guard_cases h hfr hfx hb hc with ⟨hw, hr⟩ | ⟨hw, rfl⟩
  · -- it comes up
    have go : ∀ {a hp' nx'}, xkeep st.hp st.nx (xpop P (xev st.fr) o.op) = some (a, hp', nx') → xkind P o = 0 → st' = ⟨xput st.fr o.dst a, hp', nx'⟩ → ∃ a r v, st' = ⟨xput st.fr o.dst a, st.hp, st.nx⟩ ∧ RA ρ a r ∧ Rep s r v ∧ (xkind P o = 0 ∧ YieldsIf P ops (fun _ => True) o v ⟨tm, ds⟩ ∨ xkind P o = 1 ∧ YieldsIf P ops (Sw w) o v ⟨tm, ds⟩) := fun {a hp' nx'} e k0 es => by
      obtain ⟨e1, rfl, rfl⟩ := xkeep_inv e
      obtain ⟨v, r, h1, h2, h3⟩ := pop_sound hop (xpop_sound (k := fun b => RA ρ a b) e1 hev fun b hb => hb)
      exact ⟨a, r, v, es, h3, h2, .inl ⟨k0, .inl ⟨hw, fun w _ => h1 w⟩⟩⟩
    unfold xrun at hr
    split at hr
    · rename_i a hp' nx' e
      cases hr
      obtain ⟨dst, op, ty, ps, af, gd⟩ := o
      dsimp only at e
      cases op <;> try exact go e (hk.resolve_right (fun q => by cases q)) rfl
      case store => revert hk; simp [xkind, okind, isPure]
      case alloc => revert hk; simp [xkind, okind, isPure]
      case box => revert hk; simp [xkind, okind, isPure]
      case buildSlice => revert hk; simp [xkind, okind, isPure]
      case makeSlice => revert hk; simp [xkind, okind, isPure]
      case lookup => revert hk; simp [xkind]
      case mapUpdate => revert hk; simp [xkind]
      case makeMap => revert hk; simp [xkind]
      case load t x =>
        obtain ⟨e1, rfl, rfl⟩ := xkeep_inv (show xkeep st.hp st.nx (xld (tK P t) (xev st.fr x) st.hp) = some (a, hp', nx') from e)
        obtain ⟨v, r, h1, h2, h3⟩ := eld_sound (P := P) (t := t) hst (nrm_rep (hop x (by simp [Op.operands]))) (xld_sound (k := fun b => RA ρ a b) e1 hh (hev x (by simp [Op.operands])).nrm fun b hb => hb)
        refine ⟨a, r, v, rfl, h3, h2, .inr ⟨rfl, .inl ⟨hw, fun w' hw' => ?_⟩⟩⟩
        simp only [execOp, Sem.run_bind, h1 w' hw'.2]; rfl
      case convert t u x =>
        have k0 : xkind P ⟨dst, .convert t u x, ty, ps, af, gd⟩ = 0 := by
          rcases hk with hk | hk
          · exact hk
          · unfold xkind at hk
            dsimp only at hk
            cases c1 : (tI P t).isSome && (tI P u).isSome <;> rw [c1] at hk <;> cases hk
        have c1 : ((tI P t).isSome && (tI P u).isSome) = true := by
          have := k0
          unfold xkind at this
          dsimp only at this
          cases c1 : (tI P t).isSome && (tI P u).isSome with
          | true => rfl
          | false => rw [c1] at this; cases this
        refine go (a := a) (hp' := hp') (nx' := nx') ?_ k0 rfl
        have e : (bif (tI P t).isSome && (tI P u).isSome then xkeep st.hp st.nx (xcvt (tN P t) (tI P u) (xev st.fr x)) else _) = some (a, hp', nx') := e
        rw [c1] at e
        exact e
      case call c =>
        obtain ⟨ce, ca, ct⟩ := c
        have hbi : isPure (.call ⟨ce, ca, ct⟩) = true := by
          have : xkind P ⟨dst, .call ⟨ce, ca, ct⟩, ty, ps, af, gd⟩ = okind ⟨dst, .call ⟨ce, ca, ct⟩, ty, ps, af, gd⟩ := rfl
          rw [this] at hk
          unfold okind at hk
          dsimp only at hk
          cases q : isPure (.call ⟨ce, ca, ct⟩) with
          | true => rfl
          | false => rw [q] at hk; simp at hk
        have hic : isCall (.call ⟨ce, ca, ct⟩) = false := by
          unfold isPure at hbi; unfold isCall
          dsimp only at hbi ⊢
          cases ce <;> first | rfl | cases hbi
        dsimp only at e
        rw [hic] at e
        have e : xcb lo P (xev st.fr) st.hp st.nx ce ca.toList ct.toList = some (a, hp', nx') := e
        refine go (a := a) (hp' := hp') (nx' := nx') ?_ (by show okind _ = 0; unfold okind; rw [if_pos hbi]) rfl
        show xkeep st.hp st.nx (xcl P (xev st.fr) ce ca.toList ct.toList) = _
        unfold xcb at e
        split at e
        · cases hbi
        · cases hbi
        · exact e
    · cases hr
  · rcases hk with hk | hk
    · exact ⟨_, _, _, rfl, .v _ _ (.k _ rfl), .v _, .inl ⟨hk, .inr ⟨hw, rfl⟩⟩⟩
    · exact ⟨_, _, _, rfl, .v _ _ (.k _ rfl), .v _, .inr ⟨hk, .inr ⟨hw, rfl⟩⟩⟩
end
end Go.Proofs.YtiallkiiofomgaaGreat
