/- Abstract values: the reckoning is right. -/
import Derived.Test.YtiallkiiofomgaaGreatVi
import Derived.Deep.LoopGhost
namespace Go.Proofs.YtiallkiiofomgaaGreat
section
variable {k : AV → Prop}
theorem pnum_ex {q : IntKind} {n : Int} (h : pnum q n k) : ∃ a, k a := by cases q <;> first | exact ⟨_, h⟩ | exact ⟨_, h.2⟩
theorem pint_ex {op : BinOp} {q : IntKind} {a b : Int} (h : pint op q a b k) : ∃ a, k a := by
  cases op <;> first | exact pnum_ex h | exact ⟨_, h⟩ | exact ⟨_, h.2⟩
theorem peq_ex {t : Nat} {c : Bool} {x y : AV} {k : Bool → Prop} (h : peq t c x y k) : ∃ a, k a := by
  unfold peq at h
  split at h
  · exact ⟨_, h.2⟩
  · exact ⟨_, h.2⟩
  · split at h
    · exact ⟨_, h.2⟩
    · exact h.elim
theorem pick1_ex {tk : Option Nat} {l : List AV} {o : Nat} (h : pick1 tk l o k) : ∃ a, k a := by
  unfold pick1 at h
  split at h
  · obtain ⟨a, _, h⟩ := optk_inv h; exact ⟨a, h⟩
  · exact ⟨_, h.2⟩
theorem eld_ex {tk : Option (Option Nat)} {x : AV} {H : Hp} (h : eld tk x H k) : ∃ a, k a := by
  unfold eld at h
  split at h
  · obtain ⟨_, _, _, h⟩ := ldO_inv h; exact pick1_ex h
  · obtain ⟨_, _, h⟩ := ldR_inv h; exact pick1_ex h
  · exact h.elim
theorem pfill_ex {pl : List (Nat × Nat)} {ev : Operand → AV} {k : List AV → Prop} : ∀ (ps : List (Nat × Operand)) (l : List AV), pfill pl ev ps l k → ∃ m, k m
  | [], l, h => ⟨l, h⟩
  | (i, x) :: ps, l, h => by
    unfold pfill at h
    split at h
    · exact pfill_ex ps _ h.2
    · exact h.elim
theorem psl3_ex {tn : Nat} {e : Option (TypeId × Nat × Nat)} {x : AV} {a b c : Option Int} (h : psl3 tn e x a b c k) : ∃ a, k a := by
  unfold psl3 at h
  split at h
  · exact ⟨_, h.2⟩
  · exact ⟨_, h.2⟩
  · split at h
    · exact ⟨_, h.2⟩
    · exact h.elim
  · split at h
    · exact ⟨_, h.2⟩
    · exact h.elim
theorem pop_ex {P : Program} {rv : Operand → AV} {op : Op} (h : pop P rv op k) : ∃ a, k a := by
  unfold pop at h
  split at h
  · exact ⟨_, h⟩
  · exact ⟨_, h⟩
  · unfold ppick at h
    split at h
    · unfold avif at h
      split at h
      · exact ⟨_, h⟩
      · exact ⟨_, h.2⟩
      · exact (Bool.eq_false_or_eq_true _).elim (fun e => ⟨_, h.1 e⟩) (fun e => ⟨_, h.2 e⟩)
    · exact h.elim
  · unfold pnl at h
    split at h <;> first | exact ⟨_, h⟩ | exact h.elim
  · unfold pbin at h
    split at h
    · exact pint_ex h.2
    · exact ⟨_, h.2⟩
    · exact ⟨_, h.2 false (by simp)⟩
    · split at h
      · obtain ⟨a, h⟩ := peq_ex h; exact ⟨_, h⟩
      · obtain ⟨a, h⟩ := peq_ex h; exact ⟨_, h⟩
      · exact h.elim
  · unfold pun at h
    split at h
    · exact ⟨_, h⟩
    · exact pnum_ex h
    · exact h.elim
  · unfold pcv at h
    split at h
    · exact pnum_ex h.2
    · exact h.elim
  · unfold pfa at h
    split at h <;> first | exact ⟨_, h⟩ | exact h.elim
  · unfold pfd at h
    split at h
    · exact pick1_ex h
    · exact h.elim
  · unfold pext at h
    split at h
    · obtain ⟨a, _, h⟩ := optk_inv h; exact ⟨a, h⟩
    · exact h.elim
  · unfold pix at h
    split at h
    · split at h
      · exact ⟨_, h.2⟩
      · split at h
        · exact ⟨_, h.2⟩
        · exact h.elim
    · exact h.elim
  · unfold psl at h
    split at h
    · exact psl3_ex h
    · exact h.elim
  · unfold pbuild at h
    split at h
    · unfold pbz at h
      split at h
      · obtain ⟨m, h⟩ := pfill_ex _ _ h; exact ⟨_, h⟩
      · exact h.elim
    · exact h.elim
  · unfold pfn at h
    split at h
    · exact ⟨_, h⟩
    · exact h.elim
  · unfold pif at h
    split at h
    · exact ⟨_, h.2⟩
    · exact h.elim
  · unfold pcl at h
    split at h
    · unfold alen at h
      split at h
      · exact ⟨_, h.2⟩
      · exact ⟨_, h.2⟩
      · split at h
        · exact ⟨_, h.2⟩
        · exact h.elim
    · unfold acap at h
      split at h <;> first | exact ⟨_, h.2⟩ | exact h.elim
    · unfold pmm at h
      split at h <;> first | exact ⟨_, h⟩ | exact h.elim
    · unfold pmm at h
      split at h <;> first | exact ⟨_, h⟩ | exact h.elim
    · exact h.elim
  · exact h.elim
end
section
variable {P : Program} {Wr : Nat → Prop} {w : World} {s : Sto} {own : Nat → Option Nat} {H : Hp}
/-- does it write? -/
def isW : Op → Bool
  | .store .. => true
  | .call c => match c.callee with
    | .builtin .append | .builtin .copy => true
    | _ => false
  | _ => false
/-- what an operation does: a value, or nothing -/
def Done (P : Program) (hc : Bool) (Wr : Nat → Prop) (m : Sem Next) (w : World) (s : Sto) (own : Nat → Option Nat) (k : AV → Hp → Prop) : Prop :=
  ∃ n x w' s' own' H' a, m.run P w = .ok n w' ∧ (n = .value x ∨ n = .skip ∧ x = undef) ∧ Ext Wr w s own w' s' own' ∧ St w' s' own' H' ∧ Rep s' a x ∧ k a H' ∧ (hc = false → ∀ b, b < w.heap.size → w'.heap[b]? = w.heap[b]?)
theorem eop_sound {o : Oper} {rv : Operand → AV} {ρ : Operand → Value} {k : AV → Hp → Prop} (hst : St w s own H) (hf : ∀ m, w.heap.size ≤ m → Wr m) (hr : ∀ x ∈ o.op.operands, Rep s (rv x) (ρ x)) (h : eop P Wr rv H o.op k) : Done P (isW o.op) Wr (execOp ρ o) w s own k := by
  have pure_ : pop P rv o.op (fun a => k a H) → Done P (isW o.op) Wr (execOp ρ o) w s own k := fun h => by
    obtain ⟨x, a, h1, h2, h3⟩ := pop_sound hr h
    exact ⟨_, x, w, s, own, H, a, h1 w, .inl rfl, Ext.refl .., hst, h2, h3, fun _ _ _ => rfl⟩
  obtain ⟨dst, op, ty, ps, af, gd⟩ := o
  dsimp only at hr h pure_
  have nr : ∀ x ∈ op.operands, Rep s (nrm (rv x)) (ρ x) := fun x hx => nrm_rep (hr x hx)
  cases op <;> try exact pure_ h
  case makeSlice t x y =>
    have h : emk (tE P t) (tZe P (tE P t)) Wr (num (nrm (rv x))) (num (nrm (rv y))) H k := h
    obtain ⟨w', own', H', r, a, h1, h2, h3, h4, h5, h6⟩ := emk_sound hst hf (nr x (by simp [Op.operands])) (nr y (by simp [Op.operands])) h
    exact ⟨_, r, w', s, own', H', a, by simp only [execOp, Sem.run_bind, h1]; rfl, .inl rfl, h3, h2, h4, h5, fun _ => h6⟩
  case call c =>
    obtain ⟨ce, as_, ts⟩ := c
    have hb : ebc P Wr rv H ce as_.toList ts.toList k := h
    clear h
    have ea : as_ = as_.toList.toArray := by simp
    have et : ts = ts.toList.toArray := by simp
    generalize as_.toList = as' at *
    generalize ts.toList = ts' at *
    subst ea et
    have h := hb
    unfold ebc at h
    split at h
    · rename_i x y t u
      obtain ⟨w', s', own', H', r, a, h1, h2, h3, h4, h5⟩ := eap_sound (ty := ty) hst hf (nr x (by simp [Op.operands, Call.operands])) (nr y (by simp [Op.operands, Call.operands])) h
      refine ⟨.value r, r, w', s', own', H', a, ?_, .inl rfl, h3, h2, h4, h5, fun e => by cases e⟩
      simp only [execOp, resolve, invoke, builtin, Sem.run_bind, Sem.run_pure, Result.andThen_ok, List.map_toArray, List.map_cons, List.map_nil, h1]
    · rename_i x y t u
      obtain ⟨w', H', r, a, h1, h2, h3, h4, h5⟩ := ecp_sound (ty := ty) hst (nr x (by simp [Op.operands, Call.operands])) (nr y (by simp [Op.operands, Call.operands])) h
      refine ⟨.value r, r, w', s, own, H', a, ?_, .inl rfl, h3, h2, h4, h5, fun e => by cases e⟩
      simp only [execOp, resolve, invoke, builtin, Sem.run_bind, Sem.run_pure, Result.andThen_ok, List.map_toArray, List.map_cons, List.map_nil, h1]
    · exact pure_ (by simpa [pop] using h)
  case load t x =>
    obtain ⟨y, a, h1, h2, h3⟩ := eld_sound hst (nr x (by simp [Op.operands])) h
    exact ⟨_, y, w, s, own, H, a, by simp only [execOp, Sem.run_bind, h1 w (fun _ _ => rfl)]; rfl, .inl rfl, Ext.refl .., hst, h2, h3, fun _ _ _ => rfl⟩
  case store t x y =>
    obtain ⟨w', H', h1, h2, h3, h4⟩ := est_sound hst (nr x (by simp [Op.operands])) (nr y (by simp [Op.operands])) h
    exact ⟨.skip, undef, w', s, own, H', _, by simp only [execOp, Sem.run_bind, h1]; rfl, .inr ⟨rfl, rfl⟩, h3, h2, .v _, h4, fun e => by cases e⟩
  case alloc t =>
    have h : enew t Wr (zcells (tZ P t)) H k := h
    cases hz : tZ P t with
    | none => rw [hz] at h; exact h.elim
    | some z =>
      obtain ⟨w', own', H', x, a, h1, h2, h3, h4, h5, h6⟩ := enew_sound (u := z) hst hf (fun l hl => avc_sound (ofVal_rep s z) (by rw [hz] at hl; exact hl)) h
      refine ⟨_, x, w', s, own', H', a, ?_, .inl rfl, h3, h2, h4, h5, fun _ => h6⟩
      have hzz : (zeroValue t).run P w = .ok z w := by
        unfold tZ at hz
        cases hi : P.info? t with
        | none => simp [hi] at hz
        | some i => simp [hi] at hz; simp [zeroValue, typeInfo, hi, hz]
      simp only [execOp, Instr.alloc, Sem.run_bind, hzz, Result.andThen_ok]
      rw [Sem.run_bind] at h1
      rw [h1]
      rfl
  case box t x =>
    obtain ⟨w', own', H', y, a, h1, h2, h3, h4, h5, h6⟩ := enew_sound (u := ρ x) hst hf (fun l hl => avc_sound (nr x (by simp [Op.operands])) hl) h
    refine ⟨_, y, w', s, own', H', a, ?_, .inl rfl, h3, h2, h4, h5, fun _ => h6⟩
    simp only [execOp, Instr.box, Sem.run_bind] at h1 ⊢
    rw [h1]
    rfl
  case buildSlice t n ps' =>
    have h : ebs (tEz P t) (tE P t) n (fun x => nrm (rv x)) ps'.toList fun a => k a H := h
    obtain ⟨w', s', x, a, h1, h2, h3, h4, h5, h6⟩ := ebs_sound (Wr := Wr) (ρ := ρ) hst (fun p hp => nr p.2 (by simp only [Op.operands]; simpa using ⟨p.1, by simpa using hp⟩)) h
    exact ⟨_, x, w', s', own, H, a, by simp only [execOp, Sem.run_bind, h1]; rfl, .inl rfl, h3, h2, h4, h5, fun _ => h6⟩
theorem Done.wp {hc : Bool} {o : Oper} {a : Act} {k : AV → Hp → Prop} {K : Act → World → Prop} {Q : Exit → Act → World → Prop} (h : Done P hc Wr (execOp a.eval o) w s own k)
    (hk : ∀ x w' s' own' H' r, Ext Wr w s own w' s' own' → (hc = false → ∀ b, b < w.heap.size → w'.heap[b]? = w.heap[b]?) → St w' s' own' H' → Rep s' r x → k r H' → K (a.put o.dst x) w') : o.wp P a w K Q := by
  obtain ⟨n, x, w', s', own', H', r, h1, h2, h3, h4, h5, h6, h7⟩ := h
  unfold Oper.wp
  rw [h1]
  rcases h2 with rfl | ⟨rfl, rfl⟩
  · exact hk x w' s' own' H' r h3 h7 h4 h5 h6
  · exact hk undef w' s' own' H' r h3 h7 h4 h5 h6
theorem eop_pure {op : Op} {rv : Operand → AV} {k : AV → Hp → Prop} (hp : isPure op = true) (h : eop P Wr rv H op k) : pop P rv op fun a => k a H := by
  cases op <;> first | exact h | cases hp | skip
  rename_i c
  obtain ⟨ce, ca, ct⟩ := c
  cases ce with
  | builtin f => cases f <;> first | (cases hp; done) | exact h
  | _ => cases hp
/-- behind a call -/
theorem acall_sound {o : Oper} {g : FuncId} {pu : Bool} {a : Act} {as : List AV} {vs : List Value} {k : AV → Hp → Prop} {K : Act → World → Prop} {Q : Exit → Act → World → Prop} (hst : St w s own H) (hf : ∀ m, w.heap.size ≤ m → Wr m) (hr : Reps s as vs) (hx : (execOp a.eval o).run P w = (callFunc g vs.toArray).run P w) (h : acall P Wr pu g as H k)
    (hk : ∀ x w' s' own' H' r, Ext Wr w s own w' s' own' → (pu = true → ∀ b, b < w.heap.size → w'.heap[b]? = w.heap[b]?) → St w' s' own' H' → Rep s' r x → k r H' → K (a.put o.dst x) w') : o.wp P a w K Q := by
  obtain ⟨W, R, hac, hpu, hW, hR⟩ := h
  -- what the model then asks for: the least that may be written
  have hcall := hac w s own _ (fun m => m ∈ W ∨ w.heap.size ≤ m) hst hr (fun m hm => .inl hm) (fun m hm => .inr hm)
  have fin : ∀ e w', (∃ v a s' own' H', e = .returned v ∧ Ext (fun m => m ∈ W ∨ w.heap.size ≤ m) w s own w' s' own' ∧ St w' s' own' H' ∧ Rep s' a v ∧ R (fun m => m ∈ W ∨ w.heap.size ≤ m) a H') → ∃ v, e = Ending.returned v ∧ K (a.put o.dst v) w' := fun e w' he => by
    obtain ⟨v, r, s', own', H', rfl, hx, hst', hrep, hR'⟩ := he
    refine ⟨v, rfl, hk v w' s' own' H' r (hx.mono fun b m hb hm hw => ?_) (fun hp b hb => ?_) hst' hrep (hR _ _ _ (fun b hb => hb.elim (hW b) (hf b)) hR')⟩
    · rcases hw with hw | hw
      · exact hW m hw
      · exact hf m hw
    · refine (hx.keep b hb fun m hm hw => ?_).1
      rw [hpu hp] at hw
      rcases hw with hw | hw
      · cases hw
      · have := (hst.lt b m hm).2; omega
  unfold Oper.wp
  rw [hx]
  rcases hcall with ⟨hc, hcall⟩ | ⟨v, w', hc, he⟩
  · rw [hc]
    refine Calls.mono hcall fun e w' he => ?_
    obtain ⟨v, rfl, h⟩ := fin e w' he
    exact h
  · rw [hc]
    obtain ⟨v', e, h⟩ := fin _ w' he
    cases e
    exact h
/-- a call by name or by a value -/
theorem ecl_sound {o : Oper} {c : Call} {pu : Bool} {a : Act} {rv : Operand → AV} {k : AV → Hp → Prop} {K : Act → World → Prop} {Q : Exit → Act → World → Prop} (ho : o.op = .call c) (hst : St w s own H) (hf : ∀ m, w.heap.size ≤ m → Wr m) (hr : ∀ x ∈ o.op.operands, Rep s (rv x) (a.eval x)) (h : ecl P Wr pu rv H c k)
    (hk : ∀ x w' s' own' H' r, Ext Wr w s own w' s' own' → (pu = true → ∀ b, b < w.heap.size → w'.heap[b]? = w.heap[b]?) → St w' s' own' H' → Rep s' r x → k r H' → K (a.put o.dst x) w') : o.wp P a w K Q := by
  have vals : ∀ l : List Value, Reps s (l.map .v) l := fun l => ⟨by simp, fun i a x e g => by
    rw [List.getElem?_map, Option.map_eq_some_iff] at e
    obtain ⟨z, hz, rfl⟩ := e
    rw [g] at hz; cases hz; exact .v _⟩
  have rargs : Reps s (c.args.toList.map fun x => nrm (rv x)) (c.args.toList.map a.eval) := ⟨by simp, fun i b x e g => by
    rw [List.getElem?_map, Option.map_eq_some_iff] at e g
    obtain ⟨z, hz, rfl⟩ := e
    obtain ⟨z', hz', rfl⟩ := g
    rw [hz] at hz'; cases hz'
    refine nrm_rep (hr z ?_)
    have hm : z ∈ c.args := by simpa using List.mem_of_getElem? hz
    rw [ho]
    cases e : c.callee <;> simp [Op.operands, Call.operands, e, hm]⟩
  unfold ecl at h
  split at h
  · rename_i f hc
    unfold ecv at h
    split at h
    · rename_i g fi ca hfv
      have rf : a.eval f = .func (.func g) fi ca := by
        have h1 := nrm_rep (hr f (by rw [ho]; simp [Op.operands, Call.operands, hc]))
        rw [hfv] at h1
        exact h1.v_inv
      have rall := ((vals fi.toList).append rargs).append (vals ca.toList)
      refine acall_sound hst hf rall ?_ h hk
      simp only [execOp, ho, resolve, hc, rf, Deferred.ofValue, Sem.run_bind, Sem.run_pure, Result.andThen_ok, invoke]
      have e : fi ++ Array.map a.eval c.args ++ ca = (fi.toList ++ c.args.toList.map a.eval ++ ca.toList).toArray := by simp
      rw [e]
    · exact h.elim
  · rename_i x m hc
    unfold eiv at h
    split at h
    · rename_i t v hxv
      obtain ⟨g, v', hm, h⟩ := h
      have rf : a.eval x = .iface t v := by
        have h1 := nrm_rep (hr x (by rw [ho]; simp [Op.operands, Call.operands, hc]))
        rw [hxv] at h1
        exact h1.v_inv
      refine acall_sound hst hf (Reps.cons (.v v') rargs) ?_ h hk
      have e : (#[Value.iface t v] ++ Array.map a.eval c.args)[0]? = some (.iface t v) := by simp [Array.getElem?_append]
      have e2 : (#[Value.iface t v] ++ Array.map a.eval c.args).extract 1 (#[Value.iface t v] ++ Array.map a.eval c.args).size = Array.map a.eval c.args := by
        apply Array.ext'; simp [List.take_of_length_le]
      have e3 : #[v'] ++ Array.map a.eval c.args = (v' :: c.args.toList.map a.eval).toArray := by simp
      simp only [execOp, ho, resolve, hc, rf, Sem.run_bind, Sem.run_pure, Result.andThen_ok, invoke, e, e2, callMethod, run_program, hm, e3]
    · exact h.elim
  · exact h.elim
theorem oper_mono {o : Oper} {a : Act} {K K' : Act → World → Prop} {Q Q' : Exit → Act → World → Prop} (hK : ∀ a w, K a w → K' a w) (hQ : ∀ e a w, Q e a w → Q' e a w) (h : o.wp P a w K Q) : o.wp P a w K' Q' := by
  unfold Oper.wp at *
  generalize (execOp a.eval o).run P w = r at *
  cases r with
  | ok n w' =>
    cases n <;> simp only [Oper.upon] at h ⊢ <;>
      first
        | exact hK _ _ h
        | exact Calls.mono h (fun e w'' he => by cases e <;> first | exact hK _ _ he | exact hQ _ _ _ he | exact let ⟨a, w, q⟩ := he; ⟨a, w, hQ _ _ _ q⟩)
        | exact Rows.mono h (fun _ _ he => hK _ _ he)
  | halt x w' => cases x <;> simp only [Oper.upon] at h ⊢ <;> exact hQ _ _ _ h
theorem wpList_mono {ops : Array Oper} {Q Q' : Exit → Act → World → Prop} (hQ : ∀ e a w, Q e a w → Q' e a w) : ∀ (l : List Oper) (a : Act) (w : World), wpList P ops Q l a w → wpList P ops Q' l a w
  | [], a, w, h => hQ _ _ _ h
  | o :: l, a, w, h => by
    unfold wpList at h ⊢
    split
    · rename_i hw
      rw [if_pos hw] at h
      exact h.imp (oper_mono (fun a w h => wpList_mono hQ l a w h) hQ) (fun ⟨h1, a, w, q⟩ => ⟨h1, a, w, hQ _ _ _ q⟩)
    · rename_i hw
      rw [if_neg hw] at h
      exact wpList_mono hQ l _ _ h
theorem RepF.gv {ops : Array Oper} {fr : Fr} {tm : Array Value} {j : Nat} {A : Bool} (hf : RepF s fr tm) (hb : ((ops[j]?).bind (·.dst)).all (fun d => decide (d < tm.size)) = true) (h : gv ops fr j = .v (.bool A)) : yielded ops tm j = some A := by
  unfold Go.Proofs.YtiallkiiofomgaaGreat.gv at h
  unfold yielded
  cases e : (ops[j]?).bind (·.dst) with
  | none => rw [e] at h; cases h
  | some t =>
    rw [e] at h hb
    have ht : t < tm.size := by simpa using hb
    have := hf t tm[t] (Array.getElem?_eq_getElem ht)
    have h : fr t = .v (.bool A) := h
    rw [h] at this
    simp [Array.getElem?_eq_getElem ht, this.v_inv]
/-- what is left after an operation -/
theorem step_fin {ops : Array Oper} {K : Kt} {rest : List Oper} {fr : Fr} {H' : Hp} {tm : Array Value} {ds : List Deferred} {d : Option Tmp} {x : Value} {r : AV} {w' : World} {s' : Sto} {own' : Nat → Option Nat} (hf : ∀ m, w.heap.size ≤ m → Wr m) (hfr : RepF s fr tm) (hbd : rest.all (Oper.bd ops tm.size) = true)
    (hx : Ext Wr w s own w' s' own') (hst' : St w' s' own' H') (hr : Rep s' r x) (h : aO P Wr ops K rest (fput fr d r) H') : wpList P ops (Post Wr K w s own tm.size ds) rest (Act.put ⟨tm, ds⟩ d x) w' := by
  have hsz : (Act.put ⟨tm, ds⟩ d x).tmps.size = tm.size := by cases d <;> simp [Act.put]
  have hds : (Act.put ⟨tm, ds⟩ d x).defers = ds := by cases d <;> rfl
  have := h w' s' own' (Act.put ⟨tm, ds⟩ d x).tmps ds hst' ((hfr.mono hx.le).put d hr) (fun m hm => hf m (Nat.le_trans hx.size hm)) (by rw [hsz]; exact hbd)
  rw [hsz] at this
  have e : (⟨(Act.put ⟨tm, ds⟩ d x).tmps, ds⟩ : Act) = Act.put ⟨tm, ds⟩ d x := by cases d <;> rfl
  rw [e] at this
  exact wpList_mono (fun e a w h => h.back hx) _ _ _ this
/-- the reckoning of a region in order is right -/
theorem eO_sound {ops : Array Oper} {K : Kt} : ∀ (rest : List Oper) (fr : Fr) (H : Hp), eO P Wr ops (fun _ => false) (cT P Wr ops K) K rest fr H → aO P Wr ops K rest fr H
  | [], fr, H, h => fun w s own tm ds hst hfr hf hb => ⟨trivial, rfl, rfl, fr, s, own, H, Ext.refl .., hst, hfr, h⟩
  | o :: rest, fr, H, h => fun w s own tm ds hst hfr hf hb => by
    simp only [List.all_cons, Bool.and_eq_true] at hb
    obtain ⟨hbo, hbr⟩ := hb
    have hbo' := hbo
    unfold Oper.bd at hbo'
    simp only [Bool.and_eq_true] at hbo'
    obtain ⟨⟨hbd, hbx⟩, hbg⟩ := hbo'
    have hop : ∀ x ∈ o.op.operands, Rep s (aev fr x) (Act.eval ⟨tm, ds⟩ x) := fun x hx => hfr.eval (List.all_eq_true.1 hbx x (by simpa using hx))
    -- it comes up
    have run : (match o.op with
        | .call c => if isCall (.call c) then ecl P Wr false (aev fr) H c fun a H' => cT P Wr ops K rest (fput fr o.dst a) H' (eO P Wr ops (fun _ => false) (cT P Wr ops K) K rest (fput fr o.dst a) H')
          else eop P Wr (aev fr) H (.call c) fun a H' => eO P Wr ops (fun _ => false) (cT P Wr ops K) K rest (fput fr o.dst a) H'
        | op => eop P Wr (aev fr) H op fun a H' => eO P Wr ops (fun _ => false) (cT P Wr ops K) K rest (fput fr o.dst a) H') →
        o.wp P ⟨tm, ds⟩ w (wpList P ops (Post Wr K w s own tm.size ds) rest) (Post Wr K w s own tm.size ds) := by
      have plain : eop P Wr (aev fr) H o.op (fun a H' => eO P Wr ops (fun _ => false) (cT P Wr ops K) K rest (fput fr o.dst a) H') → o.wp P ⟨tm, ds⟩ w (wpList P ops (Post Wr K w s own tm.size ds) rest) (Post Wr K w s own tm.size ds) := fun h =>
        (eop_sound hst hf hop h).wp fun x w' s' own' H' r hx _ hst' hr hk => step_fin hf hfr hbr hx hst' hr (eO_sound rest _ _ hk)
      intro h
      split at h
      · rename_i c hc
        split at h
        · exact ecl_sound hc hst hf hop h fun x w' s' own' H' r hx _ hst' hr hk => step_fin hf hfr hbr hx hst' hr hk
        · exact plain (by rw [hc]; exact h)
      · exact plain h
    have skip : ∀ fr', fr' = fput fr o.dst (.v undef) → eO P Wr ops (fun _ => false) (cT P Wr ops K) K rest fr' H → wpList P ops (Post Wr K w s own tm.size ds) rest (Act.put ⟨tm, ds⟩ o.dst undef) w := fun fr' e h => by
      subst e
      exact step_fin hf hfr hbr (Ext.refl ..) hst (.v _) (eO_sound rest _ _ h)
    unfold wpList
    unfold eO at h
    dsimp only at h
    cases hg : o.guard with
    | none =>
      rw [hg] at h
      have hw : Region.wanted o (yielded ops tm) = true := by simp [Region.wanted, hg]
      rw [if_pos hw]
      exact .inl (run h)
    | some jw =>
      obtain ⟨j, wt⟩ := jw
      rw [hg] at h hbg
      dsimp only at h hbg
      unfold egd at h
      split at h
      · rename_i A hA
        have hy := hfr.gv hbg hA
        have hw : Region.wanted o (yielded ops tm) = (A == wt) := by
          simp only [Region.wanted, hg, hy]
          cases A <;> cases wt <;> rfl
        show if Region.wanted o (yielded ops tm) = true then _ else _
        rw [hw]
        have hh := h
        unfold eG at hh
        rcases hh with ⟨h1, h2⟩ | h3
        · cases e : A == wt with
          | true => rw [if_pos rfl]; exact .inl (run (h1 e))
          | false => rw [if_neg (by simp)]; exact skip _ rfl (h2 e)
        · -- known under the guard
          have gd : ∀ {x : Value} {a : AV}, (A == wt) = true → Rep s a x → eO P Wr ops (fun _ => false) (cT P Wr ops K) K rest (fput fr o.dst (.gd (A == wt) a)) H → wpList P ops (Post Wr K w s own tm.size ds) rest (Act.put ⟨tm, ds⟩ o.dst x) w := fun _ ha hk =>
            step_fin hf hfr hbr (Ext.refl ..) hst (.gd _ _ _ fun _ => ha) (eO_sound rest _ _ hk)
          have gn : ∀ {a : AV}, (A == wt) = false → eO P Wr ops (fun _ => false) (cT P Wr ops K) K rest (fput fr o.dst (.gd (A == wt) a)) H → wpList P ops (Post Wr K w s own tm.size ds) rest (Act.put ⟨tm, ds⟩ o.dst undef) w := fun e hk =>
            step_fin hf hfr hbr (Ext.refl ..) hst (.gd _ _ _ fun e' => by rw [e] at e'; cases e') (eO_sound rest _ _ hk)
          cases e : A == wt with
          | true =>
            rw [if_pos rfl]
            left
            have hop' : ∀ x ∈ o.op.operands, Rep s (str (A == wt) (aev fr x)) (Act.eval ⟨tm, ds⟩ x) := fun x hx => str_rep (hop x hx) e
            split at h3
            · rename_i t x hl
              obtain ⟨y, a, g1, g2, g3⟩ := eld_sound hst (nrm_rep (hop' x (by rw [hl]; simp [Op.operands]))) h3
              unfold Oper.wp
              have : (execOp (Act.eval ⟨tm, ds⟩) o).run P w = .ok (.value y) w := by
                simp only [execOp, hl, Sem.run_bind, g1 w (fun _ _ => rfl)]; rfl
              rw [this]
              exact gd e g2 g3
            · obtain ⟨y, a, g1, g2, g3⟩ := pop_sound (P := P) hop' h3
              unfold Oper.wp
              rw [g1 w]
              exact gd e g2 g3
          | false =>
            rw [if_neg (by simp)]
            split at h3
            · obtain ⟨a, h⟩ := eld_ex h3
              exact gn e h
            · obtain ⟨a, h⟩ := pop_ex h3
              exact gn e h
      · exact h.elim
/-- the reckoning of code is right -/
theorem eC_sound : ∀ (c : Code) (K : Kt) (fr : Fr) (H : Hp), eC P Wr c K fr H → aC P Wr c K fr H
  | .skip, K, fr, H, h => fun w s own tm ds hst hfr hf _ => wp_skip ⟨trivial, rfl, rfl, fr, s, own, H, Ext.refl .., hst, hfr, h⟩
  | .label _, K, fr, H, h => fun w s own tm ds hst hfr hf _ => wp_label ⟨trivial, rfl, rfl, fr, s, own, H, Ext.refl .., hst, hfr, h⟩
  | .exit _, K, fr, H, h => fun w s own tm ds hst hfr hf _ => wp_exit ⟨trivial, rfl, rfl, fr, s, own, H, Ext.refl .., hst, hfr, h⟩
  | .ret, K, fr, H, h => fun w s own tm ds hst hfr hf _ => wp_ret ⟨trivial, rfl, rfl, fr, s, own, H, Ext.refl .., hst, hfr, h⟩
  | .region _ ops false, K, fr, H, h => fun w s own tm ds hst hfr hf hb => wp_region_list (eO_sound ops.toList fr H h w s own tm ds hst hfr hf hb)
  | .seq a b, K, fr, H, h => fun w s own tm ds hst hfr hf hb => by
    simp only [Code.bd, Bool.and_eq_true] at hb
    refine wp_seq (Code.wp_mono (fun e a' w' hq => ?_) (eC_sound a _ fr H h w s own tm ds hst hfr hf hb.1))
    obtain ⟨h0, h1, h2, fr', s', own', H', hx, hst', hfr', hk⟩ := hq
    cases e with
    | normal =>
      have := eC_sound b K fr' H' hk w' s' own' a'.tmps ds hst' hfr' (fun m hm => hf m (Nat.le_trans hx.size hm)) (by rw [h2]; exact hb.2)
      rw [h2] at this
      rw [← h1] at this ⊢
      exact Code.wp_mono (fun e a w h => Post.back hx h) this
    | _ => exact ⟨h0, h1, h2, fr', s', own', H', hx, hst', hfr', hk⟩
  | .cond c a b, K, fr, H, h => fun w s own tm ds hst hfr hf hb => by
    simp only [Code.bd, Bool.and_eq_true] at hb
    obtain ⟨⟨hb1, hb2⟩, hb3⟩ := hb
    have hr := nrm_rep (hfr.eval (ds := ds) hb1)
    unfold eC acond at h
    split at h
    · rename_i A hA
      rw [hA] at hr
      refine wp_cond hr.v_inv ?_
      cases A with
      | true => exact h.1 rfl w s own tm ds hst hfr hf hb2
      | false => exact h.2 rfl w s own tm ds hst hfr hf hb3
    · exact h.elim
  | .block id b, K, fr, H, h => fun w s own tm ds hst hfr hf hb => by
    refine wp_block (Code.wp_mono (fun e a' w' hq => ?_) (eC_sound b _ fr H h w s own tm ds hst hfr hf hb))
    obtain ⟨h0, h1, h2, fr', s', own', H', hx, hst', hfr', hk⟩ := hq
    cases e with
    | exit i =>
      unfold Exit.inBlock
      dsimp only at hk ⊢
      split at hk
      · rename_i hi; rw [if_pos hi]; exact ⟨trivial, h1, h2, fr', s', own', H', hx, hst', hfr', hk⟩
      · rename_i hi; rw [if_neg hi]; exact ⟨h0, h1, h2, fr', s', own', H', hx, hst', hfr', hk⟩
    | _ => exact ⟨h0, h1, h2, fr', s', own', H', hx, hst', hfr', hk⟩
  | .region _ _ true, _, _, _, h => h
  | .loop _, _, _, _, h => h
  | .rangeFunc .., _, _, _, h => h
  | .scope _, _, _, _, h => h
  | .goto _, _, _, _, h => h
  | .refuse _, _, _, _, h => h
/-- what memory reads as may be said more weakly -/
def Vs (fr : Fr) (H : Hp) (fr' : Fr) (H' : Hp) : Prop := ∀ (w : World) (s : Sto) (own : Nat → Option Nat) (tm : Array Value), St w s own H → RepF s fr tm → (∀ m, w.heap.size ≤ m → Wr m) → ∃ s' own', Ext Wr w s own w s' own' ∧ St w s' own' H' ∧ RepF s' fr' tm
theorem aC.vs {c : Code} {K : Kt} {fr fr' : Fr} {H H' : Hp} (v : Vs (Wr := Wr) fr H fr' H') (h : aC P Wr c K fr' H') : aC P Wr c K fr H := fun w s own tm ds hst hfr hf hb => by
  obtain ⟨s', own', hx, hst', hfr'⟩ := v w s own tm hst hfr hf
  exact Code.wp_mono (fun e a w h => h.back hx) (h w s' own' tm ds hst' hfr' hf hb)
theorem aO.vs {ops : Array Oper} {l : List Oper} {K : Kt} {fr fr' : Fr} {H H' : Hp} (v : Vs (Wr := Wr) fr H fr' H') (h : aO P Wr ops K l fr' H') : aO P Wr ops K l fr H := fun w s own tm ds hst hfr hf hb => by
  obtain ⟨s', own', hx, hst', hfr'⟩ := v w s own tm hst hfr hf
  exact wpList_mono (fun e a w h => h.back hx) _ _ _ (h w s' own' tm ds hst' hfr' hf hb)
/-- a value may be said more weakly -/
def AV.le (a b : AV) : Prop := ∀ s x, Rep s a x → Rep s b x
theorem AV.le.refl (a : AV) : a.le a := fun _ _ h => h
theorem AV.le.any (a : AV) : a.le .any := fun _ x _ => .any x
theorem AV.le.nil (x : Bool) : AV.le (.v (.slice none 0 0)) (.sl x []) := fun _ y h => by rw [h.v_inv]; exact .nil0 _ x
theorem AV.le.sl (x : Bool) (l : List (List AV)) : AV.le (.sl x l) (.sl false l) := fun _ y h => by
  cases h with
  | nil _ a c hn _ => exact .nil false a c hn (fun e => by cases e)
  | sl _ l b o es c f h1 h2 h3 h4 h5 => exact .sl false l b o es c f h1 h2 h3 h4 (fun e => by cases e)
theorem Vs.sub {fr fr' : Fr} {H H' : Hp} (h : ∀ i, (fr i).le (fr' i)) (k : Sub H' H) : Vs (Wr := Wr) fr H fr' H' := fun w s own tm hst hfr _ => ⟨s, own, Ext.refl .., hst.drop k, fun i x e => h i _ _ (hfr i x e)⟩
/-- a loop: what holds at its head, for some x; what goes down -/
theorem aC.loop {c : Code} {K : Kt} {X : Type} (fr' : X → Fr) (H' : X → Hp) (I : X → Prop) (m : X → Nat) {fr : Fr} {H : Hp} (x0 : X) (h0 : I x0) (v : Vs (Wr := Wr) fr H (fr' x0) (H' x0))
    (h : ∀ x, I x → aC P Wr c (fun e fr H => match e with | .normal => ∃ y, I y ∧ m y < m x ∧ Vs (Wr := Wr) fr H (fr' y) (H' y) | e => K e fr H) (fr' x) (H' x)) : aC P Wr (.loop c) K fr H := by
  refine aC.vs v fun w s own tm ds hst hfr hf hb => ?_
  have hb : Code.bd tm.size c = true := hb
  refine wp_loop_ghost (fun n a w' => a.defers = ds ∧ a.tmps.size = tm.size ∧ ∃ x s' own', m x = n ∧ I x ∧ Ext Wr w s own w' s' own' ∧ St w' s' own' (H' x) ∧ RepF s' (fr' x) a.tmps) (m x0)
    ⟨rfl, rfl, x0, s, own, rfl, h0, Ext.refl .., hst, hfr⟩ fun n a w1 ⟨h1, h2, x, s1, own1, hn, hx, hx1, hst1, hfr1⟩ => ?_
  obtain ⟨tm1, ds1⟩ := a
  dsimp only at h1 h2 hfr1
  subst h1 hn
  have hf1 : ∀ m, w1.heap.size ≤ m → Wr m := fun m hm => hf m (Nat.le_trans hx1.size hm)
  have := h x hx w1 s1 own1 tm1 ds1 hst1 hfr1 hf1 (by rw [h2]; exact hb)
  refine Code.wp_mono (fun e a w' hq => ?_) this
  obtain ⟨g0, g1, g2, fr2, s2, own2, H2, hx2, hst2, hfr2, hk⟩ := hq
  cases e with
  | normal =>
    obtain ⟨y, hy, hlt, hv⟩ := hk
    obtain ⟨s3, own3, hx3, hst3, hfr3⟩ := hv w' s2 own2 a.tmps hst2 hfr2 (fun m hm => hf1 m (Nat.le_trans hx2.size hm))
    exact ⟨m y, hlt, g1, g2.trans h2, y, s3, own3, rfl, hy, hx1.trans (hx2.trans hx3), hst3, hfr3⟩
  | _ => exact ⟨g0, g1, g2.trans h2, fr2, s2, own2, H2, hx1.trans hx2, hst2, hfr2, hk⟩
/-- a contract is applied -/
theorem acall.of {pu : Bool} {f : FuncId} {as : List AV} {H : Hp} {W : List Nat} {R : AV → Hp → Prop} {k : AV → Hp → Prop} (h : AC P f as H W fun _ => R) (hk : ∀ a H', R a H' → k a H') (hp : pu = true → W = [] := by simp) (hW : ∀ m ∈ W, Wr m := by simp [*]) : acall P Wr pu f as H k := ⟨W, _, h, hp, hW, fun _ a H' _ => hk a H'⟩
/-- one that gives back what may be written -/
theorem acall.ofN {pu : Bool} {f : FuncId} {as : List AV} {H : Hp} {W : List Nat} {R : Rs} {k : AV → Hp → Prop} (h : AC P f as H W R) (hk : ∀ N a H', (∀ b, N b → Wr b) → R N a H' → k a H') (hp : pu = true → W = [] := by simp) (hW : ∀ m ∈ W, Wr m := by simp [*]) : acall P Wr pu f as H k := ⟨W, _, h, hp, hW, hk⟩
/-- results, as they are read -/
def ares (fr : Fr) (H : Hp) : List ResultVar → Option (List AV)
  | [] => some []
  | .tmp t :: l => (ares fr H l).map (nrm (fr t) :: ·)
  | .cell t T :: l => match nrm (fr t) with
    | .v (.pointer (some ⟨b, o, none⟩)) => match H b with
      | some (.cells _ c) => match tK P T with
        | some none => match c[o]? with
          | some a => (ares fr H l).map (a :: ·)
          | none => none
        | some (some n) => if o + n ≤ c.length then (ares fr H l).map (.agg ((c.drop o).take n) :: ·) else none
        | none => none
      | _ => none
    | _ => none
def ares1 (fr : Fr) (H : Hp) (l : List ResultVar) : Option AV := match ares (P := P) fr H l with
  | some [a] => some a
  | some l => some (.tup l)
  | none => none
end
end Go.Proofs.YtiallkiiofomgaaGreat
