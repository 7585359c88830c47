/- Abstract values: operations that only compute are right: structs that are made; all together. -/
import Derived.Test.YtiallkiiofomgaaGreatVe
import Derived.Laws.Tables
namespace Go.Proofs.YtiallkiiofomgaaGreat
section
variable {P : Program} {s : Sto}
theorem avc_sound {a : AV} {x : Value} {l : List AV} (r : Rep s a x) (h : avc a = some l) : Reps s l x.cells.toList ∧ ∀ y ∈ x.cells.toList, y.oneCell' = true := by
  have one : ∀ {b : AV} {y : Value}, Rep s b y → y.oneCell' = true → Reps s [b] y.cells.toList ∧ ∀ z ∈ y.cells.toList, z.oneCell' = true := by
    intro b y rb hy
    have e : y.cells = #[y] := by cases y <;> first | rfl | (simp [Value.oneCell'] at hy)
    rw [e]
    exact ⟨Reps.cons rb (Reps.nil s), by simpa using hy⟩
  unfold avc at h
  split at h
  · cases h
    cases r with
    | agg l vs h1 h2 h3 => exact ⟨(⟨h1, h3⟩ : Reps s l vs), h2⟩
  · split at h
    · cases h
      rename_i hx
      exact one r (by rw [r.v_inv]; exact hx)
    · cases h
  · cases h
    exact one r (by cases r <;> rfl)
  · cases h
    exact one r (by cases r; rfl)
  · cases h
    exact one r (by cases r; rfl)
  · cases h
theorem splice_eq (l : List AV) (o : Nat) (m : List AV) (h : o + m.length ≤ l.length) : splice l o m = l.take o ++ m ++ l.drop (o + m.length) := by
  unfold splice
  split
  · rename_i x
    simp at h
    rw [List.set_eq_take_append_cons_drop, if_pos (by omega)]
    simp
  · rfl
theorem Reps.splice {l m : List AV} {vs ws : List Value} {o : Nat} (h : Reps s l vs) (k : Reps s m ws) (ho : o + m.length ≤ l.length) : Reps s (splice l o m) (vs.take o ++ ws ++ vs.drop (o + ws.length)) := by
  rw [splice_eq l o m ho, k.1]
  exact ((h.take o).append k).append (h.drop _)
theorem fold_set (off : Nat) : ∀ (l : List Value) (k : Nat) (cs : Array Value), off + k + l.length ≤ cs.size →
    (l.zipIdx k).foldl (fun cs (c, j) => cs.setIfInBounds (off + j) c) cs = (cs.toList.take (off + k) ++ l ++ cs.toList.drop (off + k + l.length)).toArray
  | [], k, cs, _ => by simp
  | v :: l, k, cs, h => by
    simp only [List.length_cons] at h
    simp only [List.zipIdx_cons, List.foldl_cons]
    rw [fold_set off l (k + 1) _ (by simp; omega)]
    congr 1
    simp only [Array.toList_setIfInBounds]
    rw [List.take_set, List.drop_set, if_pos (by omega)]
    have e : (cs.toList.take (off + (k + 1))).set (off + k) v = cs.toList.take (off + k) ++ [v] := by
      rw [List.set_eq_take_append_cons_drop, if_pos (by simp; omega)]
      simp [List.take_take]
      exact Nat.min_le_left ..
    rw [e]
    simp [Nat.add_assoc, Nat.add_comm 1]
theorem pfill_sound {pl : List (Nat × Nat)} {rv : Operand → AV} {ρ : Operand → Value} {k : List AV → Prop} :
    ∀ (ps : List (Nat × Operand)) (l : List AV) (vs : List Value), (∀ p ∈ ps, Rep s (rv p.2) (ρ p.2)) → Reps s l vs → (∀ x ∈ vs, x.oneCell' = true) → pfill pl rv ps l k →
      ∃ ws m, Instr.fill (pl.toArray[·]?) vs.toArray (ps.map fun (i, x) => (i, ρ x)) = some ws.toArray ∧ Reps s m ws ∧ (∀ x ∈ ws, x.oneCell' = true) ∧ k m
  | [], l, vs, _, r, r1, h => ⟨vs, l, rfl, r, r1, h⟩
  | (i, x) :: ps, l, vs, hr, r, r1, h => by
    unfold pfill at h
    split at h
    · rename_i o n m hf hm
      obtain ⟨⟨h1, h2⟩, h3⟩ := h
      obtain ⟨ra, ra1⟩ := avc_sound (hr (i, x) (by simp)) hm
      have hsz : (ρ x).cells.size = n := by rw [← h1, ← ra.1]; simp
      have hvl : o + n ≤ vs.length := by rw [r.1]; exact h2
      have rs := r.splice ra (o := o) (by omega)
      obtain ⟨ws, m', e, rm, rm1, hk⟩ := pfill_sound ps _ _ (fun p hp => hr p (by simp [hp])) rs (fun y hy => by
        simp only [List.append_assoc, List.mem_append] at hy
        rcases hy with hy | hy | hy
        · exact r1 y (List.mem_of_mem_take hy)
        · exact ra1 y hy
        · exact r1 y (List.mem_of_mem_drop hy)) h3
      refine ⟨ws, m', ?_, rm, rm1, hk⟩
      have hsl : (ρ x).cells.toList.length = n := by simpa using hsz
      have hf' : pl.toArray[i]? = some (o, n) := by simpa using hf
      simp only [List.map_cons, Instr.fill, hf', hsz]
      rw [if_neg (by simp; omega)]
      have hfd := fold_set o (ρ x).cells.toList 0 vs.toArray (by simp; omega)
      have hzi : (ρ x).cells.zipIdx.foldl (fun cs (c, j) => cs.setIfInBounds (o + j) c) vs.toArray = ((ρ x).cells.toList.zipIdx 0).foldl (fun cs (c, j) => cs.setIfInBounds (o + j) c) vs.toArray := by
        rw [← Array.foldl_toList]; simp
      rw [hzi, hfd]
      simpa [hsl] using e
    · exact h.elim
theorem pbuild_sound {t : TypeId} {rv : Operand → AV} {ρ : Operand → Value} {ps : Array (Nat × Operand)} {k : AV → Prop} (hr : ∀ p ∈ ps.toList, Rep s (rv p.2) (ρ p.2)) (h : pbuild (tZ P t) (tPl P t) rv ps.toList k) :
    Pure1 P (Instr.build t (ps.map fun (i, x) => (i, ρ x))) s k := by
  unfold pbuild at h
  split at h
  · rename_i z pl hz hp
    unfold pbz at h
    split at h
    · rename_i l hl
      unfold tPl at hp
      split at hp
      · rename_i fs hu
        cases hi : P.info? t with
        | none => simp [tZ, hi] at hz
        | some it =>
          have hzz : it.zero = some z := by simpa [tZ, hi] using hz
          obtain ⟨r, r1⟩ := avc_sound (ofVal_rep s z) hl
          obtain ⟨ws, m, e, rm, rm1, hk⟩ := pfill_sound ps.toList l z.cells.toList hr r r1 h
          refine ⟨.agg ws.toArray, .agg m, fun w => run_build w t _ _ ?_, .agg m ws rm.1 rm1 rm.2, hk⟩
          unfold Program.built
          simp only [hi, hu, hzz, hp]
          simpa using e
      · cases hp
    · exact h.elim
  · exact h.elim
/-- an operation that only computes is right -/
theorem pop_sound {o : Oper} {rv : Operand → AV} {ρ : Operand → Value} {k : AV → Prop} (hr : ∀ x ∈ o.op.operands, Rep s (rv x) (ρ x)) (h : pop P rv o.op k) :
    ∃ x a, (∀ w, (execOp ρ o).run P w = .ok (.value x) w) ∧ Rep s a x ∧ k a := by
  obtain ⟨dst, op, ty, ps, af, gd⟩ := o
  dsimp only at hr h
  have val : ∀ {m : Sem Value}, Pure1 P m s k → ∃ x a, (∀ w, (do pure (Next.value (← m)) : Sem Next).run P w = .ok (.value x) w) ∧ Rep s a x ∧ k a := by
    rintro m ⟨x, a, h1, h2⟩
    exact ⟨x, a, fun w => by rw [Sem.run_bind, h1]; rfl, h2⟩
  have nr : ∀ x ∈ op.operands, Rep s (nrm (rv x)) (ρ x) := fun x hx => nrm_rep (hr x hx)
  unfold pop at h
  split at h
  · exact ⟨_, _, fun w => rfl, hr _ (by simp [Op.operands]), h⟩
  · exact ⟨_, _, fun w => rfl, hr _ (by simp [Op.operands]), h⟩
  · rename_i c x y
    obtain ⟨A, a, e, r, hk⟩ := ppick_sound (nr c (by simp [Op.operands])) (hr x (by simp [Op.operands])) (hr y (by simp [Op.operands])) h
    refine ⟨_, a, fun w => ?_, r, hk⟩
    simp only [execOp, Sem.run_bind, e, asBool, Sem.run_pure, Result.andThen_ok]
  · rename_i x
    obtain ⟨a, r, hk, n1, n2, n3, n4⟩ := pnl_sound (nr x (by simp [Op.operands])) h
    refine ⟨_, a, fun w => ?_, r, hk⟩
    unfold execOp
    dsimp only
    generalize ρ x = u at n1 n2 n3 n4
    clear r
    split <;> first | rfl | exact absurd rfl n1 | exact absurd rfl n2 | exact absurd rfl n3 | exact absurd rfl (n4 _ _ _)
  · rename_i op' t x y yt
    have r1 := nr x (by simp [Op.operands])
    have r2 := nr y (by simp [Op.operands])
    unfold pbin at h
    split at h
    · rename_i q a q' b e1 e2
      rw [e1] at r1; rw [e2] at r2
      have p := pint_sound (P := P) (s := s) h.2 h.1 t
      refine val (p.of_eq fun w => ?_)
      rw [r1.v_inv, r2.v_inv, Sem.run_bind, eg_run (by simp) (by simp)]
      rfl
    · rename_i q q' b e1 e2
      rw [e1] at r1; rw [e2] at r2
      obtain ⟨⟨rfl, rfl⟩, h⟩ := h
      have e : ∃ n, ρ x = .int q n := by revert r1; generalize ρ x = u; intro r1; cases r1; exact ⟨_, rfl⟩
      obtain ⟨n, e⟩ := e
      exact val ⟨_, _, fun w => by rw [e, r2.v_inv, Sem.run_bind, eg_run (by simp) (by simp)]; simp [binOp, Op.intArith]; rfl, .wd q _, h⟩
    · rename_i e' l e1 e2
      rw [e1] at r1; rw [e2] at r2
      obtain ⟨⟨ht, ho⟩, h⟩ := h
      obtain ⟨b, hb, hl⟩ : ∃ b, nlV (ρ x) = some (2, b) ∧ (b = true → l = []) := by
        revert r1; generalize ρ x = u; intro r1
        rcases rows_inv r1 rfl with ⟨rfl, a0, c0, rfl, hn0, hx0⟩ | ⟨b, o, es, c, f, rfl, -⟩
        · cases a0 with
          | none => exact ⟨true, rfl, fun _ => rfl⟩
          | some a => exact ⟨false, rfl, fun _ => rfl⟩
        · exact ⟨false, rfl, fun e => by cases e⟩
      have h' : peq (tN P t) (isC x || isC y) (.v (ρ x)) (.v (.slice none 0 0)) fun b => k (.v (.bool (if op' = .eql then b else !b))) := by
        have e2 : nlA (.v (ρ x)) = some (2, b) := hb
        have e3 : nlA (.v (.slice none 0 0)) = some (2, true) := rfl
        have key : peq (tN P t) (isC x || isC y) (.v (ρ x)) (.v (.slice none 0 0)) (fun b => k (.v (.bool (if op' = .eql then b else !b)))) = ((tN P t = 2 ∧ tN P t = 2 ∧ (b || true) = true ∧ (2 ≠ 4 ∨ (b && true) = false ∨ (isC x || isC y) = true)) ∧ k (.v (.bool (if op' = .eql then (b && true) else !(b && true))))) := by
          unfold peq
          split
          · rename_i e _; injection e with e; first | (rw [e] at hb; cases hb; done) | (rw [← e] at hb; cases hb; done)
          · rename_i e _; injection e with e; first | (rw [e] at hb; cases hb; done) | (rw [← e] at hb; cases hb; done)
          · rw [e2, e3]
        rw [key]
        refine ⟨⟨ht, ht, by simp, .inl (by decide)⟩, ?_⟩
        simpa using h b hl
      obtain ⟨r, hk, g1, g2, g3, g4⟩ := peq_sound (.v _) r2 h'
      rcases ho with rfl | rfl
      · exact val ⟨_, _, fun w => by rw [Sem.run_bind, g1]; exact g3 w, .v _, by simpa using hk⟩
      · exact val ⟨_, _, fun w => by rw [Sem.run_bind, g2]; exact g4 w, .v _, by simpa using hk⟩
    · split at h
      · obtain ⟨r, hk, g1, g2, g3, g4⟩ := peq_sound r1 r2 h
        exact val ⟨_, _, fun w => by rw [Sem.run_bind, g1]; exact g3 w, .v _, hk⟩
      · obtain ⟨r, hk, g1, g2, g3, g4⟩ := peq_sound r1 r2 h
        exact val ⟨_, _, fun w => by rw [Sem.run_bind, g2]; exact g4 w, .v _, hk⟩
      · exact h.elim
  · rename_i op' t x
    have r1 := nr x (by simp [Op.operands])
    unfold pun at h
    split at h
    · rename_i e; rw [e] at r1
      exact val ⟨_, _, fun w => by rw [r1.v_inv]; rfl, .v _, h⟩
    · rename_i q n e; rw [e] at r1
      exact val ((pnum_sound h).of_eq fun w => by rw [r1.v_inv]; rfl)
    · exact h.elim
  · rename_i a b x
    have r1 := nr x (by simp [Op.operands])
    unfold pcv at h
    split at h
    · rename_i q _ n hq e
      rw [e] at r1
      obtain ⟨h1, h2⟩ := h
      obtain ⟨d, hd⟩ := tN_und h1 (by decide)
      unfold tI at hq
      split at hq
      · rename_i q hb
        cases hq
        refine val ((pnum_sound h2).of_eq fun w => ?_)
        rw [r1.v_inv]
        simp only [convert, Sem.run_bind, und hd, und hb, Result.andThen_ok]
        rfl
      · cases hq
    · exact h.elim
  · rename_i t x f
    exact val (pfa_sound (nr x (by simp [Op.operands])) h)
  · rename_i t x f
    exact val (pfd_sound (nr x (by simp [Op.operands])) h)
  · rename_i x i
    exact val (pext_sound (nr x (by simp [Op.operands])) h)
  · rename_i t x i
    exact val (pix_sound (nr x (by simp [Op.operands])) (nr i (by simp [Op.operands])) h)
  · rename_i t x lo hi mx
    unfold psl at h
    split at h
    · rename_i l1 h1 m1 e1 e2 e3
      have cv : ∀ {o : Option Operand} {m : Option Int}, onum (fun x => nrm (rv x)) o = some m → (∀ y, o = some y → y ∈ (Op.slice t x lo hi mx).operands) → onV (o.map ρ) m := by
        intro o m e hm
        rcases onum_sound (ρ := ρ) (fun y hy => nr y (hm y hy)) e with ⟨rfl, rfl⟩ | ⟨y, q, n, rfl, rfl, hq⟩
        · exact .inl ⟨rfl, rfl⟩
        · exact .inr ⟨q, n, by simp [hq], rfl⟩
      exact val (psl3_sound (cv e1 (fun y hy => by simp [Op.operands, hy])) (cv e2 (fun y hy => by simp [Op.operands, hy])) (cv e3 (fun y hy => by simp [Op.operands, hy])) (nr x (by simp [Op.operands])) h)
    · exact h.elim
  · rename_i t ps'
    exact val (pbuild_sound (fun p hp => nr p.2 (by simp only [Op.operands]; simpa using ⟨p.1, by simpa using hp⟩)) h)
  · rename_i fn a b
    unfold pfn at h
    split at h
    · rename_i a' b' e1 e2
      have f1 := avals_sound (ρ := ρ) (fun x hx => nr x (by simp [Op.operands]; exact .inl (by simpa using hx))) e1
      have f2 := avals_sound (ρ := ρ) (fun x hx => nr x (by simp [Op.operands]; exact .inr (by simpa using hx))) e2
      refine val ⟨_, _, fun w => rfl, ?_, h⟩
      rw [← f1, ← f2]
      simp only [← Array.toList_map, Array.toArray_toList]
      exact .v _
    · exact h.elim
  · rename_i t x
    have r1 := nr x (by simp [Op.operands])
    unfold pif at h
    split at h
    · rename_i e; rw [e] at r1
      obtain ⟨⟨h1, h2⟩, h3⟩ := h
      obtain ⟨d, hd⟩ := tN_und (P := P) (t := t) rfl h2
      refine val ⟨_, _, fun w => ?_, .v _, h3⟩
      rw [r1.v_inv]
      simp only [Instr.makeInterface, Sem.run_bind, und hd, Result.andThen_ok]
      split
      · exact absurd (by simp [tN, hd]) h1
      · rfl
    · exact h.elim
  · rename_i c
    obtain ⟨ce, as_, ts⟩ := c
    dsimp only at h
    have ea : as_ = as_.toList.toArray := by simp
    have et : ts = ts.toList.toArray := by simp
    generalize as_.toList = as' at *
    generalize ts.toList = ts' at *
    subst ea et
    unfold pcl at h
    split at h
    · rename_i x t
      have p := alen_sound (nr x (by simp [Op.operands, Call.operands])) h
      exact val (p.of_eq fun w => by simp only [List.map_toArray, List.map_cons, List.map_nil]; rfl)
    · rename_i x t
      have p := acap_sound (nr x (by simp [Op.operands, Call.operands])) h
      exact val (p.of_eq fun w => by simp only [List.map_toArray, List.map_cons, List.map_nil]; rfl)
    · rename_i x y
      have r1 := nr x (by simp [Op.operands, Call.operands])
      have r2 := nr y (by simp [Op.operands, Call.operands])
      unfold pmm at h
      split at h
      · rename_i q a q' c e1 e2
        rw [e1] at r1; rw [e2] at r2
        have p : Pure1 P (Builtin.min_ ts'.toArray ty #[ρ x, ρ y]) s k := ⟨_, _, fun w => by
          rw [r1.v_inv, r2.v_inv]
          simp only [Builtin.min_, List.foldlM_cons, List.foldlM_nil, Builtin.min2, Sem.run_bind, Sem.run_pure, Result.andThen_ok]
          congr 2
          simp only [cond_true]; omega, .v _, h⟩
        exact val (p.of_eq fun w => by simp only [List.map_toArray, List.map_cons, List.map_nil])
      · exact h.elim
    · rename_i x y
      have r1 := nr x (by simp [Op.operands, Call.operands])
      have r2 := nr y (by simp [Op.operands, Call.operands])
      unfold pmm at h
      split at h
      · rename_i q a q' c e1 e2
        rw [e1] at r1; rw [e2] at r2
        have p : Pure1 P (Builtin.max_ ts'.toArray ty #[ρ x, ρ y]) s k := ⟨_, _, fun w => by
          rw [r1.v_inv, r2.v_inv]
          simp only [Builtin.max_, List.foldlM_cons, List.foldlM_nil, Builtin.max2, Sem.run_bind, Sem.run_pure, Result.andThen_ok]
          congr 2
          simp only [cond_false]; omega, .v _, h⟩
        exact val (p.of_eq fun w => by simp only [List.map_toArray, List.map_cons, List.map_nil])
      · exact h.elim
    · exact h.elim
  · exact h.elim
end
end Go.Proofs.YtiallkiiofomgaaGreat
