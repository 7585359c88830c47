/- Abstract values: operations that only compute are right. -/
import Derived.Test.YtiallkiiofomgaaGreatVb
import Derived.Laws.Entries
import Derived.WalkSpells
import Derived.WalkLawsBesides
namespace Go.Proofs.YtiallkiiofomgaaGreat
section
variable {P : Program} {s : Sto}
theorem und {t : TypeId} {d : TypeDesc} (h : P.underlying t = some d) (w : World) : (underlying t).run P w = .ok d w := run_underlying h w
/-- what an operation that only computes gives -/
def Pure1 (P : Program) (m : Sem Value) (s : Sto) (k : AV → Prop) : Prop := ∃ x a, (∀ w, m.run P w = .ok x w) ∧ Rep s a x ∧ k a
theorem Pure1.of_eq {m m' : Sem Value} {k : AV → Prop} (h : Pure1 P m s k) (e : ∀ w, m'.run P w = m.run P w) : Pure1 P m' s k := by
  obtain ⟨x, a, h1, h2⟩ := h
  exact ⟨x, a, fun w => (e w).trans (h1 w), h2⟩
theorem Rep.v_inv {x y : Value} (r : Rep s (.v x) y) : y = x := by cases r; rfl
theorem wrap64 {n : Int} (h1 : -9223372036854775808 ≤ n) (h2 : n ≤ 9223372036854775807) : IntKind.wrap .i64 n = n := by unfold IntKind.wrap; simp only [IntKind.bits, IntKind.signed]; simp; omega
theorem pnum_sound {q : IntKind} {n : Int} {k : AV → Prop} (h : pnum q n k) : Pure1 P (pure (.int q (q.wrap n))) s k := by
  cases q with
  | i64 =>
    obtain ⟨⟨h1, h2⟩, h3⟩ := h
    exact ⟨_, _, fun _ => rfl, by rw [wrap64 h1 h2]; exact .v _, h3⟩
  | _ => exact ⟨_, _, fun _ => rfl, .v _, h⟩
theorem pint_sound {op : BinOp} {q : IntKind} {a b : Int} {k : AV → Prop} (h : pint op q a b k) {q' : IntKind} (hq : q = q' ∨ op = .shl ∨ op = .shr) (t : TypeId) : Pure1 P (binOp op t (.int q a) (.int q' b)) s k := by
  cases op <;> simp only [pint] at h
  case shl => exact ⟨_, _, fun w => by simp only [binOp, Op.shift]; rw [if_neg (by omega)]; rfl, .v _, h.2⟩
  case shr => exact ⟨_, _, fun w => by simp only [binOp, Op.shift]; rw [if_neg (by omega)]; rfl, .v _, h.2⟩
  all_goals (obtain rfl : q = q' := by simpa using hq)
  case add => exact (pnum_sound (P := P) (s := s) h).of_eq fun w => by simp [binOp, Op.intArith]
  case sub => exact (pnum_sound (P := P) (s := s) h).of_eq fun w => by simp [binOp, Op.intArith]
  case mul => exact (pnum_sound (P := P) (s := s) h).of_eq fun w => by simp [binOp, Op.intArith]
  case quo => exact ⟨_, _, fun w => by simp [binOp, Op.intDiv, h.1], .v _, h.2⟩
  case rem => exact ⟨_, _, fun w => by simp [binOp, Op.intDiv, h.1], .v _, h.2⟩
  all_goals exact ⟨_, _, fun w => by simp [binOp, Op.intBits, Op.intCmp], .v _, h⟩
theorem tN_und {t : TypeId} {n : Nat} (h : tN P t = n) (hn : n ≠ 0) : ∃ d, P.underlying t = some d := by
  cases e : P.underlying t with
  | none => simp [tN, e] at h; omega
  | some d => exact ⟨d, rfl⟩
theorem eqBd {t : TypeId} (h : tN P t = 6) (a b : Bool) (w : World) (e : Nat) : (Op.equalIn (e + 1) t (.bool a) (.bool b)).run P w = .ok (a == b) w := by
  obtain ⟨d, hd⟩ := tN_und h (by decide)
  cases d <;> simp [tN, hd] at h
  simp only [Op.equalIn, Sem.run_bind, und hd, Result.andThen_ok]; rfl
theorem eqB {t : TypeId} (h : tN P t = 6) (a b : Bool) (w : World) : (Op.equal t (.bool a) (.bool b)).run P w = .ok (a == b) w := eqBd h a b w 9999
/-- the two kinds of what may be nil -/
inductive Nl : Nat → Bool → Value → Prop
  | p0 : Nl 1 true (.pointer none)
  | p1 (a) : Nl 1 false (.pointer (some a))
  | s0 (n c) : Nl 2 true (.slice none n c)
  | s1 (a n c) : Nl 2 false (.slice (some a) n c)
  | f0 : Nl 3 true .nilFunc
  | f1 (a b c) : Nl 3 false (.func a b c)
  | i0 : Nl 4 true .nilIface
  | i1 (a b) : Nl 4 false (.iface a b)
  | m0 : Nl 5 true (.map none)
  | m1 (a) : Nl 5 false (.map (some a))
theorem nlV_Nl {x : Value} {n : Nat} {a : Bool} (h : nlV x = some (n, a)) : Nl n a x := by
  unfold nlV at h
  split at h <;> cases h <;> constructor
theorem eqNld {t : TypeId} {x y : Value} {n : Nat} {a b : Bool} (hx : Nl n a x) (hy : Nl n b y) (h : tN P t = n) (hab : (a || b) = true) (w : World) (e : Nat) : (Op.equalIn (e + 1) t x y).run P w = .ok (a && b) w := by
  cases hx <;> cases hy <;> (try cases hab) <;> (obtain ⟨d, hd⟩ := tN_und h (by decide)) <;> cases d <;> simp [tN, hd] at h <;>
  simp only [Op.equalIn, Sem.run_bind, und hd, Result.andThen_ok] <;> rfl
theorem eqNl {t : TypeId} {x y : Value} {n : Nat} {a b : Bool} (hx : Nl n a x) (hy : Nl n b y) (h : tN P t = n) (hab : (a || b) = true) (w : World) : (Op.equal t x y).run P w = .ok (a && b) w := eqNld hx hy h hab w 9999
/-- no guard against two nils -/
theorem eg_run {op : BinOp} {t : TypeId} {x y : Operand} {a b : Value} (h : ¬ (a = .nilIface ∧ b = .nilIface) ∨ (isC x || isC y) = true) (h' : ¬ ((∃ c, a = .agg c) ∧ ∃ c, b = .agg c)) (w : World) : (eqGuard op t x y a b).run P w = .ok () w := by
  have k : op = .eql ∨ op = .neq → (eqGuard op t x y a b).run P w = .ok () w := by
    intro ho
    unfold eqGuard
    rw [if_neg (by rcases ho with rfl | rfl <;> decide)]
    split
    · rcases h with h | h
      · exact absurd ⟨rfl, rfl⟩ h
      · cases x <;> cases y <;> first | rfl | cases h
    · exact absurd ⟨⟨_, rfl⟩, ⟨_, rfl⟩⟩ h'
    · rfl
  cases op <;> first | exact k (.inl rfl) | exact k (.inr rfl) | rfl
theorem strEq (op : BinOp) (t : TypeId) (a b : ByteArray) : (op = .eql → ∀ w, (binOp op t (.string a) (.string b)).run P w = .ok (.bool (a.toList == b.toList)) w) ∧ (op = .neq → ∀ w, (binOp op t (.string a) (.string b)).run P w = .ok (.bool !(a.toList == b.toList)) w) :=
  ⟨fun h w => by subst h; rfl, fun h w => by subst h; rfl⟩
/-- an equality -/
theorem peq_sound {t : TypeId} {x y : AV} {a b : Value} {xo yo : Operand} {k : Bool → Prop} (hx : Rep s x a) (hy : Rep s y b) (h : peq (tN P t) (isC xo || isC yo) x y k) : ∃ r, k r ∧ (∀ w, (eqGuard .eql t xo yo a b).run P w = .ok () w) ∧ (∀ w, (eqGuard .neq t xo yo a b).run P w = .ok () w) ∧
    (∀ w, (binOp .eql t a b).run P w = .ok (.bool r) w) ∧ (∀ w, (binOp .neq t a b).run P w = .ok (.bool !r) w) := by
  obtain ⟨tn, htn⟩ : ∃ tn, tN P t = tn := ⟨_, rfl⟩
  rw [htn] at h
  unfold peq at h
  split at h
  · cases hx.v_inv; cases hy.v_inv
    refine ⟨_, h.2, fun w => eg_run (by simp) (by simp) w, fun w => eg_run (by simp) (by simp) w, fun w => ?_, fun w => ?_⟩
    all_goals simp only [binOp, Sem.run_bind, eqB (htn.trans h.1), Result.andThen_ok]; rfl
  · cases hx.v_inv; cases hy.v_inv
    exact ⟨_, h.2, fun w => eg_run (by simp) (by simp) w, fun w => eg_run (by simp) (by simp) w, (strEq .eql t _ _).1 rfl, (strEq .neq t _ _).2 rfl⟩
  · split at h
    · rename_i n p m q hn hm
      obtain ⟨⟨e1, e2, h3, h4⟩, h5⟩ := h
      subst e2 e1
      have n1 := nlV_Nl (nlA_sound hx hn)
      have n2 := nlV_Nl (nlA_sound hy hm)
      have g1 : ¬ (a = .nilIface ∧ b = .nilIface) ∨ (isC xo || isC yo) = true := by
        rcases h4 with h4 | h4 | h4
        · left; rintro ⟨rfl, rfl⟩; cases n1; exact h4 rfl
        · left; rintro ⟨rfl, rfl⟩; cases n1; cases n2; cases h4
        · exact .inr h4
      have g2 : ¬ ((∃ c, a = .agg c) ∧ ∃ c, b = .agg c) := by rintro ⟨⟨c, rfl⟩, _⟩; cases n1
      refine ⟨_, h5, fun w => eg_run g1 g2 w, fun w => eg_run g1 g2 w, fun w => ?_, fun w => ?_⟩
      all_goals
        have := eqNl (P := P) n1 n2 htn h3 w
        cases n1 <;> cases n2 <;> simp only [binOp, Sem.run_bind, this, Result.andThen_ok] <;> rfl
    · exact h.elim
end
end Go.Proofs.YtiallkiiofomgaaGreat
