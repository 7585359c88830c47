/- Abstract values: operations that only compute are right (addresses, structs, rows). -/
import Derived.Test.YtiallkiiofomgaaGreatVc
namespace Go.Proofs.YtiallkiiofomgaaGreat
section
variable {P : Program} {s : Sto}
theorem addr_add (b o n : Nat) : (⟨b, o, none⟩ : Addr).add n = ⟨b, o + n, none⟩ := by unfold Addr.add; split <;> simp_all
theorem Rep.ext_eq {a : AV} {x y : Value} (r : Rep s a x) (e : x = y) : Rep s a y := e ▸ r
theorem tF_spec {t : TypeId} {f o n : Nat} {tk : Option Nat} (h : tF P t f = some (o, n, tk)) : ∃ fs d, P.underlying t = some (.struct fs) ∧ fs[f]? = some d ∧ d.offset = o ∧ tS P d.type = some n ∧ n ≠ 0 ∧ tK P d.type = some tk := by
  unfold tF at h
  cases hu : P.underlying t with
  | none => simp [hu] at h
  | some d =>
    rw [hu] at h
    cases d <;> try (cases h)
    rename_i fs
    cases hd : fs[f]? with
    | none => simp [hd] at h
    | some d =>
      simp only [hd] at h
      split at h
      · rename_i n k h1 h2
        cases h
        exact ⟨fs, d, rfl, hd, rfl, h1, by omega, h2⟩
      · cases h
theorem tS_info {t : TypeId} {n : Nat} (h : tS P t = some n) : ∃ i, P.info? t = some i ∧ i.size = n := by
  unfold tS at h
  cases e : P.info? t with
  | none => simp [e] at h
  | some i => exact ⟨i, rfl, by simpa [e] using h⟩
theorem run_sizeOf' {t : TypeId} {n : Nat} (h : tS P t = some n) (w : World) : (sizeOf t).run P w = .ok n w := by
  obtain ⟨i, hi, rfl⟩ := tS_info h
  simp [sizeOf, typeInfo, hi]
theorem tK_spec {t : TypeId} {tk : Option Nat} (h : tK P t = some tk) : (∀ w, (isAgg t).run P w = .ok tk.isSome w) ∧ ∀ n, tk = some n → tS P t = some n := by
  unfold tK at h
  split at h
  · rename_i hu hi; cases h
    exact ⟨fun w => by unfold isAgg; rw [Sem.run_bind, und hu]; rfl, fun n e => by cases e; simp [tS, hi]⟩
  · rename_i hu hi; cases h
    exact ⟨fun w => by unfold isAgg; rw [Sem.run_bind, und hu]; rfl, fun n e => by cases e; simp [tS, hi]⟩
  · rename_i d _ h1 h2 hu hi; cases h
    refine ⟨fun w => ?_, fun n e => by cases e⟩
    unfold isAgg
    rw [Sem.run_bind, und hu]
    cases d <;> first | rfl | exact absurd rfl (h1 _) | exact absurd rfl (h2 _ _)
  · cases h
theorem pfa_sound {t : TypeId} {f : Nat} {x : AV} {v : Value} {k : AV → Prop} (r : Rep s x v) (h : pfa (tF P t f) x k) : Pure1 P (Instr.fieldAt t v f) s k := by
  have key : ∀ {o n tk b p}, tF P t f = some (o, n, tk) → ∀ w, (Instr.fieldAt t (.pointer (some ⟨b, p, none⟩)) f).run P w = .ok (.pointer (some ⟨b, p + o, none⟩)) w := by
    intro o n tk b p hf w
    obtain ⟨fs, d, hu, hd, rfl, hs, hn, -⟩ := tF_spec hf
    simp [Instr.fieldAt, Sem.run_bind, und hu, hd, Instr.sureAddr, fieldPlace, run_sizeOf' hs, hn, addr_add]
  unfold pfa at h
  split at h
  · rename_i hf; cases r.v_inv
    exact ⟨_, _, key hf, .v _, h⟩
  · rename_i o _ l i j hf
    cases r with
    | ep _ _ _ b p es g h1 h2 h3 =>
      refine ⟨_, _, key hf, ?_, h⟩
      rw [Nat.add_assoc]
      exact .ep l i (j + o) b p es g h1 h2 h3
  · exact h.elim
/-- cells that read as a list, and one of their parts -/
theorem pick1_sound {t : TypeId} {tk : Option Nat} {l : List AV} {vs : List Value} {o : Nat} {k : AV → Prop} (hk : tK P t = some tk) (r : Reps s l vs) (r1 : ∀ x ∈ vs, x.oneCell' = true) (h : pick1 tk l o k) :
    (tk = none → ∃ a x, vs[o]? = some x ∧ Rep s a x ∧ k a) ∧ (∀ n : Nat, tk = some n → o + n ≤ vs.length ∧ Rep s (.agg ((l.drop o).take n)) (.agg ((vs.drop o).take n).toArray) ∧ k (.agg ((l.drop o).take n))) := by
  unfold pick1 at h
  refine ⟨fun e => ?_, fun n e => ?_⟩
  · subst e
    obtain ⟨a, ha, h⟩ := optk_inv h
    obtain ⟨x, hx, hr⟩ := r.get ha
    exact ⟨a, x, hx, hr, h⟩
  · subst e
    have r2 := (r.drop o).take n
    exact ⟨by rw [r.1]; exact h.1, .agg _ _ r2.1 (fun x hx => r1 x (List.mem_of_mem_drop (List.mem_of_mem_take hx))) r2.2, h.2⟩
theorem run_part_one {t : TypeId} (hk : tK P t = some none) {cs : Array Value} {o : Nat} {x : Value} (h : cs[o]? = some x) (w : World) : (part t cs o).run P w = .ok x w := by
  simp [part, (tK_spec hk).1, h]
theorem run_part_agg {t : TypeId} {n : Nat} (hk : tK P t = some (some n)) {cs : Array Value} {o : Nat} (w : World) : (part t cs o).run P w = .ok (.agg (cs.extract o (o + n))) w := by
  simp [part, Sem.run_bind, (tK_spec hk).1, run_sizeOf' ((tK_spec hk).2 n rfl)]
theorem extract_take (vs : List Value) (o n : Nat) : vs.toArray.extract o (o + n) = ((vs.drop o).take n).toArray := by
  rw [List.extract_toArray, List.extract_eq_take_drop, Nat.add_sub_cancel_left]
theorem pfd_sound {t : TypeId} {f : Nat} {x : AV} {v : Value} {k : AV → Prop} (r : Rep s x v) (h : pfd (tF P t f) x k) : Pure1 P (Instr.field t v f) s k := by
  unfold pfd at h
  split at h
  · rename_i o n tk l hf
    obtain ⟨fs, d, hu, hd, rfl, hs, hn, hk⟩ := tF_spec hf
    cases r with
    | agg l vs h1 h2 h3 =>
      have hp := pick1_sound hk ⟨h1, h3⟩ h2 h
      have e : ∀ w, (Instr.field t (.agg vs.toArray) f).run P w = (part d.type vs.toArray d.offset).run P w := fun w => by
        simp [Instr.field, Sem.run_bind, und hu, hd, asAgg]
      cases tk with
      | none =>
        obtain ⟨a, x, hx, hr, hk'⟩ := hp.1 rfl
        exact ⟨x, a, fun w => (e w).trans (run_part_one hk (by simpa using hx) w), hr, hk'⟩
      | some m =>
        obtain ⟨_, hr, hk'⟩ := hp.2 m rfl
        exact ⟨_, _, fun w => (e w).trans ((run_part_agg hk w).trans (by rw [extract_take])), hr, hk'⟩
  · exact h.elim
theorem pext_sound {i : Nat} {x : AV} {v : Value} {k : AV → Prop} (r : Rep s x v) (h : pext i x k) : Pure1 P (Instr.extract v i) s k := by
  unfold pext at h
  split at h
  · obtain ⟨a, ha, h⟩ := optk_inv h
    cases r with
    | tup l vs h1 h3 =>
      obtain ⟨y, hy, hr⟩ := Reps.get ⟨h1, h3⟩ ha
      exact ⟨y, a, fun w => by simp [Instr.extract, hy], hr, h⟩
  · exact h.elim
theorem tE_spec {t : TypeId} {e : TypeId} {n b : Nat} (h : tE P t = some (e, n, b)) : ∃ i, P.underlying t = some (.slice e) ∧ P.info? e = some i ∧ i.size = n ∧ i.bytes = b ∧ tS P e = some n := by
  unfold tE at h
  split at h
  · rename_i e' hu
    cases hi : P.info? e' with
    | none => simp [hi] at h
    | some i => simp [hi] at h; obtain ⟨rfl, rfl, rfl⟩ := h; exact ⟨i, hu, hi, rfl, rfl, by simp [tS, hi]⟩
  · cases h
/-- a row that is only read, as a value -/
theorem rows_inv {x : AV} {v : Value} {e : Bool} {l : List (List AV)} (r : Rep s x v) (h : x.rows = some (e, l)) : (l = [] ∧ ∃ a c, v = .slice a 0 c ∧ (a = none → c = 0) ∧ (e = true → c = 0)) ∨ ∃ (b o es c : Nat) (f : Nat → Nat → Value), v = .slice (some ⟨b, o, none⟩) l.length c ∧ (∀ r ∈ l, r.length = es) ∧ (∀ (i k : Nat) r, l[i]? = some r → k < es → s b (o + i * es + k) = some (f i k)) ∧ (∀ (i k : Nat) r a, l[i]? = some r → r[k]? = some a → Rep s a (f i k)) ∧ l.length ≤ c ∧ (e = true → c = l.length) := by
  cases r <;> simp [AV.rows] at h
  case nil y a c hn hx => obtain ⟨rfl, rfl⟩ := h; exact .inl ⟨rfl, a, c, rfl, hn, hx⟩
  case sl x l b o es c f h1 h2 h3 h4 h5 =>
    obtain ⟨rfl, rfl⟩ := h
    exact .inr ⟨b, o, es, c, f, rfl, h1, h2, h3, h4, h5⟩
theorem alen_sound {t : TypeId} {x : AV} {v : Value} {k : AV → Prop} (r : Rep s x v) (h : alen (tN P t) x k) : Pure1 P (Builtin.len_ #[t] 0 #[v]) s k := by
  have key : tN P t = 2 → ∀ a n c, ∀ w, (Builtin.len_ #[t] 0 #[.slice a n c]).run P w = .ok (.int .i64 n) w := by
    intro h2 a n c w
    obtain ⟨d, hd⟩ := tN_und h2 (by decide)
    cases d <;> simp [tN, hd] at h2
    simp [Builtin.len_, Sem.run_bind, und hd, goInt]
  unfold alen at h
  split at h
  · cases r.v_inv; exact ⟨_, _, key h.1 _ _ _, .v _, h.2⟩
  · cases r.v_inv
    obtain ⟨h2, h3⟩ := h
    obtain ⟨d, hd⟩ := tN_und h2 (by decide)
    cases d <;> simp [tN, hd] at h2
    exact ⟨_, _, fun w => by simp [Builtin.len_, Sem.run_bind, und hd, goInt], .v _, h3⟩
  · split at h
    · rename_i e l hl
      rcases rows_inv r hl with ⟨rfl, a0, c0, rfl, hn0, hx0⟩ | ⟨b, o, es, c, f, rfl, -⟩
      · exact ⟨_, _, key h.1 _ _ _, .v _, h.2⟩
      · exact ⟨_, _, key h.1 _ _ _, .v _, h.2⟩
    · exact h.elim
theorem acap_sound {t : TypeId} {x : AV} {v : Value} {k : AV → Prop} (r : Rep s x v) (h : acap (tN P t) x k) : Pure1 P (Builtin.cap_ #[t] 0 #[v]) s k := by
  have key : tN P t = 2 → ∀ a n c, ∀ w, (Builtin.cap_ #[t] 0 #[.slice a n c]).run P w = .ok (.int .i64 c) w := by
    intro h2 a n c w
    obtain ⟨d, hd⟩ := tN_und h2 (by decide)
    cases d <;> simp [tN, hd] at h2
    simp [Builtin.cap_, Sem.run_bind, und hd, goInt]
  unfold acap at h
  split at h
  · cases r.v_inv; exact ⟨_, _, key h.1 _ _ _, .v _, h.2⟩
  · rename_i l
    rcases rows_inv r rfl with ⟨rfl, a0, c0, rfl, hn0, hx0⟩ | ⟨b, o, es, c, f, rfl, -, -, -, -, g5⟩
    · obtain rfl := hx0 rfl
      exact ⟨_, _, key h.1 _ _ _, .v _, h.2⟩
    · have := g5 rfl; subst this
      exact ⟨_, _, key h.1 _ _ _, .v _, h.2⟩
  · exact h.elim
theorem num_inv {x : AV} {v : Value} {n : Int} (r : Rep s x v) (h : num x = some n) : ∃ q, v = .int q n := by
  unfold num at h
  split at h
  · cases r.v_inv; cases h; exact ⟨_, rfl⟩
  · cases h
/-- a place in a row -/
theorem pix_sound {t : TypeId} {x i : AV} {v u : Value} {k : AV → Prop} (r : Rep s x v) (ri : Rep s i u) (h : pix (tE P t) x i k) : Pure1 P (Instr.indexAt t v u) s k := by
  unfold pix at h
  split at h
  · rename_i e n b q j he
    cases ri.v_inv
    obtain ⟨inf, hu, hi, rfl, rfl, hs⟩ := tE_spec he
    have key : ∀ (bb o m c : Nat), 0 ≤ j ∧ j < (m : Int) → ∀ w, (Instr.indexAt t (.slice (some ⟨bb, o, none⟩) m c) (.int q j)).run P w = .ok (.pointer (some ⟨bb, o + j.toNat * inf.size, none⟩)) w := by
      intro bb o m c hj w
      simp [Instr.indexAt, Sem.run_bind, asIntOf, und hu, hj, run_sizeOf' hs, addr_add]
    split at h
    · cases r.v_inv
      exact ⟨_, _, key _ _ _ _ h.1, .v _, h.2⟩
    · split at h
      · rename_i e' l hl
        obtain ⟨⟨h0, h1, h2⟩, h3⟩ := h
        rcases rows_inv r hl with ⟨rfl, a0, c0, rfl, hn0, hx0⟩ | ⟨bb, o, es, c, f, rfl, g1, g2, g3, g4, g5⟩
        · simp at h1; omega
        · have hes : inf.size = es := by
            have hlt : j.toNat < l.length := by omega
            rw [← h2 _ (List.getElem_mem hlt), g1 _ (List.getElem_mem hlt)]
          refine ⟨_, _, key _ _ _ _ ⟨h0, h1⟩, ?_, h3⟩
          rw [hes]
          exact Rep.ep l j.toNat 0 bb o es f g1 g2 g3
      · exact h.elim
  · exact h.elim
theorem pnl_sound {x : AV} {v : Value} {k : AV → Prop} (r : Rep s x v) (h : pnl x k) : ∃ a, Rep s a v ∧ k a ∧ v ≠ .pointer none ∧ v ≠ .nilIface ∧ v ≠ .nilFunc ∧ ∀ n f c, v ≠ .func (.method n) f c := by
  unfold pnl at h
  split at h
  · cases r.v_inv; exact ⟨_, .v _, h, by simp⟩
  · cases r.v_inv; exact ⟨_, .v _, h, by simp⟩
  · cases r.v_inv; exact ⟨_, .v _, h, by simp⟩
  · refine ⟨_, r, h, ?_⟩
    cases r; simp
  · exact h.elim
theorem avif_sound {A : Bool} {x y : AV} {v u : Value} {k : AV → Prop} (hx : A = true → Rep s x v) (hy : A = false → Rep s y u) (h : avif A x y k) : ∃ a, Rep s a (if A then v else u) ∧ k a := by
  unfold avif at h
  split at h
  · refine ⟨_, ?_, h⟩
    cases A
    · cases (hy rfl).v_inv; exact .v _
    · cases (hx rfl).v_inv; exact .v _
  · obtain ⟨rfl, h⟩ := h
    refine ⟨_, ?_, h⟩
    cases A
    · cases (hy rfl).v_inv; exact .v _
    · cases (hx rfl).v_inv; exact .v _
  · cases A
    · exact ⟨_, hy rfl, h.2 rfl⟩
    · exact ⟨_, hx rfl, h.1 rfl⟩
theorem ppick_sound {c x y : AV} {vc v u : Value} {k : AV → Prop} (rc : Rep s c vc) (hx : Rep s x v) (hy : Rep s y u) (h : ppick c x y k) : ∃ A a, vc = .bool A ∧ Rep s a (if A then v else u) ∧ k a := by
  unfold ppick at h
  split at h
  · rename_i A
    cases rc.v_inv
    obtain ⟨a, h1, h2⟩ := avif_sound (fun e => str_rep hx e) (fun e => str_rep hy (by rw [e]; rfl)) h
    exact ⟨A, a, rfl, h1, h2⟩
  · exact h.elim
theorem avals_sound {ev : Operand → AV} {ρ : Operand → Value} : ∀ {l : List Operand} {r : List Value}, (∀ x ∈ l, Rep s (ev x) (ρ x)) → avals ev l = some r → l.map ρ = r
  | [], r, _, h => by cases h; rfl
  | x :: l, r, hr, h => by
    unfold avals at h
    split at h
    · rename_i a b ha hb
      cases h
      have h1 := hr x (by simp)
      have h2 : ev x = .v a := by unfold AV.val at ha; split at ha <;> simp_all
      rw [h2] at h1
      rw [List.map_cons, h1.v_inv, avals_sound (fun y hy => hr y (by simp [hy])) hb]
    · cases h
theorem onum_sound {ev : Operand → AV} {ρ : Operand → Value} {o : Option Operand} {m : Option Int} (hr : ∀ x, o = some x → Rep s (ev x) (ρ x)) (h : onum ev o = some m) : (o = none ∧ m = none) ∨ ∃ x q n, o = some x ∧ m = some n ∧ ρ x = .int q n := by
  cases o with
  | none => simp [onum] at h; exact .inl ⟨rfl, h.symm⟩
  | some x =>
    simp only [onum, Option.map_eq_some_iff] at h
    obtain ⟨n, h, rfl⟩ := h
    obtain ⟨q, hq⟩ := num_inv (hr x rfl) h
    exact .inr ⟨x, q, n, rfl, rfl, hq⟩
end
end Go.Proofs.YtiallkiiofomgaaGreat
