/- A run that is reckoned out: memory. -/
import Derived.Test.YtiallkiiofomgaaGreatYc
namespace Go.Proofs.YtiallkiiofomgaaGreat
theorem div2_lt (i f : Nat) (h : i + 1 < f + 1) : i / 2 < f := by omega
theorem Tr.get_put {α : Type} (x : α) : ∀ (f : Nat) (t : Tr α) (i j : Nat), i < f → (Tr.put f t i x).get j = if j = i then some x else t.get j := by
  intro f
  induction f with
  | zero => intro t i j h; omega
  | succ f ih =>
    intro t i j h
    have ge : ∀ j, (Tr.e : Tr α).get j = none := fun j => rfl
    have half : ∀ {a b : Nat}, a % 2 = b % 2 → (a / 2 = b / 2 ↔ a = b) := by omega
    have go : ∀ (l : Tr α) (v : Option α) (r : Tr α), (Tr.put (f + 1) (.n l v r) i x).get j = if j = i then some x else (Tr.n l v r).get j := by
      intro l v r
      cases i with
      | zero =>
        cases j with
        | zero => rfl
        | succ j => rw [if_neg (by omega)]; rfl
      | succ i =>
        have hi : i / 2 < f := by omega
        have ep : Tr.put (f + 1) (.n l v r) (i + 1) x = bif Nat.beq (i % 2) 0 then .n (Tr.put f l (i / 2) x) v r else .n l v (Tr.put f r (i / 2) x) := rfl
        rw [ep]
        cases e : Nat.beq (i % 2) 0 with
        | true =>
          have e0 := beq_eq e
          simp only [cond_true]
          cases j with
          | zero => rw [if_neg (by omega)]; rfl
          | succ j =>
            show (bif Nat.beq (j % 2) 0 then (Tr.put f l (i / 2) x).get (j / 2) else r.get (j / 2)) = if j + 1 = i + 1 then some x else (bif Nat.beq (j % 2) 0 then l.get (j / 2) else r.get (j / 2))
            cases e2 : Nat.beq (j % 2) 0 with
            | true =>
              have e3 := beq_eq e2
              simp only [cond_true]
              rw [ih l _ _ hi]
              by_cases q : j = i
              · rw [if_pos (by omega), if_pos (by omega)]
              · rw [if_neg (by omega), if_neg (by omega)]
            | false =>
              have : j ≠ i := fun q => by rw [q, e] at e2; cases e2
              simp only [cond_false]
              rw [if_neg (by omega)]
        | false =>
          have e0 : i % 2 = 1 := by
            rcases Nat.mod_two_eq_zero_or_one i with q | q
            · rw [q] at e; cases e
            · exact q
          simp only [cond_false]
          cases j with
          | zero => rw [if_neg (by omega)]; rfl
          | succ j =>
            show (bif Nat.beq (j % 2) 0 then l.get (j / 2) else (Tr.put f r (i / 2) x).get (j / 2)) = if j + 1 = i + 1 then some x else (bif Nat.beq (j % 2) 0 then l.get (j / 2) else r.get (j / 2))
            cases e2 : Nat.beq (j % 2) 0 with
            | true =>
              have e3 := beq_eq e2
              simp only [cond_true]
              rw [if_neg (by omega)]
            | false =>
              have e3 : j % 2 = 1 := by
                rcases Nat.mod_two_eq_zero_or_one j with q | q
                · rw [q] at e2; cases e2
                · exact q
              simp only [cond_false]
              rw [ih r _ _ hi]
              by_cases q : j = i
              · rw [if_pos (by omega), if_pos (by omega)]
              · rw [if_neg (by omega), if_neg (by omega)]
    cases t with
    | n l v r => exact go l v r
    | e =>
      have e1 : Tr.put (f + 1) (.e : Tr α) i x = Tr.put (f + 1) (.n .e none .e) i x := by cases i <;> rfl
      have e2 : ∀ j, (Tr.n .e none .e : Tr α).get j = none := fun j => by
        cases j with
        | zero => rfl
        | succ j => show (bif Nat.beq (j % 2) 0 then (Tr.e : Tr α).get (j / 2) else (Tr.e : Tr α).get (j / 2)) = none; cases Nat.beq (j % 2) 0 <;> rfl
      rw [e1, go .e none .e, e2, ge]
theorem Tr.get_set {α : Type} (t : Tr α) (i j : Nat) (x : α) : (t.set i x).get j = if j = i then some x else t.get j := Tr.get_put x _ t i j (Nat.lt_succ_self i)
/-- an object and its double -/
def OR (ρ : Rho) (p : Nat × Nat) : XO → Option AO → Prop
  | .cells T sz l, some (.cells U m) => U = T ∧ RAp ρ l m ∧ (sz ≠ 0 → m.length = p.2 * sz)
  | .mp l c, some (.mp m d) => m = l ∧ d = c
  | .gone, _ => True
  | _, _ => False
theorem OR.mono {ρ σ : Rho} (h : ρ.le σ) {p : Nat × Nat} {O : XO} {A : Option AO} (k : OR ρ p O A) : OR σ p O A := by
  cases O with
  | cells T sz l =>
    cases A with
    | none => exact k.elim
    | some A => cases A with
      | cells U m => exact ⟨k.1, k.2.1.mono h, k.2.2⟩
      | mp => exact k.elim
      | abs => exact k.elim
  | mp l c =>
    cases A with
    | none => exact k.elim
    | some A => cases A <;> exact k
  | gone => trivial
theorem OR.cells_inv {ρ : Rho} {p : Nat × Nat} {T : TypeId} {sz : Nat} {l : List AV} {A : Option AO} (k : OR ρ p (.cells T sz l) A) : ∃ m, A = some (.cells T m) ∧ RAp ρ l m ∧ (sz ≠ 0 → m.length = p.2 * sz) := by
  cases A with
  | none => exact k.elim
  | some A => cases A with
    | cells U m => obtain ⟨rfl, h⟩ := k; exact ⟨m, rfl, h⟩
    | mp => exact k.elim
    | abs => exact k.elim
theorem OR.mp_inv {ρ : Rho} {p : Nat × Nat} {l : List (Int × Int × Nat)} {c : Nat} {A : Option AO} (k : OR ρ p (.mp l c) A) : A = some (.mp l c) := by
  cases A with
  | none => exact k.elim
  | some A => cases A with
    | cells U m => exact k.elim
    | mp => obtain ⟨rfl, rfl⟩ := k; rfl
    | abs => exact k.elim
theorem OR.none_ {ρ : Rho} {p : Nat × Nat} {O : XO} (h : O ≠ .gone) (k : OR ρ p O none) : False := by cases O <;> first | exact k | exact h rfl
structure HR (lo : Nat) (Wr : Nat → Prop) (ρ : Rho) (hp : XH) (nx : Nat) (H : Hp) : Prop where
  lt : ∀ i p, ρ i = some p → i < nx
  obj : ∀ i O, hp.get i = some O → O ≠ .gone → ∃ p, ρ i = some p ∧ OR ρ p O (H p.1)
  inj : ∀ i j O O' p q, hp.get i = some O → hp.get j = some O' → O ≠ .gone → O' ≠ .gone → ρ i = some p → ρ j = some q → p.1 = q.1 → i = j
  wr : ∀ i O p, lo ≤ i → hp.get i = some O → O ≠ .gone → ρ i = some p → Wr p.1
def Rho.set (ρ : Rho) (i : Nat) (p : Nat × Nat) : Rho := fun j => if j = i then some p else ρ j
section
variable {lo : Nat} {Wr : Nat → Prop} {ρ : Rho} {hp : XH} {nx : Nat} {H : Hp}
theorem HR.le_set (h : HR lo Wr ρ hp nx H) (p : Nat × Nat) : ρ.le (ρ.set nx p) := fun i q e => by
  have := h.lt i q e
  show (if i = nx then some p else ρ i) = some q
  rw [if_neg (by omega)]; exact e
/-- a new object -/
theorem HR.new (h : HR lo Wr ρ hp nx H) {b C : Nat} {O : XO} {A : AO} (hb : H b = none) (hw : Wr b) (ho : OR (ρ.set nx (b, C)) (b, C) O (some A)) : HR lo Wr (ρ.set nx (b, C)) (hp.set nx O) (nx + 1) (hset H b A) := by
  have hle := h.le_set (b, C)
  have hnx : ρ.set nx (b, C) nx = some (b, C) := if_pos rfl
  have old : ∀ i, i ≠ nx → ρ.set nx (b, C) i = ρ i := fun i hi => if_neg hi
  have hne : ∀ i O' p, hp.get i = some O' → O' ≠ .gone → ρ i = some p → p.1 ≠ b := fun i O' p e g hp e2 => by
    obtain ⟨q, hq, ho⟩ := h.obj i O' e g
    rw [hp] at hq; cases hq
    rw [e2, hb] at ho
    exact ho.none_ g
  refine ⟨fun i p e => ?_, fun i O' e g => ?_, fun i j O1 O2 p q e1 e2 g1 g2 r1 r2 e => ?_, fun i O' p hl e g r => ?_⟩
  · by_cases hi : i = nx
    · omega
    · rw [old i hi] at e; have := h.lt i p e; omega
  · rw [Tr.get_set] at e
    by_cases hi : i = nx
    · subst hi
      rw [if_pos rfl] at e; cases e
      exact ⟨(b, C), hnx, by rw [show hset H b A (b, C).1 = some A from if_pos rfl]; exact ho⟩
    · rw [if_neg hi] at e
      obtain ⟨p, hp', ho'⟩ := h.obj i O' e g
      refine ⟨p, (old i hi).trans hp', ?_⟩
      rw [show hset H b A p.1 = H p.1 from if_neg (hne i O' p e g hp')]
      exact ho'.mono hle
  · rw [Tr.get_set] at e1 e2
    by_cases hi : i = nx
    · by_cases hj : j = nx
      · omega
      · subst hi
        rw [if_neg hj] at e2; rw [old j hj] at r2
        rw [hnx] at r1; cases r1
        exact absurd e.symm (hne j O2 q e2 g2 r2)
    · rw [if_neg hi] at e1; rw [old i hi] at r1
      by_cases hj : j = nx
      · subst hj
        rw [hnx] at r2; cases r2
        exact absurd e (hne i O1 p e1 g1 r1)
      · rw [if_neg hj] at e2; rw [old j hj] at r2
        exact h.inj i j O1 O2 p q e1 e2 g1 g2 r1 r2 e
  · rw [Tr.get_set] at e
    by_cases hi : i = nx
    · subst hi; rw [hnx] at r; cases r; exact hw
    · rw [if_neg hi] at e; rw [old i hi] at r
      exact h.wr i O' p hl e g r
/-- an object becomes another -/
theorem HR.upd (h : HR lo Wr ρ hp nx H) {i : Nat} {p : Nat × Nat} {O O' : XO} {A : AO} (hi : hp.get i = some O) (hg : O ≠ .gone) (hr : ρ i = some p) (ho : OR ρ p O' (some A)) : HR lo Wr ρ (hp.set i O') nx (hset H p.1 A) := by
  have live : ∀ j O2, (hp.set i O').get j = some O2 → O2 ≠ .gone → ∃ O3, hp.get j = some O3 ∧ O3 ≠ .gone := fun j O2 e g => by
    rw [Tr.get_set] at e
    split at e
    · rename_i q; subst q; exact ⟨O, hi, hg⟩
    · exact ⟨O2, e, g⟩
  refine ⟨h.lt, fun j O2 e g => ?_, fun j k O1 O2 q r e1 e2 g1 g2 r1 r2 e => ?_, fun j O2 q hl e g r => ?_⟩
  · rw [Tr.get_set] at e
    by_cases hj : j = i
    · subst hj
      rw [if_pos rfl] at e; cases e
      exact ⟨p, hr, by rw [show hset H p.1 A p.1 = some A from if_pos rfl]; exact ho⟩
    · rw [if_neg hj] at e
      obtain ⟨q, hq, ho'⟩ := h.obj j O2 e g
      refine ⟨q, hq, ?_⟩
      rw [show hset H p.1 A q.1 = H q.1 from if_neg fun e' => hj (h.inj j i O2 O q p e hi g hg hq hr e')]
      exact ho'
  · obtain ⟨O3, a1, a2⟩ := live j O1 e1 g1
    obtain ⟨O4, a3, a4⟩ := live k O2 e2 g2
    exact h.inj j k O3 O4 q r a1 a3 a2 a4 r1 r2 e
  · obtain ⟨O3, a1, a2⟩ := live j O2 e g
    exact h.wr j O3 q hl a1 a2 r
/-- an object is no more -/
theorem HR.del (h : HR lo Wr ρ hp nx H) {i : Nat} {p : Nat × Nat} {O : XO} (hi : hp.get i = some O) (hg : O ≠ .gone) (hr : ρ i = some p) : HR lo Wr ρ (hp.set i .gone) nx (hdel H p.1) := by
  have live : ∀ j O2, (hp.set i .gone).get j = some O2 → O2 ≠ .gone → j ≠ i ∧ hp.get j = some O2 := fun j O2 e g => by
    rw [Tr.get_set] at e
    split at e
    · cases e; exact absurd rfl g
    · exact ⟨by assumption, e⟩
  refine ⟨h.lt, fun j O2 e g => ?_, fun j k O1 O2 q r e1 e2 g1 g2 r1 r2 e => ?_, fun j O2 q hl e g r => ?_⟩
  · obtain ⟨hj, e⟩ := live j O2 e g
    obtain ⟨q, hq, ho'⟩ := h.obj j O2 e g
    refine ⟨q, hq, ?_⟩
    rw [show hdel H p.1 q.1 = H q.1 from if_neg fun e' => hj (h.inj j i O2 O q p e hi g hg hq hr e')]
    exact ho'
  · exact h.inj j k O1 O2 q r (live j O1 e1 g1).2 (live k O2 e2 g2).2 g1 g2 r1 r2 e
  · exact h.wr j O2 q hl (live j O2 e g).2 g r
theorem HR.hp_eq {H' : Hp} (h : HR lo Wr ρ hp nx H) (e : ∀ i O p, hp.get i = some O → O ≠ .gone → ρ i = some p → H' p.1 = H p.1) : HR lo Wr ρ hp nx H' :=
  ⟨h.lt, fun i O e1 g => by obtain ⟨p, hp', ho⟩ := h.obj i O e1 g; exact ⟨p, hp', by rw [e i O p e1 g hp']; exact ho⟩, h.inj, h.wr⟩
/-- what is told behind an operation -/
def XK (lo : Nat) (Wr : Nat → Prop) (ρ : Rho) (a : AV) (hp : XH) (nx : Nat) (b : AV) (H : Hp) : Prop := ∃ σ : Rho, ρ.le σ ∧ RA σ a b ∧ HR lo Wr σ hp nx H
theorem XK.same (h : HR lo Wr ρ hp nx H) {a b : AV} (k : RA ρ a b) : XK lo Wr ρ a hp nx b H := ⟨ρ, .refl ρ, k, h⟩
theorem xld_sound {tk : Option (Option Nat)} {x x' a : AV} {k : AV → Prop} (h : xld tk x hp = some a) (hh : HR lo Wr ρ hp nx H) (hx : RA ρ x x') (hk : ∀ b, RA ρ a b → k b) : eld tk x' H k := by
  unfold xld at h
  split at h
  · rename_i tk b o
    obtain ⟨p, hp', rfl⟩ := hx.ptr_inv
    split at h
    · rename_i T sz l e
      obtain ⟨q, hq, ho⟩ := hh.obj b _ e (by simp)
      rw [hp'] at hq; cases hq
      obtain ⟨m, hm, hl, _⟩ := ho.cells_inv
      show ldO (H p.1) tk o k
      rw [hm]
      exact xpick1_sound h hl hk
    · cases h
  · rename_i tk l i j
    obtain ⟨m, hm, rfl⟩ := hx.ep_inv
    split at h
    · rename_i r e
      obtain ⟨t, ht, hrt⟩ := hm.get e
      show ldR m[i]? tk j k
      rw [ht]
      exact xpick1_sound h hrt.p hk
    · cases h
  · cases h
theorem RAp.splice {l m l' m' : List AV} (h : RAp ρ l m) {o : Nat} (k : RAs ρ l' m') (hl : o + l'.length ≤ l.length) : RAp ρ (splice l o l') (splice m o m') ∧ (splice m o m').length = m.length := by
  have hlm := h.1
  have big : RAp ρ (l.take o ++ l' ++ l.drop (o + l'.length)) (m.take o ++ m' ++ m.drop (o + m'.length)) ∧ (m.take o ++ m' ++ m.drop (o + m'.length)).length = m.length := by
    have k1 := k.1
    refine ⟨⟨by simp; omega, fun i a b e g => ?_⟩, by simp; omega⟩
    have htk : RAs ρ (l.take o ++ l') (m.take o ++ m') := (h.take (by omega)).append k
    rw [List.getElem?_append] at e g
    rw [← htk.1] at g
    split at e
    · rw [if_pos (by assumption)] at g; exact htk.2 i a b e g
    · rw [if_neg (by assumption)] at g
      rw [← k1] at g
      exact (h.drop _).2 _ a b e g
  cases l' with
  | nil => rw [k.nil_inv] at big ⊢; exact big
  | cons a l' =>
    obtain ⟨b, t, rfl, hab, ht⟩ := k.cons_inv
    cases l' with
    | nil =>
      rw [ht.nil_inv]
      refine ⟨⟨by simp [Go.Proofs.YtiallkiiofomgaaGreat.splice]; exact hlm, fun j x y e g => ?_⟩, by simp [Go.Proofs.YtiallkiiofomgaaGreat.splice]⟩
      simp only [Go.Proofs.YtiallkiiofomgaaGreat.splice, List.getElem?_set] at e g
      split at e
      · rw [if_pos (by assumption)] at g
        split at e
        · cases e
          split at g
          · cases g; exact hab
          · cases g
        · cases e
      · rw [if_neg (by assumption)] at g; exact h.2 j x y e g
    | cons a2 l' =>
      obtain ⟨b2, t2, rfl, hab2, ht2⟩ := ht.cons_inv
      exact big
theorem xst_sound {n : Option Nat} {x y x' y' : AV} {hp' : XH} {k : Hp → Prop} (h : xst lo n x y hp = some hp') (hh : HR lo Wr ρ hp nx H) (hx : RA ρ x x') (hy : RA ρ y y') (hk : ∀ H', HR lo Wr ρ hp' nx H' → k H') : est n Wr x' y' H k := by
  unfold xst at h
  split at h
  · rename_i n b o m e1
    obtain ⟨p, hp', rfl⟩ := hx.ptr_inv
    obtain ⟨m', hm', rm⟩ := xavc_sound e1 hy
    split at h
    · rename_i T sz l e
      obtain ⟨h1, rfl⟩ := bif_some h
      simp only [Bool.and_eq_true] at h1
      obtain ⟨⟨h1, h2⟩, h3⟩ := h1
      have h1 := ble_le h1; have h2 := beq_eq h2; have h3 := ble_le h3
      obtain ⟨q, hq, ho⟩ := hh.obj b _ e (by simp)
      rw [hp'] at hq; cases hq
      obtain ⟨c, hc, hl, hsz⟩ := ho.cells_inv
      unfold est
      simp only [hm']
      unfold stO
      rw [hc]
      have hsp := hl.splice (o := o) rm (by omega)
      refine ⟨⟨hh.wr b _ p h1 e (by simp) hp', by rw [← rm.1]; exact h2, by have := hl.1; omega⟩, hk _ ?_⟩
      exact hh.upd e (by simp) hp' ⟨rfl, hsp.1, fun q => hsp.2.trans (hsz q)⟩
    · cases h
  · cases h
theorem xnew_sound {T : TypeId} {m m' : Option (List AV)} {a : AV} {hp' : XH} {nx' : Nat} (h : xnew T m hp nx = some (a, hp', nx')) (hh : HR lo Wr ρ hp nx H) (hm : ∀ l, m = some l → ∃ l', m' = some l' ∧ RAs ρ l l') : enew T Wr m' H (XK lo Wr ρ a hp' nx') := by
  unfold xnew at h
  split at h
  · rename_i l
    cases h
    obtain ⟨l', rfl, hl⟩ := hm l rfl
    intro b hb hw
    exact ⟨ρ.set nx (b, 0), hh.le_set _, .v _ _ (.p nx 0 (b, 0) (if_pos rfl)), hh.new hb hw ⟨rfl, (hl.mono (hh.le_set _)).p, fun q => absurd rfl q⟩⟩
  · cases h
theorem xmk_some {e : Option (TypeId × Nat × Nat)} {z : Option (List AV)} {l c : Option Int} {r : AV × XH × Nat} (h : xmk e z l c hp nx = some r) : ∃ n m, l = some n ∧ c = some m := by
  unfold xmk at h
  split at h
  · exact ⟨_, _, rfl, rfl⟩
  · cases h
theorem xmk_sound {e : Option (TypeId × Nat × Nat)} {z z' : Option (List AV)} {l c : Option Int} {a : AV} {hp' : XH} {nx' : Nat} (h : xmk e z l c hp nx = some (a, hp', nx')) (hh : HR lo Wr ρ hp nx H) (hz : ∀ l, z = some l → ∃ l', z' = some l' ∧ RAs ρ l l') : emk e z' Wr l c H (XK lo Wr ρ a hp' nx') := by
  unfold xmk at h
  split at h
  · rename_i te by_ zv lv cv
    obtain ⟨h1, h2⟩ := bif_some h
    cases h2
    simp only [Bool.and_eq_true, decide_eq_true_eq] at h1
    obtain ⟨l', rfl, hl⟩ := hz _ rfl
    obtain ⟨b0, t, rfl, hab, ht⟩ := hl.cons_inv
    rw [ht.nil_inv]
    refine ⟨⟨h1.1.1.1, h1.1.1.2, h1.1.2, h1.2⟩, fun b hb hw => ?_⟩
    refine ⟨ρ.set nx (b, cv.toNat), hh.le_set _, .v _ _ (.s nx 0 _ 0 _ (b, cv.toNat) (if_pos rfl) (by omega) (.inr ⟨rfl, fun _ => rfl⟩)), hh.new hb hw ⟨rfl, ⟨by simp, fun i x y e g => ?_⟩, fun _ => by simp⟩⟩
    rw [List.getElem?_replicate] at e g
    split at e
    · rw [if_pos (by assumption)] at g
      cases e; cases g; exact hab.mono (hh.le_set _)
    · cases e
  · cases h
end
end Go.Proofs.YtiallkiiofomgaaGreat
