/- A run that is reckoned out: operations that only compute are right. -/
import Derived.Test.YtiallkiiofomgaaGreatYb
namespace Go.Proofs.YtiallkiiofomgaaGreat
section
variable {ρ : Rho} {k : AV → Prop} {a : AV}
theorem RA.int (ρ : Rho) (q : IntKind) (n : Int) : RA ρ (.v (.int q n)) (.v (.int q n)) := .v _ _ (.k _ rfl)
theorem RA.bool (ρ : Rho) (b : Bool) : RA ρ (.v (.bool b)) (.v (.bool b)) := .v _ _ (.k _ rfl)
theorem RA.str (ρ : Rho) (b : ByteArray) : RA ρ (.v (.string b)) (.v (.string b)) := .v _ _ (.k _ rfl)
theorem ble_le {a b : Nat} (h : Nat.ble a b = true) : a ≤ b := Nat.le_of_ble_eq_true h
theorem beq_eq {a b : Nat} (h : Nat.beq a b = true) : a = b := Nat.eq_of_beq_eq_true h
theorem bif_some {α : Type} {c : Bool} {x a : α} (h : (bif c then some x else none) = some a) : c = true ∧ x = a := by cases c with | true => exact ⟨rfl, by simpa using h⟩ | false => cases h
theorem bif_opt {α : Type} {c : Bool} {x : Option α} {a : α} (h : (bif c then x else none) = some a) : c = true ∧ x = some a := by cases c with | true => exact ⟨rfl, h⟩ | false => cases h
theorem xnum_sound {q : IntKind} {n : Int} (h : xnum q n = some a) (hk : ∀ b, RA ρ a b → k b) : pnum q n k := by
  cases q with
  | i64 =>
    obtain ⟨h1, rfl⟩ := bif_some h
    simp only [Bool.and_eq_true, decide_eq_true_eq] at h1
    exact ⟨h1, hk _ (.int ..)⟩
  | _ => cases h; exact hk _ (.int ..)
theorem xint_sound {op : BinOp} {q : IntKind} {x y : Int} (h : xint op q x y = some a) (hk : ∀ b, RA ρ a b → k b) : pint op q x y k := by
  cases op with
  | add => exact xnum_sound h hk
  | sub => exact xnum_sound h hk
  | mul => exact xnum_sound h hk
  | quo =>
    unfold xint at h; dsimp only at h
    cases e : y == 0 with
    | true => rw [e] at h; cases h
    | false => rw [e] at h; cases h; exact ⟨by simpa using e, hk _ (.int ..)⟩
  | rem =>
    unfold xint at h; dsimp only at h
    cases e : y == 0 with
    | true => rw [e] at h; cases h
    | false => rw [e] at h; cases h; exact ⟨by simpa using e, hk _ (.int ..)⟩
  | shl => obtain ⟨h1, rfl⟩ := bif_some h; exact ⟨by simpa using h1, hk _ (.int ..)⟩
  | shr => obtain ⟨h1, rfl⟩ := bif_some h; exact ⟨by simpa using h1, hk _ (.int ..)⟩
  | eql => cases h; exact hk _ (.bool ..)
  | neq => cases h; exact hk _ (.bool ..)
  | lss => cases h; exact hk _ (.bool ..)
  | leq => cases h; exact hk _ (.bool ..)
  | gtr => cases h; exact hk _ (.bool ..)
  | geq => cases h; exact hk _ (.bool ..)
  | and => cases h; exact hk _ (.int ..)
  | or => cases h; exact hk _ (.int ..)
  | xor => cases h; exact hk _ (.int ..)
  | andNot => cases h; exact hk _ (.int ..)
theorem RV.bool_back {x : Value} {b : Bool} (h : RV ρ x (.bool b)) : x = .bool b := by cases h; rfl
theorem RV.int_back {x : Value} {q : IntKind} {n : Int} (h : RV ρ x (.int q n)) : x = .int q n := by cases h; rfl
theorem RV.str_back {x : Value} {b : ByteArray} (h : RV ρ x (.string b)) : x = .string b := by cases h; rfl
theorem RA.bool_back {x : AV} {b : Bool} (h : RA ρ x (.v (.bool b))) (hx : x ≠ .any) : x = .v (.bool b) := by cases h with | any => exact absurd rfl hx | v _ _ e => rw [e.bool_back]
theorem RA.int_back {x : AV} {q : IntKind} {n : Int} (h : RA ρ x (.v (.int q n))) (hx : x ≠ .any) : x = .v (.int q n) := by cases h with | any => exact absurd rfl hx | v _ _ e => rw [e.int_back]
theorem RA.str_back {x : AV} {b : ByteArray} (h : RA ρ x (.v (.string b))) (hx : x ≠ .any) : x = .v (.string b) := by cases h with | any => exact absurd rfl hx | v _ _ e => rw [e.str_back]
theorem xpk_sound {c x y c' x' y' : AV} (h : xpk c x y = some a) (hc : RA ρ c c') (hx : RA ρ x x') (hy : RA ρ y y') (hk : ∀ b, RA ρ a b → k b) : ppick (nrm c') x' y' k := by
  unfold xpk at h
  split at h
  · rename_i A
    rw [hc.bool_inv]
    show avif A (Go.Proofs.YtiallkiiofomgaaGreat.str A x') (Go.Proofs.YtiallkiiofomgaaGreat.str (!A) y') k
    split at h
    · rename_i p q
      cases h
      rw [hx.bool_inv, hy.bool_inv]
      exact hk _ (.bool ..)
    · rename_i q n q' m
      obtain ⟨h1, rfl⟩ := bif_some h
      rw [hx.int_inv, hy.int_inv]
      exact ⟨by simpa using h1, hk _ (.int ..)⟩
    · cases h
    · cases h
    · rename_i n3 n4 n1 n2
      have hxa : x ≠ .any := fun e => n3 e
      have hya : y ≠ .any := fun e => n4 e
      rw [hx.str_eq hxa, hy.str_eq hya]
      cases h
      unfold avif
      split
      · exact absurd (hy.bool_back hya) (n1 _ _ (hx.bool_back hxa))
      · exact absurd (hy.int_back hya) (n2 _ _ _ _ (hx.int_back hxa))
      · exact ⟨fun e => by subst e; exact hk _ hx, fun e => by subst e; exact hk _ hy⟩
  · cases h
theorem xnl_any : xnl .any = none := rfl
theorem xeq_sound {tn : Nat} {c : Bool} {x y x' y' : AV} {r : Bool} {k : Bool → Prop} (h : xeq tn c x y = some r) (hx : RA ρ x x') (hy : RA ρ y y') (hk : k r) : peq tn c x' y' k := by
  unfold xeq at h
  split at h
  · obtain ⟨h1, rfl⟩ := bif_some h
    rw [hx.bool_inv, hy.bool_inv]
    exact ⟨beq_eq h1, hk⟩
  · obtain ⟨h1, rfl⟩ := bif_some h
    rw [hx.str_inv, hy.str_inv]
    exact ⟨beq_eq h1, hk⟩
  · rename_i n1 n2
    split at h
    · rename_i n p m q e1 e2
      obtain ⟨h1, rfl⟩ := bif_some h
      have g1 := hx.nl e1
      have g2 := hy.nl e2
      have hxa : x ≠ .any := fun e => by rw [e] at e1; cases e1
      have hya : y ≠ .any := fun e => by rw [e] at e2; cases e2
      simp only [Bool.and_eq_true, Bool.or_eq_true, Bool.not_eq_true'] at h1
      obtain ⟨⟨⟨h1, h2⟩, h3⟩, h4⟩ := h1
      unfold peq
      split
      · exact absurd (hy.bool_back hya) (n1 _ _ (hx.bool_back hxa))
      · exact absurd (hy.str_back hya) (n2 _ _ (hx.str_back hxa))
      · rw [g1, g2]
        refine ⟨⟨beq_eq h1, beq_eq h2, by simpa using h3, ?_⟩, hk⟩
        rcases h4 with (h4 | h4) | h4
        · exact .inl fun e => by rw [e] at h4; cases h4
        · exact .inr (.inl h4)
        · exact .inr (.inr h4)
    · cases h
theorem xbin_sound {tn : Nat} {c : Bool} {op : BinOp} {x y x' y' : AV} (h : xbin tn c op x y = some a) (hx : RA ρ x x') (hy : RA ρ y y') (hk : ∀ b, RA ρ a b → k b) : pbin tn c op x' y' k := by
  unfold xbin at h
  split at h
  · obtain ⟨h1, h2⟩ := bif_opt h
    rw [hx.int_inv, hy.int_inv]
    simp only [Bool.or_eq_true, decide_eq_true_eq] at h1
    exact ⟨by rcases h1 with (h | h) | h <;> simp [h], xint_sound h2 hk⟩
  · rename_i n1
    have go : ∀ (r : Bool), xeq tn c x y = some r → (op = .eql ∨ op = .neq) → k (.v (.bool (if op = .eql then r else !r))) → pbin tn c op x' y' k := fun r e ho hr => by
      have hxa : x ≠ .any := fun q => by
        rw [q] at e
        cases y <;> cases e
      have hya : y ≠ .any := fun q => by
        rw [q] at e
        unfold xeq at e
        split at e
        · rename_i e1; cases e1
        · rename_i e1; cases e1
        · rw [xnl_any] at e; split at e
          · rename_i e2; cases e2
          · cases e
      have pq := fun {kk : Bool → Prop} (hkk : kk r) => xeq_sound (k := kk) e hx hy hkk
      unfold pbin
      split
      · exact absurd (hy.int_back hya) (n1 _ _ _ _ (hx.int_back hxa))
      · cases hx; exact absurd rfl hxa
      · -- a row and nil
        cases hx with
        | any => exact absurd rfl hxa
        | sl b l m hl hr hh =>
          have hyn : y = .v (.slice none 0 0) := by
            cases hy with
            | any => exact absurd rfl hya
            | v z _ hz => cases hz; rfl
          subst hyn
          cases l with
          | nil => cases e
          | cons r l =>
            obtain ⟨h1, rfl⟩ := bif_some (show (bif (Nat.beq tn 2 && Nat.beq tn 2 && (false || true) && (!(Nat.beq 2 4) || !(false && true) || c)) then some (false && true) else none) = some _ from e)
            simp only [Bool.and_eq_true] at h1
            refine ⟨⟨beq_eq h1.1.1.1, ho⟩, fun b hb => ?_⟩
            cases b with
            | true => have := hb rfl; subst this; simp at hl
            | false => exact hr
      · rcases ho with rfl | rfl
        · exact pq hr
        · exact pq (kk := fun b => k (.v (.bool (!b)))) hr
    split at h
    · rw [Option.map_eq_some_iff] at h
      obtain ⟨r, e, rfl⟩ := h
      exact go r e (.inl rfl) (hk _ (.bool ..))
    · rw [Option.map_eq_some_iff] at h
      obtain ⟨r, e, rfl⟩ := h
      exact go r e (.inr rfl) (hk _ (.bool ..))
    · cases h
theorem xun_sound {op : UnOp} {x x' : AV} (h : xun op x = some a) (hx : RA ρ x x') (hk : ∀ b, RA ρ a b → k b) : pun op x' k := by
  unfold xun at h
  split at h
  · cases h; rw [hx.bool_inv]; exact hk _ (.bool ..)
  · rw [hx.int_inv]; exact xnum_sound h hk
  · cases h
theorem xfa_sound {o : Option (Nat × Nat × Option Nat)} {x x' : AV} (h : xfa o x = some a) (hx : RA ρ x x') (hk : ∀ b, RA ρ a b → k b) : pfa o x' k := by
  unfold xfa at h
  split at h
  · cases h
    obtain ⟨p, hp, rfl⟩ := hx.ptr_inv
    exact hk _ (.v _ _ (.p _ _ p hp))
  · cases h
    obtain ⟨m, hm, rfl⟩ := hx.ep_inv
    exact hk _ (hm.ep _ _)
  · cases h
theorem xpick1_sound {tk : Option Nat} {l m : List AV} {o : Nat} (h : xpick1 tk l o = some a) (hl : RAp ρ l m) (hk : ∀ b, RA ρ a b → k b) : pick1 tk m o k := by
  unfold xpick1 at h
  split at h
  · obtain ⟨b, e, r⟩ := hl.get h
    show optk m[o]? k
    rw [e]
    exact hk _ r
  · obtain ⟨h1, rfl⟩ := bif_some h
    have h1 := ble_le h1
    exact ⟨Nat.le_trans h1 hl.1, hk _ ((hl.drop o).take (by simp; omega)).agg⟩
theorem xfd_sound {o : Option (Nat × Nat × Option Nat)} {x x' : AV} (h : xfd o x = some a) (hx : RA ρ x x') (hk : ∀ b, RA ρ a b → k b) : pfd o x' k := by
  unfold xfd at h
  split at h
  · obtain ⟨m, hm, rfl⟩ := hx.agg_inv
    exact xpick1_sound h hm.p hk
  · cases h
theorem xext_sound {i : Nat} {x x' : AV} (h : xext i x = some a) (hx : RA ρ x x') (hk : ∀ b, RA ρ a b → k b) : pext i x' k := by
  unfold xext at h
  split at h
  · obtain ⟨m, hm, rfl⟩ := hx.tup_inv
    obtain ⟨b, e, r⟩ := hm.get h
    show optk m[i]? k
    rw [e]; exact hk _ r
  · cases h
theorem xlen_sound {tn : Nat} {x x' : AV} (h : xlen tn x = some a) (hx : RA ρ x x') (hk : ∀ b, RA ρ a b → k b) : alen tn x' k := by
  unfold xlen at h
  split at h
  · rename_i b n c
    obtain ⟨h1, rfl⟩ := bif_some h
    obtain ⟨y, rfl, e⟩ := hx.v_inv
    cases e with
    | k _ e => exact ⟨beq_eq h1, hk _ (.int ..)⟩
    | s => exact ⟨beq_eq h1, hk _ (.int ..)⟩
  · obtain ⟨h1, rfl⟩ := bif_some h
    rw [hx.str_inv]
    exact ⟨beq_eq h1, hk _ (.int ..)⟩
  · obtain ⟨h1, rfl⟩ := bif_some h
    obtain ⟨m, hm, rfl⟩ := hx.sl_inv
    exact ⟨beq_eq h1, by rw [← hm.1]; exact hk _ (.int ..)⟩
  · cases h
theorem xcap_sound {tn : Nat} {x x' : AV} (h : xcap tn x = some a) (hx : RA ρ x x') (hk : ∀ b, RA ρ a b → k b) : acap tn x' k := by
  unfold xcap at h
  split at h
  · obtain ⟨h1, rfl⟩ := bif_some h
    rw [hx.nil_inv]
    exact ⟨beq_eq h1, hk _ (.int ..)⟩
  · rename_i b n c _
    obtain ⟨h1, rfl⟩ := bif_some h
    obtain ⟨y, rfl, e⟩ := hx.v_inv
    cases e with
    | k _ e => exact ⟨beq_eq h1, hk _ (.int ..)⟩
    | s _ _ _ _ c' p e hn hc =>
      rcases hc with rfl | ⟨q, _⟩
      · exact ⟨beq_eq h1, hk _ (.int ..)⟩
      · cases q
  · obtain ⟨h1, rfl⟩ := bif_some h
    obtain ⟨m, hm, rfl⟩ := hx.sl_inv
    exact ⟨beq_eq h1, by rw [← hm.1]; exact hk _ (.int ..)⟩
  · cases h
theorem all_len {l : List (List AV)} {n : Nat} (h : l.all (fun r => Nat.beq r.length n) = true) : ∀ r ∈ l, r.length = n := fun r hr => beq_eq (List.all_eq_true.1 h r hr)
theorem xix_sound {e : Option (TypeId × Nat × Nat)} {x i x' i' : AV} (h : xix e x i = some a) (hx : RA ρ x x') (hi : RA ρ i i') (hk : ∀ b, RA ρ a b → k b) : pix e x' i' k := by
  unfold xix at h
  split at h
  · rw [hi.int_inv]
    split at h
    · obtain ⟨h1, rfl⟩ := bif_some h
      simp only [Bool.and_eq_true, decide_eq_true_eq] at h1
      obtain ⟨p, c', hp, _, _, rfl⟩ := hx.sli_inv
      exact ⟨h1, hk _ (.v _ _ (.p _ _ p hp))⟩
    · obtain ⟨h1, rfl⟩ := bif_some h
      simp only [Bool.and_eq_true, decide_eq_true_eq] at h1
      obtain ⟨m, hm, rfl⟩ := hx.sl_inv
      exact ⟨⟨h1.1.1, by rw [← hm.1]; exact h1.1.2, hm.rows (all_len h1.2)⟩, hk _ (hm.ep _ _)⟩
    · cases h
  · cases h
theorem xnc_sound {x x' : AV} (h : xnc x = some a) (hx : RA ρ x x') (hk : ∀ b, RA ρ a b → k b) : pnl x' k := by
  unfold xnc at h
  split at h
  · cases h
    obtain ⟨y, rfl, e⟩ := hx.v_inv
    cases e with
    | k _ e => cases e
    | p b o p e => exact hk _ (.v _ _ (.p b o p e))
  · cases h
    obtain ⟨y, e, rfl⟩ := hx.if_inv
    exact hk _ (.v _ _ (.i _ _ _ e))
  · cases h
    have hx' := hx
    obtain ⟨l, r, _, _, rfl⟩ := hx.fn_inv
    exact hk _ hx'
  · cases h
    obtain ⟨m, hm, rfl⟩ := hx.ep_inv
    exact hk _ (hm.ep _ _)
  · cases h
theorem xvals_sound {rv : Operand → AV} {rv' : Operand → AV} : ∀ {l : List Operand} {vs : List Value}, xvals (l.map rv) = some vs → (∀ x ∈ l, RA ρ (rv x) (rv' x)) → ∃ us, avals rv' l = some us ∧ vs.length = us.length ∧ ∀ (i : Nat) x y, vs[i]? = some x → us[i]? = some y → RV ρ x y
  | [], vs, h, _ => by cases h; exact ⟨[], rfl, rfl, by simp⟩
  | x :: l, vs, h, hr => by
    rw [List.map_cons] at h
    have h1 := hr x (by simp)
    cases e : rv x <;> rw [e] at h <;> first | (cases h; done) | skip
    rename_i v
    simp only [xvals, Option.map_eq_some_iff] at h
    obtain ⟨vs, h2, rfl⟩ := h
    obtain ⟨us, g1, g2, g3⟩ := xvals_sound h2 (fun x hx => hr x (by simp [hx]))
    rw [e] at h1
    obtain ⟨y, hy, ry⟩ := h1.v_inv
    refine ⟨y :: us, by simp [avals, hy, AV.val, g1], by simp [g2], fun i p q e1 e2 => ?_⟩
    cases i with
    | zero => simp at e1 e2; subst e1 e2; exact ry
    | succ i => exact g3 i p q (by simpa using e1) (by simpa using e2)
theorem xavc_sound {x x' : AV} {m : List AV} (h : xavc x = some m) (hx : RA ρ x x') : ∃ m', avc x' = some m' ∧ RAs ρ m m' := by
  unfold xavc at h
  have one : ∀ {p q : AV}, RA ρ p q → RAs ρ [p] [q] := fun h => RAs.cons h RAs.nil
  split at h
  · cases h
    obtain ⟨m', hm, rfl⟩ := hx.agg_inv
    exact ⟨m', rfl, hm⟩
  · rename_i v
    obtain ⟨h1, rfl⟩ := bif_some h
    have hx' := hx
    obtain ⟨y, rfl, e⟩ := hx.v_inv
    refine ⟨[.v y], ?_, one hx'⟩
    have : y.oneCell' = true := by cases e <;> first | exact h1 | rfl
    simp [avc, this]
  · cases h
    have hx' := hx
    obtain ⟨m', hm, rfl⟩ := hx.sl_inv
    exact ⟨_, rfl, one hx'⟩
  · cases h
    have hx' := hx
    obtain ⟨m', hm, rfl⟩ := hx.ep_inv
    exact ⟨_, rfl, one hx'⟩
  · cases h
theorem xfill_sound {pl : List (Nat × Nat)} {ev ev' : Operand → AV} {k : List AV → Prop} {m : List AV} : ∀ {ps : List (Nat × Operand)} {l l' : List AV}, xfill pl ev ps l = some m → RAs ρ l l' → (∀ p ∈ ps, RA ρ (ev p.2) (ev' p.2)) → (∀ m', RAs ρ m m' → k m') → pfill pl ev' ps l' k
  | [], l, l', h, hl, _, hk => by cases h; exact hk _ hl
  | (i, x) :: r, l, l', h, hl, hr, hk => by
    unfold xfill at h
    split at h
    · rename_i o n mm e1 e2
      obtain ⟨h1, h2⟩ := bif_opt h
      simp only [Bool.and_eq_true] at h1
      obtain ⟨mm', g1, g2⟩ := xavc_sound e2 (hr (i, x) (by simp))
      unfold pfill
      rw [e1, g1]
      exact ⟨⟨by rw [← g2.1]; exact beq_eq h1.1, by rw [← hl.1]; exact ble_le h1.2⟩, xfill_sound h2 (hl.splice o g2) (fun p hp => hr p (by simp [hp])) hk⟩
    · cases h
theorem xzc_sound {z : Option Value} {l : List AV} (h : xzc z = some l) : ∃ l', zcells z = some l' ∧ RAs ρ l l' := by
  unfold xzc at h
  split at h
  · rename_i x
    exact xavc_sound (x' := ofVal x) h (xcv_ra x)
  · cases h
theorem xbuild_sound {z : Option Value} {pl : Option (List (Nat × Nat))} {ev ev' : Operand → AV} {ps : List (Nat × Operand)} (h : xbuild z pl ev ps = some a) (hr : ∀ p ∈ ps, RA ρ (ev p.2) (ev' p.2)) (hk : ∀ b, RA ρ a b → k b) : pbuild z pl ev' ps k := by
  unfold xbuild at h
  split at h
  · rename_i zl pl' e1
    rw [Option.map_eq_some_iff] at h
    obtain ⟨m, h1, rfl⟩ := h
    obtain ⟨zl', g1, g2⟩ := xzc_sound (ρ := ρ) e1
    cases z with
    | none => cases e1
    | some z =>
      show pbz (avc (ofVal z)) pl' ev' ps k
      have g1 : avc (ofVal z) = some zl' := g1
      rw [g1]
      exact xfill_sound h1 g2 hr fun m' hm => hk _ hm.agg
  · cases h
theorem num_sound {x x' : AV} {n : Int} (h : num x = some n) (hx : RA ρ x x') : num x' = some n := by
  unfold num at h
  split at h
  · cases h; rw [hx.int_inv]; rfl
  · cases h
theorem xonum_sound {ev ev' : Operand → AV} {o : Option Operand} {r : Option Int} (h : xonum ev o = some r) (hr : ∀ x, o = some x → RA ρ (ev x) (ev' x)) : onum ev' o = some r := by
  cases o with
  | none => exact h
  | some x =>
    simp only [xonum, Option.map_eq_some_iff] at h
    obtain ⟨n, h1, rfl⟩ := h
    simp [onum, num_sound h1 (hr x rfl)]
theorem xsl3_sound {tn : Nat} {e : Option (TypeId × Nat × Nat)} {x x' : AV} {lo hi mx : Option Int} (h : xsl3 tn e x lo hi mx = some a) (hx : RA ρ x x') (hk : ∀ b, RA ρ a b → k b) : psl3 tn e x' lo hi mx k := by
  unfold xsl3 at h
  split at h
  · rename_i s
    obtain ⟨h1, rfl⟩ := bif_some h
    simp only [Bool.and_eq_true, decide_eq_true_eq, Option.isNone_iff_eq_none] at h1
    rw [hx.str_inv]
    obtain ⟨⟨⟨⟨h1, h2⟩, h3⟩, h4⟩, h5⟩ := h1
    exact ⟨⟨h1, h2, h3, h4, beq_eq h5⟩, hk _ (.str ..)⟩
  · obtain ⟨h1, rfl⟩ := bif_some h
    simp only [Bool.and_eq_true, Bool.or_eq_true, decide_eq_true_eq, Option.isNone_iff_eq_none] at h1
    rw [hx.nil_inv]
    obtain ⟨⟨⟨⟨⟨h1, h2⟩, h3⟩, h4⟩, h5⟩, h6⟩ := h1
    exact ⟨⟨beq_eq h1, h2, h3, h4, h5, h6.imp id fun q e => by rw [e] at q; cases q⟩, hk _ (.v _ _ (.k _ rfl))⟩
  · rename_i b o n c
    obtain ⟨p, c', hp, hn, hc, rfl⟩ := hx.sli_inv
    split at h
    · rename_i te sz _
      split at h
      · obtain ⟨h1, rfl⟩ := bif_some h
        simp only [Bool.and_eq_true, Bool.or_eq_true, decide_eq_true_eq, Bool.not_eq_true'] at h1
        obtain ⟨⟨⟨⟨⟨h0, h1⟩, h2⟩, h3⟩, h4⟩, h5⟩ := h1
        have h0 : sz ≠ 0 := fun e => by rw [e] at h0; cases h0
        refine ⟨⟨beq_eq h1, h2, h3, ?_, ?_, ?_, .inl rfl⟩, hk _ (.v _ _ (.s _ _ _ _ _ p hp ?_ ?_))⟩
        · show hi.getD n ≤ (c' : Int); omega
        · show (c' : Int) ≤ c'; omega
        · show lo.getD 0 < (c' : Int) ∨ lo.getD 0 = 0; omega
        · show (hi.getD n).toNat - (lo.getD 0).toNat ≤ (c' : Int).toNat - (lo.getD 0).toNat; omega
        · show (c' : Int).toNat - (lo.getD 0).toNat = 0 ∨ _
          rcases hc with hc | hc
          · left; omega
          · refine .inr ⟨rfl, fun e => ?_⟩
            have hlo : (lo.getD 0).toNat = 0 := by
              rcases Nat.eq_zero_or_pos (lo.getD 0).toNat with q | q
              · exact q
              · have := Nat.mul_pos q (Nat.pos_of_ne_zero h0); omega
            show (c' : Int).toNat - (lo.getD 0).toNat = p.2
            rw [hlo, ← hc.2 (by omega)]; omega
      · rename_i hne
        obtain ⟨h1, rfl⟩ := bif_some h
        simp only [Bool.and_eq_true, Bool.or_eq_true, decide_eq_true_eq, Option.isNone_iff_eq_none] at h1
        obtain ⟨⟨⟨⟨⟨⟨h1, h2⟩, h3⟩, h4⟩, h5⟩, h6⟩, h7⟩ := h1
        cases mx with
        | none =>
          have hcc : c' = c := by
            rcases hc with hc | hc
            · exact hc
            · exact absurd rfl (hne hc.1)
          subst hcc
          refine ⟨⟨beq_eq h1, h2, h3, h4, Int.le_refl _, h6, .inl rfl⟩, hk _ (.v _ _ (.s _ _ _ _ _ p hp ?_ (.inl rfl)))⟩
          have h4 : hi.getD n ≤ (c' : Int) := h4
          show (hi.getD n).toNat - (lo.getD 0).toNat ≤ (c' : Int).toNat - (lo.getD 0).toNat; omega
        | some m =>
          have h4 : hi.getD n ≤ m := h4
          have h5 : m ≤ (max n c : Nat) := h5
          have h6 : lo.getD 0 < m ∨ lo.getD 0 = 0 := h6
          refine ⟨⟨beq_eq h1, h2, h3, h4, ?_, h6, h7.imp (fun q => by cases q) fun q e => by rw [e] at q; cases q⟩, hk _ (.v _ _ (.s _ _ _ _ _ p hp ?_ (.inl rfl)))⟩
          · show m ≤ (c' : Int)
            rcases hc with hc | hc <;> omega
          · show (hi.getD n).toNat - (lo.getD 0).toNat ≤ m.toNat - (lo.getD 0).toNat; omega
    · cases h
  · rename_i ex l
    obtain ⟨m, hm, rfl⟩ := hx.sl_inv
    split at h
    · rename_i te sz _
      obtain ⟨h1, rfl⟩ := bif_some h
      simp only [Bool.and_eq_true, Bool.or_eq_true, decide_eq_true_eq, Option.isNone_iff_eq_none] at h1
      obtain ⟨⟨⟨⟨⟨⟨h1, h2⟩, h3⟩, h4⟩, h5⟩, h6⟩, h7⟩ := h1
      have hl := hm.1
      rw [hl] at h3 h4 h5
      refine ⟨⟨beq_eq h1, h2, h3, h4, h5, h6.imp id (fun q e => by rw [e] at q; cases q), hm.rows (all_len h7)⟩, hk _ ?_⟩
      rw [hl]
      exact ((hm.tk _).dp _).sl _
    · cases h
  · cases h
theorem xcvt_sound {t : Nat} {q : Option IntKind} {x x' : AV} (h : xcvt t q x = some a) (hx : RA ρ x x') (hk : ∀ b, RA ρ a b → k b) : pcv t q x' k := by
  unfold xcvt at h
  split at h
  · obtain ⟨h1, h2⟩ := bif_opt h
    rw [hx.int_inv]
    exact ⟨beq_eq h1, xnum_sound h2 hk⟩
  · cases h
theorem xif_sound {tn : Nat} {t : TypeId} {x x' : AV} (h : xif tn t x = some a) (hx : RA ρ x x') (hk : ∀ b, RA ρ a b → k b) : pif tn t x' k := by
  unfold xif at h
  split at h
  · obtain ⟨h1, rfl⟩ := bif_some h
    simp only [Bool.and_eq_true, Bool.not_eq_true'] at h1
    obtain ⟨y, rfl, e⟩ := hx.v_inv
    exact ⟨⟨fun e => (by rw [e] at h1; cases h1.1), fun e => (by rw [e] at h1; cases h1.2)⟩, hk _ (.v _ _ (.i _ _ _ e))⟩
  · cases h
theorem xfn_sound {fn : Fn} {as bs : Option (List Value)} {as' bs' : List Value} (h : xfn fn as bs = some a) (ha : ∀ l, as = some l → l.length = as'.length ∧ ∀ (i : Nat) x y, l[i]? = some x → as'[i]? = some y → RV ρ x y) (hb : ∀ l, bs = some l → l.length = bs'.length ∧ ∀ (i : Nat) x y, l[i]? = some x → bs'[i]? = some y → RV ρ x y) (hk : ∀ b, RA ρ a b → k b) : pfn fn (some as') (some bs') k := by
  unfold xfn at h
  split at h
  · rename_i g l r
    cases h
    obtain ⟨a1, a2⟩ := ha _ rfl
    obtain ⟨b1, b2⟩ := hb _ rfl
    exact hk _ (.v _ _ (.f _ _ _ _ _ (by simpa using a1) (by simpa using b1) (fun i x y e g => a2 i x y (by simpa using e) (by simpa using g)) fun i x y e g => b2 i x y (by simpa using e) (by simpa using g)))
  · cases h
theorem xmm_sound {b : Bool} {x y x' y' : AV} (h : xmm b x y = some a) (hx : RA ρ x x') (hy : RA ρ y y') (hk : ∀ b, RA ρ a b → k b) : pmm b x' y' k := by
  unfold xmm at h
  split at h
  · cases h
    rw [hx.int_inv, hy.int_inv]
    exact hk _ (.int ..)
  · cases h
theorem RA.some_nrm {x x' : AV} (h : RA ρ x x') (hx : x ≠ .any) : Go.Proofs.YtiallkiiofomgaaGreat.nrm x' = x' := h.nrm_eq hx
theorem xcl_sound {P : Program} {rv rv' : Operand → AV} {ce : Callee} {l : List Operand} {ts : List TypeId} (h : xcl P rv ce l ts = some a) (hr : ∀ x ∈ l, RA ρ (rv x) (rv' x)) (hk : ∀ b, RA ρ a b → k b) : pcl P rv' ce l ts k := by
  unfold xcl at h
  split at h
  · exact xlen_sound h (hr _ (by simp)).nrm hk
  · exact xcap_sound h (hr _ (by simp)).nrm hk
  · exact xmm_sound h (hr _ (by simp)).nrm (hr _ (by simp)).nrm hk
  · exact xmm_sound h (hr _ (by simp)).nrm (hr _ (by simp)).nrm hk
  · cases h
theorem xsl_sound {tn : Nat} {e : Option (TypeId × Nat × Nat)} {rv rv' : Operand → AV} {x : Operand} {lo hi mx : Option Operand} (h : xsl tn e rv x lo hi mx = some a) (hx : RA ρ (rv x) (rv' x)) (h1 : ∀ y, lo = some y → RA ρ (rv y) (rv' y)) (h2 : ∀ y, hi = some y → RA ρ (rv y) (rv' y)) (h3 : ∀ y, mx = some y → RA ρ (rv y) (rv' y)) (hk : ∀ b, RA ρ a b → k b) : psl tn e rv' x lo hi mx k := by
  unfold xsl at h
  split at h
  · rename_i l u m e1 e2 e3
    unfold psl
    rw [xonum_sound e1 h1, xonum_sound e2 h2, xonum_sound e3 h3]
    exact xsl3_sound h hx hk
  · cases h
theorem xpop_sound {P : Program} {rv rv' : Operand → AV} {op : Op} (h : xpop P rv op = some a) (hr : ∀ x ∈ op.operands, RA ρ (rv x) (rv' x)) (hk : ∀ b, RA ρ a b → k b) : pop P rv' op k := by
  cases op <;> simp only [Op.operands] at hr <;> try (cases h; done)
  case move x => cases h; exact hk _ (hr x (by simp))
  case assign x => cases h; exact hk _ (hr x (by simp))
  case pick c x y => exact xpk_sound h (hr c (by simp)) (hr x (by simp)) (hr y (by simp)) hk
  case nilCheck x => exact xnc_sound h (hr x (by simp)).nrm hk
  case binOp op t x y u => exact xbin_sound h (hr x (by simp)).nrm (hr y (by simp)).nrm hk
  case unOp op t x => exact xun_sound h (hr x (by simp)).nrm hk
  case convert t u x => exact xcvt_sound h (hr x (by simp)).nrm hk
  case fieldAddr s x f => exact xfa_sound h (hr x (by simp)).nrm hk
  case field s x f => exact xfd_sound h (hr x (by simp)).nrm hk
  case extract x i => exact xext_sound h (hr x (by simp)).nrm hk
  case indexAddr t x i => exact xix_sound h (hr x (by simp)).nrm (hr i (by simp)).nrm hk
  case slice t x lo hi mx =>
    refine xsl_sound (rv' := fun x => nrm (rv' x)) h (hr x (by simp)).nrm (fun y e => (hr y ?_).nrm) (fun y e => (hr y ?_).nrm) (fun y e => (hr y ?_).nrm) hk <;> subst e <;> simp
  case build t ps =>
    refine xbuild_sound (ev' := fun x => nrm (rv' x)) h (fun p hp => (hr p.2 ?_).nrm) hk
    simp only [List.mem_toArray, List.mem_map]
    exact ⟨p, hp, rfl⟩
  case makeFunc fn as bs =>
    show pfn fn (avals (fun x => nrm (rv' x)) as.toList) (avals (fun x => nrm (rv' x)) bs.toList) k
    have h : xfn fn (xvals (as.toList.map rv)) (xvals (bs.toList.map rv)) = some a := h
    have hra : ∀ x ∈ as.toList, RA ρ (rv x) (nrm (rv' x)) := fun x hx => (hr x (by simp [Array.mem_toList_iff.1 hx])).nrm
    have hrb : ∀ x ∈ bs.toList, RA ρ (rv x) (nrm (rv' x)) := fun x hx => (hr x (by simp [Array.mem_toList_iff.1 hx])).nrm
    cases ea : xvals (as.toList.map rv) with
    | none => rw [ea] at h; cases fn <;> cases h
    | some l =>
    cases eb : xvals (bs.toList.map rv) with
    | none => rw [ea, eb] at h; cases fn <;> cases h
    | some r =>
    obtain ⟨us, u1, u2, u3⟩ := xvals_sound ea hra
    obtain ⟨vs, v1, v2, v3⟩ := xvals_sound eb hrb
    rw [u1, v1]
    rw [ea, eb] at h
    exact xfn_sound h (fun l' e => by cases e; exact ⟨u2, u3⟩) (fun l' e => by cases e; exact ⟨v2, v3⟩) hk
  case makeInterface t x => exact xif_sound h (hr x (by simp)).nrm hk
  case call c =>
    obtain ⟨ce, as, ts⟩ := c
    refine xcl_sound (P := P) (rv' := rv') h (fun x hx => hr x ?_) hk
    cases ce <;> simp [Call.operands] <;> simp [Array.mem_toList_iff.1 hx]
end
end Go.Proofs.YtiallkiiofomgaaGreat
