/- What the program's own names stand for; operations that only compute are right. -/
import Derived.Test.YtiallkiiofomgaaGreatYa
namespace Go.Proofs.YtiallkiiofomgaaGreat
/-- which block a name stands for; how many elements it has room for -/
abbrev Rho := Nat → Option (Nat × Nat)
def Rho.le (ρ σ : Rho) : Prop := ∀ i p, ρ i = some p → σ i = some p
theorem Rho.le.refl (ρ : Rho) : ρ.le ρ := fun _ _ h => h
theorem Rho.le.trans {ρ σ τ : Rho} (h : ρ.le σ) (k : σ.le τ) : ρ.le τ := fun i p e => k i p (h i p e)
inductive RV (ρ : Rho) : Value → Value → Prop
  | k (x : Value) (h : clo x = true) : RV ρ x x
  | p (b o : Nat) (p : Nat × Nat) (h : ρ b = some p) : RV ρ (.pointer (some ⟨b, o, none⟩)) (.pointer (some ⟨p.1, o, none⟩))
  | s (b o n c c' : Nat) (p : Nat × Nat) (h : ρ b = some p) (hn : n ≤ c') (hc : c' = c ∨ c = 0 ∧ (o = 0 → c' = p.2)) : RV ρ (.slice (some ⟨b, o, none⟩) n c) (.slice (some ⟨p.1, o, none⟩) n c')
  | m (b : Nat) (p : Nat × Nat) (h : ρ b = some p) : RV ρ (.map (some b)) (.map (some p.1))
  | f (g : FuncId) (l r l' r' : Array Value) (hl : l.size = l'.size) (hr : r.size = r'.size) (h1 : ∀ (i : Nat) x y, l[i]? = some x → l'[i]? = some y → RV ρ x y) (h2 : ∀ (i : Nat) x y, r[i]? = some x → r'[i]? = some y → RV ρ x y) : RV ρ (.func (.func g) l r) (.func (.func g) l' r')
  | i (t : TypeId) (x y : Value) (h : RV ρ x y) : RV ρ (.iface t x) (.iface t y)
inductive RA (ρ : Rho) : AV → AV → Prop
  | any (a : AV) : RA ρ .any a
  | v (x y : Value) (h : RV ρ x y) : RA ρ (.v x) (.v y)
  | sl (x : Bool) (l m : List (List AV)) (hl : l.length = m.length) (hr : ∀ (i : Nat) r t, l[i]? = some r → m[i]? = some t → r.length = t.length) (h : ∀ (i k : Nat) r t a b, l[i]? = some r → m[i]? = some t → r[k]? = some a → t[k]? = some b → RA ρ a b) : RA ρ (.sl x l) (.sl x m)
  | ep (l m : List (List AV)) (i k : Nat) (hl : l.length = m.length) (hr : ∀ (i : Nat) r t, l[i]? = some r → m[i]? = some t → r.length = t.length) (h : ∀ (i k : Nat) r t a b, l[i]? = some r → m[i]? = some t → r[k]? = some a → t[k]? = some b → RA ρ a b) : RA ρ (.ep l i k) (.ep m i k)
  | agg (l m : List AV) (hl : l.length = m.length) (h : ∀ (i : Nat) a b, l[i]? = some a → m[i]? = some b → RA ρ a b) : RA ρ (.agg l) (.agg m)
  | tup (l m : List AV) (hl : l.length = m.length) (h : ∀ (i : Nat) a b, l[i]? = some a → m[i]? = some b → RA ρ a b) : RA ρ (.tup l) (.tup m)
def RAs (ρ : Rho) (l m : List AV) : Prop := l.length = m.length ∧ ∀ (i : Nat) a b, l[i]? = some a → m[i]? = some b → RA ρ a b
/-- more may lie behind -/
def RAp (ρ : Rho) (l m : List AV) : Prop := l.length ≤ m.length ∧ ∀ (i : Nat) a b, l[i]? = some a → m[i]? = some b → RA ρ a b
def RAss (ρ : Rho) (l m : List (List AV)) : Prop := l.length = m.length ∧ ∀ (i : Nat) r t, l[i]? = some r → m[i]? = some t → RAs ρ r t
section
variable {ρ σ : Rho}
theorem RV.mono (h : ρ.le σ) {x y : Value} (r : RV ρ x y) : RV σ x y := by
  induction r with
  | k x e => exact .k x e
  | p b o p e => exact .p b o p (h _ _ e)
  | s b o n c c' p e hn hc => exact .s b o n c c' p (h _ _ e) hn hc
  | m b p e => exact .m b p (h _ _ e)
  | f g l r l' r' hl hr _ _ i1 i2 => exact .f g l r l' r' hl hr i1 i2
  | i t x y _ ih => exact .i t x y ih
theorem RA.mono (h : ρ.le σ) {a b : AV} (r : RA ρ a b) : RA σ a b := by
  induction r with
  | any a => exact .any a
  | v x y e => exact .v x y (e.mono h)
  | sl x l m hl hr _ ih => exact .sl x l m hl hr ih
  | ep l m i k hl hr _ ih => exact .ep l m i k hl hr ih
  | agg l m hl _ ih => exact .agg l m hl ih
  | tup l m hl _ ih => exact .tup l m hl ih
theorem RAs.mono (h : ρ.le σ) {l m : List AV} (r : RAs ρ l m) : RAs σ l m := ⟨r.1, fun i a b e g => (r.2 i a b e g).mono h⟩
theorem RAp.mono (h : ρ.le σ) {l m : List AV} (r : RAp ρ l m) : RAp σ l m := ⟨r.1, fun i a b e g => (r.2 i a b e g).mono h⟩
theorem RAs.p {l m : List AV} (h : RAs ρ l m) : RAp ρ l m := ⟨Nat.le_of_eq h.1, h.2⟩
theorem RAs.nil : RAs ρ [] [] := ⟨rfl, by simp⟩
theorem RAs.cons {a b : AV} {l m : List AV} (h : RA ρ a b) (k : RAs ρ l m) : RAs ρ (a :: l) (b :: m) := ⟨by simp [k.1], fun i => by
  cases i with
  | zero => intro x y e g; simp at e g; subst e g; exact h
  | succ i => intro x y e g; exact k.2 i x y (by simpa using e) (by simpa using g)⟩
theorem RAs.cons_inv {a : AV} {l m : List AV} (h : RAs ρ (a :: l) m) : ∃ b t, m = b :: t ∧ RA ρ a b ∧ RAs ρ l t := by
  cases m with
  | nil => have := h.1; simp at this
  | cons b t => exact ⟨b, t, rfl, h.2 0 a b rfl rfl, by have := h.1; simpa using this, fun i x y e g => h.2 (i + 1) x y (by simpa using e) (by simpa using g)⟩
theorem RAs.nil_inv {m : List AV} (h : RAs ρ [] m) : m = [] := by have := h.1; exact List.eq_nil_of_length_eq_zero this.symm
theorem RAs.append {l m l' m' : List AV} (h : RAs ρ l m) (k : RAs ρ l' m') : RAs ρ (l ++ l') (m ++ m') := ⟨by simp [h.1, k.1], fun i a b e g => by
  rw [List.getElem?_append] at e g
  rw [← h.1] at g
  split at e
  · rw [if_pos (by assumption)] at g; exact h.2 i a b e g
  · rw [if_neg (by assumption)] at g; exact k.2 _ a b e g⟩
theorem RAp.take {l m : List AV} (h : RAp ρ l m) {n : Nat} (hn : n ≤ l.length) : RAs ρ (l.take n) (m.take n) := ⟨by have := h.1; simp; omega, fun i a b e g => by
  rw [List.getElem?_take] at e g
  split at e
  · rw [if_pos (by assumption)] at g; exact h.2 i a b e g
  · cases e⟩
theorem RAs.take {l m : List AV} (h : RAs ρ l m) (n : Nat) : RAs ρ (l.take n) (m.take n) := ⟨by simp [h.1], fun i a b e g => by
  rw [List.getElem?_take] at e g
  split at e
  · rw [if_pos (by assumption)] at g; exact h.2 i a b e g
  · cases e⟩
theorem RAp.drop {l m : List AV} (h : RAp ρ l m) (n : Nat) : RAp ρ (l.drop n) (m.drop n) := ⟨by have := h.1; simp; omega, fun i a b e g => by
  rw [List.getElem?_drop] at e g
  exact h.2 _ a b e g⟩
theorem RAs.drop {l m : List AV} (h : RAs ρ l m) (n : Nat) : RAs ρ (l.drop n) (m.drop n) := ⟨by simp [h.1], fun i a b e g => by
  rw [List.getElem?_drop] at e g
  exact h.2 _ a b e g⟩
theorem RAs.get {l m : List AV} (h : RAs ρ l m) {i : Nat} {a : AV} (e : l[i]? = some a) : ∃ b, m[i]? = some b ∧ RA ρ a b := by
  have hi : i < m.length := by rw [← h.1]; exact (List.getElem?_eq_some_iff.1 e).1
  exact ⟨m[i], List.getElem?_eq_getElem hi, h.2 i a _ e (List.getElem?_eq_getElem hi)⟩
theorem RAp.get {l m : List AV} (h : RAp ρ l m) {i : Nat} {a : AV} (e : l[i]? = some a) : ∃ b, m[i]? = some b ∧ RA ρ a b := by
  have hi : i < m.length := Nat.lt_of_lt_of_le (List.getElem?_eq_some_iff.1 e).1 h.1
  exact ⟨m[i], List.getElem?_eq_getElem hi, h.2 i a _ e (List.getElem?_eq_getElem hi)⟩
theorem RAs.set {l m : List AV} (h : RAs ρ l m) (i : Nat) {a b : AV} (k : RA ρ a b) : RAs ρ (l.set i a) (m.set i b) := ⟨by simp [h.1], fun j x y e g => by
  rw [List.getElem?_set] at e g
  rw [← h.1] at g
  split at e
  · rw [if_pos (by assumption)] at g
    split at e
    · rw [if_pos (by assumption)] at g; cases e; cases g; exact k
    · cases e
  · rw [if_neg (by assumption)] at g; exact h.2 j x y e g⟩
theorem RAs.splice {l m l' m' : List AV} (h : RAs ρ l m) (o : Nat) (k : RAs ρ l' m') : RAs ρ (splice l o l') (splice m o m') := by
  cases l' with
  | nil => rw [k.nil_inv]; exact ((h.take o).append RAs.nil).append (h.drop _)
  | cons a l' =>
    obtain ⟨b, t, rfl, hab, ht⟩ := k.cons_inv
    cases l' with
    | nil => rw [ht.nil_inv]; exact h.set o hab
    | cons a2 l' =>
      obtain ⟨b2, t2, rfl, hab2, ht2⟩ := ht.cons_inv
      have hl : (a :: a2 :: l').length = (b :: b2 :: t2).length := k.1
      show RAs ρ (l.take o ++ (a :: a2 :: l') ++ l.drop (o + (a :: a2 :: l').length)) (m.take o ++ (b :: b2 :: t2) ++ m.drop (o + (b :: b2 :: t2).length))
      rw [← hl]
      exact ((h.take o).append k).append (h.drop _)
-- what a value says of its double
theorem RA.v_inv {x : Value} {c : AV} (h : RA ρ (.v x) c) : ∃ y, c = .v y ∧ RV ρ x y := by cases h with | v _ y h => exact ⟨y, rfl, h⟩
theorem RV.int_inv {q : IntKind} {n : Int} {y : Value} (h : RV ρ (.int q n) y) : y = .int q n := by cases h; rfl
theorem RV.bool_inv {b : Bool} {y : Value} (h : RV ρ (.bool b) y) : y = .bool b := by cases h; rfl
theorem RV.str_inv {b : ByteArray} {y : Value} (h : RV ρ (.string b) y) : y = .string b := by cases h; rfl
theorem RA.int_inv {q : IntKind} {n : Int} {c : AV} (h : RA ρ (.v (.int q n)) c) : c = .v (.int q n) := by obtain ⟨y, rfl, k⟩ := h.v_inv; rw [RV.int_inv k]
theorem RA.bool_inv {b : Bool} {c : AV} (h : RA ρ (.v (.bool b)) c) : c = .v (.bool b) := by obtain ⟨y, rfl, k⟩ := h.v_inv; rw [RV.bool_inv k]
theorem RA.str_inv {b : ByteArray} {c : AV} (h : RA ρ (.v (.string b)) c) : c = .v (.string b) := by obtain ⟨y, rfl, k⟩ := h.v_inv; rw [RV.str_inv k]
theorem RA.nil_inv {n c : Nat} {a : AV} (h : RA ρ (.v (.slice none n c)) a) : a = .v (.slice none n c) := by obtain ⟨y, rfl, k⟩ := h.v_inv; cases k; rfl
theorem RA.ptr_inv {b o : Nat} {a : AV} (h : RA ρ (.v (.pointer (some ⟨b, o, none⟩))) a) : ∃ p, ρ b = some p ∧ a = .v (.pointer (some ⟨p.1, o, none⟩)) := by
  obtain ⟨y, rfl, k⟩ := h.v_inv
  cases k with
  | k _ e => cases e
  | p _ _ p e => exact ⟨p, e, rfl⟩
theorem RA.sli_inv {b o n c : Nat} {a : AV} (h : RA ρ (.v (.slice (some ⟨b, o, none⟩) n c)) a) : ∃ p c', ρ b = some p ∧ n ≤ c' ∧ (c' = c ∨ c = 0 ∧ (o = 0 → c' = p.2)) ∧ a = .v (.slice (some ⟨p.1, o, none⟩) n c') := by
  obtain ⟨y, rfl, k⟩ := h.v_inv
  cases k with
  | k _ e => cases e
  | s _ _ _ _ c' p e hn hc => exact ⟨p, c', e, hn, hc, rfl⟩
theorem RA.map_inv {b : Nat} {a : AV} (h : RA ρ (.v (.map (some b))) a) : ∃ p, ρ b = some p ∧ a = .v (.map (some p.1)) := by
  obtain ⟨y, rfl, k⟩ := h.v_inv
  cases k with
  | k _ e => cases e
  | m _ p e => exact ⟨p, e, rfl⟩
theorem RA.fn_inv {g : FuncId} {l r : Array Value} {a : AV} (h : RA ρ (.v (.func (.func g) l r)) a) : ∃ l' r', RAs ρ (l.toList.map .v) (l'.toList.map .v) ∧ RAs ρ (r.toList.map .v) (r'.toList.map .v) ∧ a = .v (.func (.func g) l' r') := by
  obtain ⟨y, rfl, k⟩ := h.v_inv
  cases k with
  | k _ e => cases e
  | f _ _ _ l' r' hl hr h1 h2 =>
    refine ⟨l', r', ⟨by simpa using hl, fun i a b e g => ?_⟩, ⟨by simpa using hr, fun i a b e g => ?_⟩, rfl⟩
    · simp only [List.getElem?_map, Option.map_eq_some_iff] at e g
      obtain ⟨x, e, rfl⟩ := e
      obtain ⟨y, g, rfl⟩ := g
      exact .v _ _ (h1 i x y (by simpa using e) (by simpa using g))
    · simp only [List.getElem?_map, Option.map_eq_some_iff] at e g
      obtain ⟨x, e, rfl⟩ := e
      obtain ⟨y, g, rfl⟩ := g
      exact .v _ _ (h2 i x y (by simpa using e) (by simpa using g))
theorem RA.if_inv {t : TypeId} {x : Value} {a : AV} (h : RA ρ (.v (.iface t x)) a) : ∃ y, RV ρ x y ∧ a = .v (.iface t y) := by
  obtain ⟨y, rfl, k⟩ := h.v_inv
  cases k with
  | k _ e => cases e
  | i _ _ y e => exact ⟨y, e, rfl⟩
theorem RA.agg_inv {l : List AV} {a : AV} (h : RA ρ (.agg l) a) : ∃ m, RAs ρ l m ∧ a = .agg m := by cases h with | agg _ m hl h => exact ⟨m, ⟨hl, h⟩, rfl⟩
theorem RA.tup_inv {l : List AV} {a : AV} (h : RA ρ (.tup l) a) : ∃ m, RAs ρ l m ∧ a = .tup m := by cases h with | tup _ m hl h => exact ⟨m, ⟨hl, h⟩, rfl⟩
theorem RA.sl_inv {x : Bool} {l : List (List AV)} {a : AV} (h : RA ρ (.sl x l) a) : ∃ m, RAss ρ l m ∧ a = .sl x m := by
  cases h with | sl _ _ m hl hr h => exact ⟨m, ⟨hl, fun i r t e g => ⟨hr i r t e g, fun k a b e' g' => h i k r t a b e g e' g'⟩⟩, rfl⟩
theorem RA.ep_inv {l : List (List AV)} {i k : Nat} {a : AV} (h : RA ρ (.ep l i k) a) : ∃ m, RAss ρ l m ∧ a = .ep m i k := by
  cases h with | ep _ m _ _ hl hr h => exact ⟨m, ⟨hl, fun i r t e g => ⟨hr i r t e g, fun k a b e' g' => h i k r t a b e g e' g'⟩⟩, rfl⟩
theorem RAss.sl {l m : List (List AV)} (h : RAss ρ l m) (x : Bool) : RA ρ (.sl x l) (.sl x m) := .sl x l m h.1 (fun i r t e g => (h.2 i r t e g).1) fun i k r t a b e g e' g' => (h.2 i r t e g).2 k a b e' g'
theorem RAss.ep {l m : List (List AV)} (h : RAss ρ l m) (i k : Nat) : RA ρ (.ep l i k) (.ep m i k) := .ep l m i k h.1 (fun i r t e g => (h.2 i r t e g).1) fun i k r t a b e g e' g' => (h.2 i r t e g).2 k a b e' g'
theorem RAs.agg {l m : List AV} (h : RAs ρ l m) : RA ρ (.agg l) (.agg m) := .agg l m h.1 h.2
theorem RAs.tup {l m : List AV} (h : RAs ρ l m) : RA ρ (.tup l) (.tup m) := .tup l m h.1 h.2
theorem RAss.get {l m : List (List AV)} (h : RAss ρ l m) {i : Nat} {r : List AV} (e : l[i]? = some r) : ∃ t, m[i]? = some t ∧ RAs ρ r t := by
  have hi : i < m.length := by rw [← h.1]; exact (List.getElem?_eq_some_iff.1 e).1
  exact ⟨m[i], List.getElem?_eq_getElem hi, h.2 i r _ e (List.getElem?_eq_getElem hi)⟩
theorem RAss.tk {l m : List (List AV)} (h : RAss ρ l m) (n : Nat) : RAss ρ (l.take n) (m.take n) := ⟨by simp [h.1], fun i r t e g => by
  rw [List.getElem?_take] at e g
  split at e
  · rw [if_pos (by assumption)] at g; exact h.2 i r t e g
  · cases e⟩
theorem RAss.dp {l m : List (List AV)} (h : RAss ρ l m) (n : Nat) : RAss ρ (l.drop n) (m.drop n) := ⟨by simp [h.1], fun i r t e g => by
  rw [List.getElem?_drop] at e g; exact h.2 _ r t e g⟩
theorem RAss.rows {l m : List (List AV)} (h : RAss ρ l m) {n : Nat} (k : ∀ r ∈ l, r.length = n) : ∀ r ∈ m, r.length = n := fun t ht => by
  obtain ⟨i, hi⟩ := List.getElem?_of_mem ht
  have hl : i < l.length := by rw [h.1]; exact (List.getElem?_eq_some_iff.1 hi).1
  rw [← (h.2 i _ t (List.getElem?_eq_getElem hl) hi).1]
  exact k _ (List.getElem_mem hl)
theorem RAss.flat {l m : List (List AV)} (h : RAss ρ l m) : RAs ρ l.flatten m.flatten := by
  induction l generalizing m with
  | nil => have := List.eq_nil_of_length_eq_zero h.1.symm; subst this; exact RAs.nil
  | cons r l ih =>
    cases m with
    | nil => have := h.1; simp at this
    | cons t m => exact (h.2 0 r t rfl rfl).append (ih ⟨by have := h.1; simpa using this, fun i a b e g => h.2 (i + 1) a b (by simpa using e) (by simpa using g)⟩)
/-- nothing is said under a test -/
theorem RA.nrm_eq {a b : AV} (h : RA ρ a b) (ha : a ≠ .any) : nrm b = b := by cases h <;> first | rfl | exact absurd rfl ha
theorem RA.str_eq {a b : AV} (h : RA ρ a b) (ha : a ≠ .any) (A : Bool) : str A b = b := by cases h <;> first | rfl | exact absurd rfl ha
theorem RA.nrm {a b : AV} (h : RA ρ a b) : RA ρ a (nrm b) := by
  by_cases ha : a = .any
  · subst ha; exact .any _
  · rw [h.nrm_eq ha]; exact h
theorem RV.nl {x y : Value} (h : RV ρ x y) : nlV y = nlV x := by cases h <;> rfl
theorem RA.nl {a b : AV} (h : RA ρ a b) {q : Nat × Bool} (k : xnl a = some q) : nlA b = some q := by
  cases h with
  | any => cases k
  | v x y h => exact h.nl.trans k
  | sl x l m hl hr h => cases l with
    | nil => cases k
    | cons r l => cases m with
      | nil => simp at hl
      | cons t m => exact k
  | ep => exact k
  | agg => cases k
  | tup => cases k
-- constants
theorem xcv_ra (x : Value) : RA ρ (xcv x) (ofVal x) := by
  have one : ∀ x : Value, RA ρ (if clo x then .v x else .any) (.v x) := fun x => by
    split
    · rename_i h; exact .v _ _ (.k _ h)
    · exact .any _
  unfold xcv ofVal
  cases x with
  | agg cs =>
    dsimp only
    split
    · rename_i h
      have h' : ∀ x ∈ cs.toList, clo x = true ∧ x.oneCell' = true := fun x hx => by have := List.all_eq_true.1 h x hx; simpa using this
      rw [if_pos (List.all_eq_true.2 fun x hx => (h' x hx).2)]
      refine RAs.agg ⟨rfl, fun i a b e g => ?_⟩
      rw [e] at g; cases g
      rw [List.getElem?_map, Option.map_eq_some_iff] at e
      obtain ⟨y, hy, rfl⟩ := e
      exact .v _ _ (.k _ (h' y (List.mem_of_getElem? hy)).1)
    · exact .any _
  | _ => exact one _
/-- temporaries, but some -/
def FR (ρ : Rho) (fr : Tr AV) (fr' : Fr) (D : List Nat) : Prop := ∀ t x, t ∉ D → fr.get t = some x → RA ρ x (fr' t)
theorem FR.ev {fr : Tr AV} {fr' : Fr} {D : List Nat} (h : FR ρ fr fr' D) {x : Operand} (hx : ∀ t, x = .tmp t → t ∉ D) : RA ρ (xev fr x) (aev fr' x) := by
  cases x with
  | tmp t =>
    show RA ρ ((fr.get t).getD .any) (fr' t)
    cases e : fr.get t with
    | none => exact .any _
    | some y => exact h t y (hx t rfl) e
  | const x => exact xcv_ra x
  | global g => exact .any _
  | func g => exact .v _ _ (.f g #[] #[] #[] #[] rfl rfl (by simp) (by simp))
end
end Go.Proofs.YtiallkiiofomgaaGreat
