/- Abstract values: append, copy, make, strings. -/
import Derived.Test.YtiallkiiofomgaaGreatVg
import Derived.Laws.Append
import Derived.Laws.AppendOwn
import Derived.Deep.Upon
import Derived.Laws.MakeOwn
namespace Go.Proofs.YtiallkiiofomgaaGreat
def byt (b : UInt8) : List AV := [.v (.int .u8 b.toNat)]
/-- what is appended, as rows -/
def asrcO (n o : Nat) : Option AO → Option (List (List AV))
  | some (.cells _ l) => if o + n ≤ l.length then some (((l.drop o).take n).map fun a => [a]) else none
  | _ => none
def asrc (H : Hp) : AV → Option (List (List AV))
  | .v (.slice none 0 0) => some []
  | .v (.slice (some ⟨b, o, none⟩) n _) => asrcO n o (H b)
  | .v (.string s) => some (s.data.toList.map byt)
  | .sl _ l => some l
  | _ => none
/-- a list in rows of so many -/
def rowsOf (sz : Nat) : Nat → List AV → List (List AV)
  | 0, _ => []
  | n + 1, l => l.take sz :: rowsOf sz n (l.drop sz)
theorem rowsOf_len (sz : Nat) : ∀ (n : Nat) (l : List AV), (rowsOf sz n l).length = n
  | 0, _ => rfl
  | n + 1, l => by simp [rowsOf, rowsOf_len sz n]
theorem rowsOf_flat (sz : Nat) : ∀ (n : Nat) (l : List AV), n * sz ≤ l.length → (rowsOf sz n l).flatten = l.take (n * sz)
  | 0, _, _ => by simp [rowsOf]
  | n + 1, l, h => by
    rw [Nat.add_mul, Nat.one_mul] at h ⊢
    rw [rowsOf, List.flatten_cons, rowsOf_flat sz n (l.drop sz) (by simp; omega), Nat.add_comm, List.take_add]
/-- what is appended, in rows of any size -/
def asrcG (sz : Nat) (H : Hp) : AV → Option (List (List AV))
  | .v (.slice none 0 0) => some []
  | .v (.slice (some ⟨b, o, none⟩) n _) => match H b with
    | some (.cells _ l) => if o + n * sz ≤ l.length then some (rowsOf sz n (l.drop o)) else none
    | _ => none
  | .v (.string s) => some (s.data.toList.map byt)
  | .sl _ l => some l
  | _ => none
/-- a row that grows, and room behind it -/
def buf (l : List AV) (n : Nat) : List AV := l ++ List.replicate n .any
def egrow (te sz : Nat) (Wr : Nat → Prop) (n : Nat) (l : List AV) (H : Hp) (k : AV → Hp → Prop) : Prop :=
  ∀ b c, H b = none → Wr b → n ≤ c → 0 < c → k (.v (.slice (some ⟨b, 0, none⟩) n c)) (hset H b (.cells te (buf l ((c - n) * sz))))
def eapO (te sz : Nat) (Wr : Nat → Prop) (b n c : Nat) (m : List (List AV)) (H : Hp) : Option AO → (AV → Hp → Prop) → Prop
  | some (.cells T l), k => (T = te ∧ Wr b ∧ n ≤ c ∧ l.length = c * sz ∧ 0 < c) ∧ egrow te sz Wr (n + m.length) (l.take (n * sz) ++ m.flatten) (hdel H b) k
  | _, _ => False
/-- onto an object whose room is all there is, or is too little -/
def eapOG (te sz : Nat) (Wr : Nat → Prop) (b n c : Nat) (m : List (List AV)) (H : Hp) : Option AO → (AV → Hp → Prop) → Prop
  | some (.cells T l), k => (T = te ∧ Wr b ∧ n ≤ c ∧ (l.length = c * sz ∧ (0 < c ∨ m ≠ []) ∨ c < n + m.length ∧ c * sz ≤ l.length)) ∧ egrow te sz Wr (n + m.length) (l.take (n * sz) ++ m.flatten) (hdel H b) k
  | _, _ => False
theorem eapO.g {te sz b n c : Nat} {Wr : Nat → Prop} {m : List (List AV)} {H : Hp} {O : Option AO} {k : AV → Hp → Prop} (h : eapO te sz Wr b n c m H O k) : eapOG te sz Wr b n c m H O k := by
  unfold eapO at h
  split at h
  · obtain ⟨⟨h1, h2, h3, h4, h5⟩, h⟩ := h; exact ⟨⟨h1, h2, h3, .inl ⟨h4, .inl h5⟩⟩, h⟩
  · exact h.elim
/-- onto a row that is only read: one that is only read; or a new object -/
def eapS (te sz by_ : Nat) (Wr : Nat → Prop) (l m : List (List AV)) (H : Hp) (k : AV → Hp → Prop) : Prop :=
  ((∀ r ∈ l, r.length = sz) ∧ (l.length + m.length) * by_ ≤ 140737488355328 ∧ l.length + m.length ≤ 9223372036854775807) ∧ (k (.sl false (l ++ m)) H ∨ ((m = [] → k (.sl true l) H) ∧ (m ≠ [] → egrow te sz Wr (l.length + m.length) (l.flatten ++ m.flatten) H k)))
def eap (e : Option (TypeId × Nat × Nat)) (zk : Bool) (tn : Nat) (Wr : Nat → Prop) (x : AV) (y : Option (List (List AV))) (H : Hp) (k : AV → Hp → Prop) : Prop := match e, y with
  | some (te, sz, by_), some m => (zk = true ∧ (tn = 2 ∨ tn = 7) ∧ 0 < sz ∧ ∀ r ∈ m, r.length = sz) ∧ (match x with
    | .sl true l => eapS te sz by_ Wr l m H k
    | .v (.slice none 0 0) => (m.length * by_ ≤ 140737488355328 ∧ m.length ≤ 9223372036854775807) ∧ (m = [] → k (.v (.slice none 0 0)) H) ∧ (m ≠ [] → egrow te sz Wr m.length m.flatten H k)
    | .v (.slice (some ⟨b, 0, none⟩) n c) => ((n + m.length) * by_ ≤ 140737488355328 ∧ n + m.length ≤ 9223372036854775807) ∧ eapO te sz Wr b n c m H (H b) k
    | _ => False)
  | _, _ => False
def eapG (e : Option (TypeId × Nat × Nat)) (zk : Bool) (tn : Nat) (Wr : Nat → Prop) (x : AV) (y : Option (List (List AV))) (H : Hp) (k : AV → Hp → Prop) : Prop := match e, y with
  | some (te, sz, by_), some m => (zk = true ∧ (tn = 2 ∨ tn = 7) ∧ 0 < sz ∧ ∀ r ∈ m, r.length = sz) ∧ (match x with
    | .sl true l => eapS te sz by_ Wr l m H k
    | .v (.slice none 0 0) => (m.length * by_ ≤ 140737488355328 ∧ m.length ≤ 9223372036854775807) ∧ (m = [] → k (.v (.slice none 0 0)) H) ∧ (m ≠ [] → egrow te sz Wr m.length m.flatten H k)
    | .v (.slice (some ⟨b, 0, none⟩) n c) => ((n + m.length) * by_ ≤ 140737488355328 ∧ n + m.length ≤ 9223372036854775807) ∧ eapOG te sz Wr b n c m H (H b) k
    | _ => False)
  | _, _ => False
theorem eap.g {e : Option (TypeId × Nat × Nat)} {zk : Bool} {tn : Nat} {Wr : Nat → Prop} {x : AV} {y : Option (List (List AV))} {H : Hp} {k : AV → Hp → Prop} (h : eap e zk tn Wr x y H k) : eapG e zk tn Wr x y H k := by
  unfold eap at h
  unfold eapG
  split at h
  · obtain ⟨h1, h⟩ := h
    refine ⟨h1, ?_⟩
    split at h
    · exact h
    · exact h
    · exact ⟨h.1, h.2.g⟩
    · exact h.elim
  · exact h.elim
/-- copy(x, y) -/
def ecpO (sz b o n : Nat) (m : List (List AV)) (H : Hp) : Option AO → (AV → Hp → Prop) → Prop
  | some (.cells T l), k => o + n * sz ≤ l.length ∧ k (.v (.int .i64 (min m.length n : Nat))) (hset H b (.cells T (l.take o ++ (m.take n).flatten ++ l.drop (o + (min m.length n) * sz))))
  | _, _ => False
def ecp (e : Option (TypeId × Nat × Nat)) (tn : Nat) (Wr : Nat → Prop) (x : AV) (y : Option (List (List AV))) (H : Hp) (k : AV → Hp → Prop) : Prop := match e, y with
  | some (te, sz, by_), some m => ((tn = 2 ∨ tn = 7) ∧ 0 < sz ∧ ∀ r ∈ m, r.length = sz) ∧ (match x with
    | .v (.slice none 0 0) => k (.v (.int .i64 0)) H
    | .v (.slice (some ⟨b, o, none⟩) n _) => Wr b ∧ ecpO sz b o n m H (H b) k
    | _ => False)
  | _, _ => False
/-- make([]T, n, c): elements of one cell -/
def emk (e : Option (TypeId × Nat × Nat)) (z : Option (List AV)) (Wr : Nat → Prop) (l c : Option Int) (H : Hp) (k : AV → Hp → Prop) : Prop := match e, z, l, c with
  | some (te, 1, by_), some [z], some l, some c => (0 ≤ l ∧ l ≤ c ∧ (by_ : Int) * c ≤ 281474976710656 ∧ c ≤ 9223372036854775807) ∧ ∀ b, H b = none → Wr b → k (.v (.slice (some ⟨b, 0, none⟩) l.toNat c.toNat)) (hset H b (.cells te (List.replicate c.toNat z)))
  | _, _, _, _ => False
def tZe (P : Program) : Option (TypeId × Nat × Nat) → Option (List AV)
  | some (te, _) => zcells (tZ P te)
  | none => none
section
variable {P : Program} {s : Sto} {w : World} {own : Nat → Option Nat} {H : Hp} {Wr : Nat → Prop}
theorem flat_len {l : List (List AV)} {sz : Nat} (h : ∀ r ∈ l, r.length = sz) : l.flatten.length = l.length * sz := by
  induction l with
  | nil => simp
  | cons r l ih => simp [h r (by simp), ih (fun r hr => h r (by simp [hr])), Nat.add_mul, Nat.add_comm]
/-- a row that is only read, cell by cell -/
theorem row_cells {l : List (List AV)} {es b o : Nat} {f : Nat → Nat → Value} (h1 : ∀ r ∈ l, r.length = es) (h2 : ∀ (i k : Nat) r, l[i]? = some r → k < es → s b (o + i * es + k) = some (f i k)) (h3 : ∀ (i k : Nat) r a, l[i]? = some r → r[k]? = some a → Rep s a (f i k)) :
    ∃ vs : List Value, vs.length = l.length * es ∧ Reps s l.flatten vs ∧ ∀ j y, vs[j]? = some y → s b (o + j) = some y := by
  induction l generalizing o f with
  | nil => exact ⟨[], by simp, Reps.nil s, by simp⟩
  | cons r l ih =>
    have hr := h1 r (by simp)
    obtain ⟨vs, g1, g2, g3⟩ := ih (o := o + es) (f := fun i k => f (i + 1) k) (fun r hr => h1 r (by simp [hr])) (fun i k q hq hk => by
      have := h2 (i + 1) k q (by simpa using hq) hk
      rw [← this, Nat.add_mul]; congr 1; omega) (fun i k q a hq ha => h3 (i + 1) k q a (by simpa using hq) ha)
    refine ⟨(List.range es).map (f 0) ++ vs, by simp [g1, Nat.add_mul, Nat.add_comm], ?_, fun j y hj => ?_⟩
    · simp only [List.flatten_cons]
      refine Reps.append ⟨by simp [hr], fun k a x e g => ?_⟩ g2
      rw [List.getElem?_map, Option.map_eq_some_iff] at g
      obtain ⟨z, hz, rfl⟩ := g
      obtain ⟨hlt, hz⟩ := List.getElem?_eq_some_iff.1 hz
      simp at hz; subst hz
      exact h3 0 _ r a (by simp) e
    · rw [List.getElem?_append] at hj
      split at hj
      · rename_i hlt
        rw [List.getElem?_map, Option.map_eq_some_iff] at hj
        obtain ⟨z, hz, rfl⟩ := hj
        obtain ⟨hlt, hz⟩ := List.getElem?_eq_some_iff.1 hz
        simp at hz hlt; subst hz
        have := h2 0 j r (by simp) hlt
        simpa using this
      · rename_i hlt
        have := g3 _ y hj
        rw [← this]; congr 1
        simp at hlt ⊢; omega
theorem reps_one {l : List AV} : (l.map fun a => [a]).flatten = l := by induction l <;> simp_all
theorem asrc_sound {t : TypeId} {v : Value} {y : AV} {m : List (List AV)} {sz : Nat} (hk : tN P t = 2 ∨ tN P t = 7) (hst : St w s own H) (r : Rep s y v) (h : asrc H y = some m) (hsz : ∀ r ∈ m, r.length = sz) (hs : 0 < sz) : ∃ news, Src P sz t v m.length news w ∧ Reps s m.flatten news ∧ news.length = m.length * sz ∧ (∀ x ∈ news, x.oneCell' = true) ∧ ∀ k, k ≤ m.length → (Builtin.firstCells sz k v).run P w = .ok (news.take (k * sz)).toArray w := by
  have hk' : (∃ e', P.underlying t = some (.slice e')) ∨ P.underlying t = some .string := by
    rcases hk with h | h <;> (obtain ⟨d, hd⟩ := tN_und h (by decide)) <;> unfold tN at h <;> rw [hd] at h <;> cases d <;> first | (cases h; done) | exact .inl ⟨_, hd⟩ | exact .inr hd
  unfold asrc at h
  split at h
  · cases h
    rw [r.v_inv]
    exact ⟨[], ⟨hk', fun w' => rfl, rfl, rfl, by simp, by simp⟩, Reps.nil s, by simp, by simp, fun k hk => by simp [Builtin.firstCells]⟩
  · rename_i b o n c
    rw [r.v_inv]
    unfold asrcO at h
    split at h
    · rename_i T l hb
      split at h
      · rename_i hle
        cases h
        obtain ⟨ho, vs, hv, rl, r1⟩ := hst.obj b _ hb
        have hvl : vs.length = l.length := rl.1
        have hnl : ((vs.drop o).take n).length = n := by simp; omega
        have hml : (((l.drop o).take n).map fun a => [a]).length = n := by simp; omega
        have hsz1 : n = 0 ∨ sz = 1 := by
          rcases Nat.eq_zero_or_pos n with h0 | h0
          · exact .inl h0
          · refine .inr ?_
            have hl0 : 0 < ((l.drop o).take n).length := by simp; omega
            have := hsz [((l.drop o).take n)[0]] (List.mem_map.2 ⟨_, List.getElem_mem hl0, rfl⟩)
            simpa using this.symm
        have hlen : ((vs.drop o).take n).length = n * sz := by rw [hnl]; rcases hsz1 with h | h <;> simp [h]
        have h1 : ∀ x ∈ (vs.drop o).take n, x.oneCell' = true := fun x hx => r1 x (List.mem_of_mem_drop (List.mem_of_mem_take hx))
        have hc : ∀ j y, ((vs.drop o).take n)[j]? = some y → w.cell? ((⟨b, o, none⟩ : Addr).add j) = some y := fun j y hy => by
          rw [List.getElem?_take] at hy
          split at hy
          · rw [List.getElem?_drop] at hy
            rw [addr_add]
            simp [World.cell?, hv, hy]
          · cases hy
        rw [hml]
        refine ⟨(vs.drop o).take n, ⟨hk', fun _ => rfl, run_firstCells_some w sz n ⟨b, o, none⟩ n c _ hlen hc, run_firstCells_some w.drew sz n ⟨b, o, none⟩ n c _ hlen (fun j y hy => by simpa using hc j y hy), hlen, h1⟩, ?_, hlen, h1, fun k hk => ?_⟩
        rotate_left
        · refine run_firstCells_some w sz k ⟨b, o, none⟩ n c _ ?_ (fun j y hy => hc j y ?_)
          · rw [List.length_take, hlen]; exact Nat.min_eq_left (Nat.mul_le_mul_right _ hk)
          · rw [List.getElem?_take] at hy
            split at hy
            · exact hy
            · cases hy
        rw [reps_one]
        exact (rl.drop o).take n
      · cases h
    · cases h
  · cases h
    rename_i t
    rw [r.v_inv]
    have hfl : (t.data.toList.map byt).flatten = t.data.toList.map fun b => .v (.int .u8 b.toNat) := by
      induction t.data.toList with
      | nil => rfl
      | cons b l ih => simp [byt, ih]
    have hsz1 : t.data.toList = [] ∨ sz = 1 := by
      cases hd : t.data.toList with
      | nil => exact .inl rfl
      | cons b l => exact .inr (hsz (byt b) (by rw [hd]; simp)).symm
    have hml : (t.data.toList.map byt).length = t.size := by simp
    have hlen : (byteCells t).length = (t.data.toList.map byt).length * sz := by
      rw [byteCells_length, hml]
      rcases hsz1 with h0 | h0
      · have : t.size = 0 := by rw [← hml, h0]; rfl
        simp [this]
      · simp [h0]
    have hfc : ∀ w' : World, (Builtin.firstCells sz t.size (.string t)).run P w' = .ok (byteCells t).toArray w' := fun w' => by
      rcases hsz1 with h0 | h0
      · have h1 := firstCells_string (P := P) t w'
        simp [Builtin.firstCells] at h1 ⊢
        exact h1
      · rw [h0]; exact firstCells_string t w'
    refine ⟨byteCells t, ⟨hk', fun _ => by simp [Builtin.lenOf], ?_, ?_, hlen, by simp [byteCells, Value.oneCell']⟩, ?_, hlen, by simp [byteCells, Value.oneCell'], fun k hk => ?_⟩
    · rw [hml]; exact hfc w
    · rw [hml]; exact hfc w.drew
    · rw [hfl]
      exact ⟨by simp [byteCells], fun i a x e g => by
        unfold byteCells at g
        rw [List.getElem?_map, Option.map_eq_some_iff] at e g
        obtain ⟨z, hz, rfl⟩ := e
        obtain ⟨z', hz', rfl⟩ := g
        rw [hz] at hz'; cases hz'; exact .v _⟩
    · rw [hml] at hk
      simp only [Builtin.firstCells, Sem.run_pure]
      congr 1
      apply Array.ext'
      rcases hsz1 with h0 | h0
      · have : t.size = 0 := by rw [← hml, h0]; rfl
        have hk0 : k = 0 := by omega
        subst hk0
        simp
      · subst h0
        simp [byteCells, List.map_take]
  · cases h
    rcases rows_inv r rfl with ⟨rfl, a0, c0, rfl, hn0, hx0⟩ | ⟨b, o, es, c, f, rfl, g1, g2, g3, g4, g5⟩
    · cases a0 with
      | none => exact ⟨[], ⟨hk', fun _ => rfl, rfl, rfl, by simp, by simp⟩, Reps.nil s, by simp, by simp, fun k hk => by simp [Builtin.firstCells]⟩
      | some a =>
        refine ⟨[], ⟨hk', fun _ => rfl, ?_, ?_, by simp, by simp⟩, Reps.nil s, by simp, by simp, fun k hk => ?_⟩
        · simp [Builtin.firstCells, loadCells, loadCellsFrom]
        · simp [Builtin.firstCells, loadCells, loadCellsFrom]
        · have : k = 0 := by simpa using hk
          subst this
          simp [Builtin.firstCells, loadCells, loadCellsFrom]
    · obtain ⟨vs, h1, h2, h3⟩ := row_cells g1 g2 g3
      rcases Nat.eq_zero_or_pos m.length with h0 | h0
      · have hm : m = [] := List.eq_nil_of_length_eq_zero h0
        subst hm
        refine ⟨[], ⟨hk', fun _ => rfl, ?_, ?_, by simp, by simp⟩, Reps.nil s, by simp, by simp, fun k hk => ?_⟩
        · simp [Builtin.firstCells, loadCells, loadCellsFrom]
        · simp [Builtin.firstCells, loadCells, loadCellsFrom]
        · have : k = 0 := by simpa using hk
          subst this
          simp [Builtin.firstCells, loadCells, loadCellsFrom]
      · have hes : es = sz := by rw [← g1 _ (List.getElem_mem h0), hsz _ (List.getElem_mem h0)]
        subst hes
        have hb : ∀ j y, vs[j]? = some y → w.cell? ((⟨b, o, none⟩ : Addr).add j) = some y := fun j y hj => by
          rw [addr_add]; exact (hst.imm b _ _ (h3 j y hj)).2.1
        have h1x : ∀ x ∈ vs, x.oneCell' = true := fun x hx => by
          obtain ⟨j, hj⟩ := List.getElem?_of_mem hx
          exact (hst.imm b _ _ (h3 j x hj)).2.2
        exact ⟨vs, ⟨hk', fun _ => rfl, run_firstCells_some w es m.length ⟨b, o, none⟩ m.length c vs h1 hb, run_firstCells_some w.drew es m.length ⟨b, o, none⟩ m.length c vs h1 (fun j y hy => by simpa using hb j y hy), h1, h1x⟩, h2, h1, h1x, fun k hk => run_firstCells_some w es k ⟨b, o, none⟩ m.length c _ (by rw [List.length_take, h1]; exact Nat.min_eq_left (Nat.mul_le_mul_right _ hk)) (fun j y hy => hb j y (by
          rw [List.getElem?_take] at hy
          split at hy
          · exact hy
          · cases hy))⟩
  · cases h
/-- what is appended, as the model reads it -/
def Srcd (P : Program) (t : TypeId) (sz : Nat) (v : Value) (m : List (List AV)) (w : World) (s : Sto) : Prop := ∃ news, Src P sz t v m.length news w ∧ Reps s m.flatten news ∧ news.length = m.length * sz ∧ (∀ x ∈ news, x.oneCell' = true) ∧ ∀ k, k ≤ m.length → (Builtin.firstCells sz k v).run P w = .ok (news.take (k * sz)).toArray w
theorem asrcG_sound {t : TypeId} {v : Value} {y : AV} {m : List (List AV)} {sz : Nat} (hk : tN P t = 2 ∨ tN P t = 7) (hst : St w s own H) (r : Rep s y v) (h : asrcG sz H y = some m) (hsz : ∀ r ∈ m, r.length = sz) (hs : 0 < sz) : Srcd P t sz v m w s := by
  have hk' : (∃ e', P.underlying t = some (.slice e')) ∨ P.underlying t = some .string := by
    rcases hk with h | h <;> (obtain ⟨d, hd⟩ := tN_und h (by decide)) <;> unfold tN at h <;> rw [hd] at h <;> cases d <;> first | (cases h; done) | exact .inl ⟨_, hd⟩ | exact .inr hd
  unfold asrcG at h
  split at h
  · exact asrc_sound hk hst r h hsz hs
  · rename_i b o n c
    rw [r.v_inv]
    split at h
    · rename_i T l hb
      split at h
      · rename_i hle
        cases h
        obtain ⟨ho, vs, hv, rl, r1⟩ := hst.obj b _ hb
        have hvl : vs.length = l.length := rl.1
        have hlen : ((vs.drop o).take (n * sz)).length = n * sz := by simp; omega
        have h1 : ∀ x ∈ (vs.drop o).take (n * sz), x.oneCell' = true := fun x hx => r1 x (List.mem_of_mem_drop (List.mem_of_mem_take hx))
        have hc : ∀ j y, ((vs.drop o).take (n * sz))[j]? = some y → w.cell? ((⟨b, o, none⟩ : Addr).add j) = some y := fun j y hy => by
          rw [List.getElem?_take] at hy
          split at hy
          · rw [List.getElem?_drop] at hy
            rw [addr_add]
            simp [World.cell?, hv, hy]
          · cases hy
        unfold Srcd
        rw [rowsOf_len, rowsOf_flat sz n (l.drop o) (by simp; omega)]
        refine ⟨(vs.drop o).take (n * sz), ⟨hk', fun _ => rfl, run_firstCells_some w sz n ⟨b, o, none⟩ n c _ hlen hc, run_firstCells_some w.drew sz n ⟨b, o, none⟩ n c _ hlen (fun j y hy => by simpa using hc j y hy), hlen, h1⟩, (rl.drop o).take _, hlen, h1, fun k hk => ?_⟩
        refine run_firstCells_some w sz k ⟨b, o, none⟩ n c _ ?_ (fun j y hy => hc j y ?_)
        · rw [List.length_take, hlen]; exact Nat.min_eq_left (Nat.mul_le_mul_right _ hk)
        · rw [List.getElem?_take] at hy
          split at hy
          · exact hy
          · cases hy
      · cases h
    · cases h
  · exact asrc_sound hk hst r h hsz hs
  · exact asrc_sound hk hst r h hsz hs
  · cases h
/-- zeros -/
theorem zero_one {z : Value} {n : Nat} (h1 : ∀ y ∈ z.cells.toList, y.oneCell' = true) : ∀ x ∈ (Builtin.zeroCells z.cells n).toList, x.oneCell' = true := by
  intro x hx
  simp only [Builtin.zeroCells, Array.toList_map, List.mem_map, Array.toList_range, List.mem_range] at hx
  obtain ⟨j, hj, rfl⟩ := hx
  have hpos : 0 < z.cells.size := by
    rcases Nat.eq_zero_or_pos z.cells.size with h | h
    · rw [h] at hj; omega
    · exact h
  have hlt : j % z.cells.size < z.cells.size := Nat.mod_lt _ hpos
  rw [getElem!_pos z.cells _ hlt]
  exact h1 _ (Array.mem_toList_iff.2 (Array.getElem_mem hlt))
theorem app_room {ts tx_ : TypeId} {ty : TypeId} {e : TypeId} {i : TypeInfo} (ht : P.underlying ts = some (.slice e)) (hi : P.info? e = some i) (a : Addr) (sLen sCap : Nat) (y : Value) (n : Nat) (news : List Value) (hs : Src P i.size tx_ y n news w)
    (h : sLen + n ≤ sCap) {w1 : World} (hst : (storeCells (a.add (sLen * i.size)) news).run P w = .ok () w1) : (Builtin.append_ #[ts, tx_] ty #[.slice (some a) sLen sCap, y]).run P w = .ok (.slice (some a) (sLen + n) sCap) w1 := by
  rcases hs.kind with ⟨e', hk⟩ | hk <;> simp [Builtin.append_, run_underlying ht, run_underlying hk, sizeOf, typeInfo, hi, hs.len, h, hs.cells, hst]
theorem Reps.anyl (s : Sto) (n : Nat) (vs : List Value) (h : vs.length = n) : Reps s (List.replicate n .any) vs := by subst h; exact Reps.anys s vs
/-- an append -/
theorem eapG_sound {ts tx_ ty : TypeId} {x : AV} {v u : Value} {k : AV → Hp → Prop} {os : Option (List (List AV))} (hst : St w s own H) (hf : ∀ m, w.heap.size ≤ m → Wr m) (rx : Rep s x v) (ho : ∀ m sz, os = some m → (∃ te by_, tE P ts = some (te, sz, by_)) → (tN P tx_ = 2 ∨ tN P tx_ = 7) → (∀ r ∈ m, r.length = sz) → 0 < sz → Srcd P tx_ sz u m w s) (h : eapG (tE P ts) (tEz P ts) (tN P tx_) Wr x os H k) :
    ∃ w' s' own' H' r a, (Builtin.append_ #[ts, tx_] ty #[v, u]).run P w = .ok r w' ∧ St w' s' own' H' ∧ Ext Wr w s own w' s' own' ∧ Rep s' a r ∧ k a H' := by
  unfold eapG at h
  split at h
  · rename_i te sz by_ m he
    obtain ⟨⟨hzk, htn, hsz0, hmr⟩, h⟩ := h
    obtain ⟨z, hz, hzs, hz1⟩ := tEz_spec hzk he
    obtain ⟨i, hu, hi, rfl, rfl, hts⟩ := tE_spec he
    have hzi : i.zero = some z := by simpa [tZ, hi] using hz
    obtain ⟨news, hsrc, hrn, hnl, hn1, hnk⟩ := ho _ _ rfl ⟨_, _, he⟩ htn hmr hsz0
    have hz2 : ∀ n, ∀ x ∈ (Builtin.zeroCells z.cells n).toList, x.oneCell' = true := fun n => zero_one hz1
    have hzl : ∀ n, (Builtin.zeroCells z.cells n).toList.length = n * i.size := fun n => by rw [Array.length_toList, size_zeroCells, hzs]
    -- a new row, and its cells
    have rown : ∀ {base : Option Addr} {sLen sCap : Nat} {olds : List Value}, sCap < sLen + m.length → sLen + m.length ≤ 9223372036854775807 → (sLen + m.length) * i.bytes ≤ 140737488355328 → (Builtin.firstCells i.size sLen (.slice base sLen sCap)).run P w.drew = .ok olds.toArray w.drew →
        (∀ y ∈ olds, y.oneCell' = true) → ∃ c rest, sLen + m.length ≤ c ∧ (Builtin.append_ #[ts, tx_] ty #[.slice base sLen sCap, u]).run P w = .ok (.slice (some ⟨w.heap.size, 0, none⟩) (sLen + m.length) c) (w.drew.alloc (.cells (olds ++ news ++ rest).toArray te)) ∧ rest.length = (c - (sLen + m.length)) * i.size ∧ ∀ y ∈ olds ++ news ++ rest, y.oneCell' = true := by
      intro base sLen sCap olds g1 g2 g3 g4 g5
      have hrun := run_append_grow_src (P := P) w ts tx_ ty te i z hu hi hzi base sLen sCap olds g4 u m.length news hsrc g1 (by omega) (growslice_fits g1 g3)
      refine ⟨grownCap w (sLen + m.length) sCap te, (Builtin.zeroCells z.cells (grownCap w (sLen + m.length) sCap te - (sLen + m.length))).toList, grownCap_ge w (sLen + m.length) sCap te, ?_, hzl _, fun y hy => ?_⟩
      · rw [hrun]
        congr 4
        apply Array.ext'
        simp
      · simp only [List.append_assoc, List.mem_append] at hy
        rcases hy with hy | hy | hy
        · exact g5 y hy
        · exact hn1 y hy
        · exact hz2 _ y hy
    have grown : ∀ {base : Option Addr} {sLen sCap : Nat} {olds : List Value} {l : List AV} {H2 : Hp}, sCap < sLen + m.length → sLen + m.length ≤ 9223372036854775807 → (sLen + m.length) * i.bytes ≤ 140737488355328 → (Builtin.firstCells i.size sLen (.slice base sLen sCap)).run P w.drew = .ok olds.toArray w.drew →
        Reps s l olds → (∀ y ∈ olds, y.oneCell' = true) → v = .slice base sLen sCap → Sub H2 H → (H2 w.heap.size = none → egrow te i.size Wr (sLen + m.length) (l ++ m.flatten) H2 k) →
        ∃ w' s' own' H' r a, (Builtin.append_ #[ts, tx_] ty #[v, u]).run P w = .ok r w' ∧ St w' s' own' H' ∧ Ext Wr w s own w' s' own' ∧ Rep s' a r ∧ k a H' := by
      intro base sLen sCap olds l H2 g1 g2 g3 g4 g5 g6 g7 g8 g9
      obtain ⟨c, rest, hge, hrun, hrl, hall⟩ := rown g1 g2 g3 g4 g6
      have hreps := (g5.append hrn).append (Reps.anyl s _ _ hrl)
      have hst2 : St w.drew s own H2 := (hst.drop g8).heap rfl
      obtain ⟨a1, a2⟩ := hst2.alloc (Wr := Wr) te hreps hall
      rw [g7]
      have hn := hst2.fresh.2.1
      exact ⟨_, _, _, _, _, _, hrun, a1, (Ext.heap (w := w) (s := s) (own := own) (w' := w.drew) rfl).trans a2, .v _, g9 hn _ _ hn (hf _ (Nat.le_refl _)) hge (by omega)⟩
    split at h
    · rename_i l
      obtain ⟨⟨hl1, hl2, hl3⟩, h⟩ := h
      -- what the old row is
      obtain ⟨base, olds, rfl, hfc, hro, ho1, hol⟩ : ∃ base olds, v = .slice base l.length l.length ∧ (Builtin.firstCells i.size l.length (.slice base l.length l.length)).run P w.drew = .ok olds.toArray w.drew ∧ Reps s l.flatten olds ∧ (∀ y ∈ olds, y.oneCell' = true) ∧ (l = [] ∨ base ≠ none) := by
        rcases rows_inv rx rfl with ⟨rfl, a0, c0, rfl, hn0, hx0⟩ | ⟨b, o, es, c, f, rfl, g1, g2, g3, g4, g5⟩
        · obtain rfl := hx0 rfl
          refine ⟨a0, [], rfl, ?_, Reps.nil s, by simp, .inl rfl⟩
          cases a0 with
          | none => rfl
          | some a => simp [Builtin.firstCells, loadCells, loadCellsFrom]
        · have hc := g5 rfl
          subst hc
          obtain ⟨vs, h1, h2, h3⟩ := row_cells g1 g2 g3
          have hb : ∀ j y, vs[j]? = some y → w.cell? ((⟨b, o, none⟩ : Addr).add j) = some y := fun j y hj => by
            rw [addr_add]; exact (hst.imm b _ _ (h3 j y hj)).2.1
          have hlen : vs.length = l.length * i.size := by
            rw [h1]
            rcases Nat.eq_zero_or_pos l.length with h0 | h0
            · simp [h0]
            · rw [← g1 _ (List.getElem_mem h0), hl1 _ (List.getElem_mem h0)]
          exact ⟨some ⟨b, o, none⟩, vs, rfl, run_firstCells_some w.drew i.size l.length ⟨b, o, none⟩ l.length l.length vs hlen (fun j y hy => by simpa using hb j y hy), h2, fun x hx => by
            obtain ⟨j, hj⟩ := List.getElem?_of_mem hx
            exact (hst.imm b _ _ (h3 j x hj)).2.2, .inr (by simp)⟩
      by_cases hm : m = []
      · subst hm
        have hnn : news = [] := List.eq_nil_of_length_eq_zero (by simpa using hnl)
        subst hnn
        have hrun := run_append_nothing (P := P) w ts tx_ ty te i hu hi base l.length l.length (Nat.le_refl _) u hsrc
        rcases h with h | h
        · refine ⟨w, s, own, H, _, _, hrun, hst, Ext.refl .., ?_, h⟩
          rw [List.append_nil]
          cases rx with
          | nil _ _ _ hn _ => exact .nil _ _ _ (fun _ => rfl) (fun _ => rfl)
          | sl x l b o es c f h1 h2 h3 h4 h5 => exact .sl _ l b o es _ f h1 h2 h3 h4 (by simp)
        · exact ⟨w, s, own, H, _, _, hrun, hst, Ext.refl .., rx, h.1 rfl⟩
      · have hm0 := List.length_pos_iff.2 hm
        rcases h with h | h
        · obtain ⟨c, rest, hge, hrun, hrl, hall⟩ := rown (by omega) hl3 hl2 hfc ho1
          have hst2 : St w.drew s own H := hst.heap rfl
          obtain ⟨a1, a2⟩ := hst2.allocImm (Wr := Wr) te (olds ++ news ++ rest) hall
          refine ⟨_, _, _, _, _, _, hrun, a1, (Ext.heap (w := w) (s := s) (own := own) (w' := w.drew) rfl).trans a2, ?_, h⟩
          have hfl : (l ++ m).flatten = l.flatten ++ m.flatten := by simp
          have := imm_row (es := i.size) (l := l ++ m) (vs := olds ++ news) (rest := rest) (b := w.drew.heap.size) (c := c) (e := false) (t := s.put w.drew.heap.size (olds ++ news ++ rest)) (s := s) (by rw [hfl]; exact hro.append hrn)
            (fun r hr => by rcases List.mem_append.1 hr with h | h; exact hl1 r h; exact hmr r h) a2.le (fun o x hx => by simpa [Sto.put] using hx) (by simpa using hge) (by simp)
          simpa using this
        · exact grown (by omega) hl3 hl2 hfc hro ho1 rfl (fun _ _ e => e) (fun _ => h.2 hm)
    · cases rx.v_inv
      obtain ⟨⟨hl2, hl3⟩, h1, h2⟩ := h
      by_cases hm : m = []
      · subst hm
        have : news = [] := List.eq_nil_of_length_eq_zero (by simpa using hnl)
        subst this
        exact ⟨w, s, own, H, _, _, run_append_nothing w ts tx_ ty te i hu hi none 0 0 (Nat.le_refl _) u hsrc, hst, Ext.refl .., .v _, h1 rfl⟩
      · refine grown (base := none) (sLen := 0) (sCap := 0) (olds := []) (l := []) (H2 := H) ?_ (by omega) (by simpa using hl2) rfl (Reps.nil s) (by simp) rfl (fun _ _ e => e) (fun _ => by simpa using h2 hm)
        have := List.length_pos_iff.2 hm
        omega
    · rename_i b n c
      cases rx.v_inv
      obtain ⟨⟨hl2, hl3⟩, h⟩ := h
      unfold eapOG at h
      split at h
      · rename_i T l hb
        obtain ⟨⟨rfl, hw, hnc, hcl⟩, h⟩ := h
        obtain ⟨ho, vs, hv, rl, r1⟩ := hst.obj b _ hb
        have hcle : c * i.size ≤ vs.length := by rw [rl.1]; rcases hcl with hcl | hcl <;> omega
        have hnle : n * i.size ≤ vs.length := Nat.le_trans (Nat.mul_le_mul_right _ hnc) hcle
        have hsub : Sub (hdel H b) H := fun m' O e => by unfold hdel at e; split at e; cases e; exact e
        rcases Nat.lt_or_ge c (n + m.length) with hg | hg
        · -- no room
          refine grown (base := some ⟨b, 0, none⟩) (sLen := n) (sCap := c) (olds := vs.take (n * i.size)) (l := l.take (n * i.size)) (H2 := hdel H b) hg hl3 hl2 ?_ (rl.take _) (fun y hy => r1 y (List.mem_of_mem_take hy)) rfl hsub (fun _ => h)
          exact run_firstCells_some w.drew i.size n ⟨b, 0, none⟩ n c _ (by simp; omega) (fun j y hy => by
            rw [List.getElem?_take] at hy
            split at hy
            · rw [addr_add]
              have hv' : w.drew.heap[b]? = some (.cells vs.toArray T (0, 0)) := hv
              simp [World.cell?, hv', hy]
            · cases hy)
        · -- room
          have hvl : vs.length = c * i.size := by rw [rl.1]; rcases hcl with hcl | hcl <;> omega
          have hc0 : 0 < c := by
            rcases hcl with hcl | hcl
            · rcases hcl.2 with q | q
              · exact q
              · have := List.length_pos_iff.2 q; omega
            · omega
          have hnm : n * i.size + news.length ≤ vs.length := by rw [hnl, hvl, ← Nat.add_mul]; exact Nat.mul_le_mul_right _ hg
          have hsto := run_storeCells_at (P := P) b (n * i.size) T news 0 vs.toArray w hv (by simp; omega) hn1
          have hrl : Reps s (buf (l.take (n * i.size) ++ m.flatten) ((c - (n + m.length)) * i.size)) (vs.take (n * i.size) ++ news ++ vs.drop (n * i.size + news.length)) := by
            unfold buf
            refine ((rl.take _).append hrn).append (Reps.anyl s _ _ ?_)
            rw [List.length_drop, hnl, hvl, ← Nat.add_mul, ← Nat.sub_mul]
          have r2 : ∀ y ∈ vs.take (n * i.size) ++ news ++ vs.drop (n * i.size + news.length), y.oneCell' = true := fun y hy => by
            simp only [List.append_assoc, List.mem_append] at hy
            rcases hy with hy | hy | hy
            · exact r1 y (List.mem_of_mem_take hy)
            · exact hn1 y hy
            · exact r1 y (List.mem_of_mem_drop hy)
          obtain ⟨g1, g2⟩ := hst.setRow (Wr := Wr) hb hw hrl r2
          have hhh : hset H b (.cells T (buf (l.take (n * i.size) ++ m.flatten) ((c - (n + m.length)) * i.size))) = hset (hdel H b) b (.cells T (buf (l.take (n * i.size) ++ m.flatten) ((c - (n + m.length)) * i.size))) := by
            funext m'; unfold hset hdel; split <;> simp_all
          rw [hhh] at g1
          refine ⟨_, _, _, _, _, _, app_room (ty := ty) hu hi ⟨b, 0, none⟩ n c u m.length news hsrc hg (by simpa [addr_add] using hsto), g1, g2, .v _, h b c (by simp [hdel]) hw hg hc0⟩
      · exact h.elim
    · exact h.elim
  · exact h.elim
theorem eap_sound {ts tx_ ty : TypeId} {x y : AV} {v u : Value} {k : AV → Hp → Prop} (hst : St w s own H) (hf : ∀ m, w.heap.size ≤ m → Wr m) (rx : Rep s x v) (ry : Rep s y u) (h : eap (tE P ts) (tEz P ts) (tN P tx_) Wr x (asrc H y) H k) :
    ∃ w' s' own' H' r a, (Builtin.append_ #[ts, tx_] ty #[v, u]).run P w = .ok r w' ∧ St w' s' own' H' ∧ Ext Wr w s own w' s' own' ∧ Rep s' a r ∧ k a H' :=
  eapG_sound hst hf rx (fun m sz e _ htn hmr hs => asrc_sound htn hst ry e hmr hs) h.g
theorem ecpG_sound {ts tx_ ty : TypeId} {x : AV} {v u : Value} {k : AV → Hp → Prop} {os : Option (List (List AV))} (hst : St w s own H) (rx : Rep s x v) (ho : ∀ m sz, os = some m → (∃ te by_, tE P ts = some (te, sz, by_)) → (tN P tx_ = 2 ∨ tN P tx_ = 7) → (∀ r ∈ m, r.length = sz) → 0 < sz → Srcd P tx_ sz u m w s) (h : ecp (tE P ts) (tN P tx_) Wr x os H k) :
    ∃ w' H' r a, (Builtin.copy_ #[ts, tx_] ty #[v, u]).run P w = .ok r w' ∧ St w' s own H' ∧ Ext Wr w s own w' s own ∧ Rep s a r ∧ k a H' := by
  unfold ecp at h
  split at h
  · rename_i te sz by_ m he
    obtain ⟨⟨htn, hsz0, hmr⟩, h⟩ := h
    obtain ⟨i, hu, hi, rfl, rfl, hts⟩ := tE_spec he
    obtain ⟨news, hsrc, hrn, hnl, hn1, hnk⟩ := ho _ _ rfl ⟨_, _, he⟩ htn hmr hsz0
    split at h
    · cases rx.v_inv
      refine ⟨w, H, _, _, ?_, hst, Ext.refl .., .v _, h⟩
      simp [Builtin.copy_, run_underlying hu, hsrc.len, hnk 0 (Nat.zero_le _), run_sizeOf' hts, goInt]
    · rename_i b o n c
      cases rx.v_inv
      obtain ⟨hw, h⟩ := h
      unfold ecpO at h
      split at h
      · rename_i T l hb
        obtain ⟨hle, h⟩ := h
        obtain ⟨ho, vs, hv, rl, r1⟩ := hst.obj b _ hb
        have hvl : vs.length = l.length := rl.1
        have htk : news.take (min m.length n * i.size) = news.take (n * i.size) := by
          rcases Nat.le_total m.length n with h | h
          · rw [Nat.min_eq_left h, ← hnl, List.take_length, List.take_of_length_le]
            rw [hnl]; exact Nat.mul_le_mul_right _ h
          · rw [Nat.min_eq_right h]
        have hlen : (news.take (min m.length n * i.size)).length = min m.length n * i.size := by
          rw [List.length_take, hnl]; exact Nat.min_eq_left (Nat.mul_le_mul_right _ (Nat.min_le_left _ _))
        have hmn : min m.length n * i.size ≤ n * i.size := Nat.mul_le_mul_right _ (Nat.min_le_right _ _)
        have h1 : ∀ y ∈ news.take (min m.length n * i.size), y.oneCell' = true := fun y hy => hn1 y (List.mem_of_mem_take hy)
        have hsto := run_storeCells_at (P := P) b o T (news.take (min m.length n * i.size)) 0 vs.toArray w hv (by simp only [List.size_toArray, Nat.add_zero]; omega) h1
        have hft : ∀ (l : List (List AV)) k, (∀ r ∈ l, r.length = i.size) → (l.take k).flatten = l.flatten.take (k * i.size) := by
          intro l
          induction l with
          | nil => simp
          | cons r l ih =>
            intro k hr
            cases k with
            | zero => simp
            | succ k =>
              have hr0 := hr r (by simp)
              simp only [List.take_succ_cons, List.flatten_cons, Nat.add_mul, Nat.one_mul]
              have e1 : List.take (k * i.size + i.size) r = r := List.take_of_length_le (by omega)
              have e2 : k * i.size + i.size - r.length = k * i.size := by omega
              rw [List.take_append, e1, e2, ih k (fun r h => hr r (by simp [h]))]
        have hrl : Reps s (l.take o ++ (m.take n).flatten ++ l.drop (o + (min m.length n) * i.size)) (vs.take o ++ news.take (min m.length n * i.size) ++ vs.drop (o + (min m.length n) * i.size)) := by
          refine ((rl.take _).append ?_).append (rl.drop _)
          rw [hft m n hmr, htk]
          exact hrn.take _
        have r2 : ∀ y ∈ vs.take o ++ news.take (min m.length n * i.size) ++ vs.drop (o + (min m.length n) * i.size), y.oneCell' = true := fun y hy => by
          simp only [List.append_assoc, List.mem_append] at hy
          rcases hy with hy | hy | hy
          · exact r1 y (List.mem_of_mem_take hy)
          · exact h1 y hy
          · exact r1 y (List.mem_of_mem_drop hy)
        obtain ⟨g1, g2⟩ := hst.setRow (Wr := Wr) hb hw hrl r2
        refine ⟨_, _, _, _, ?_, g1, g2, .v _, h⟩
        have hmin : Nat.min m.length n = min m.length n := rfl
        simp only [List.size_toArray, Nat.add_zero, hlen, Nat.zero_add] at hsto
        have h2 := hnk _ (Nat.min_le_left m.length n)
        simp [Builtin.copy_, run_underlying hu, hsrc.len, run_sizeOf' hts, hmin, h2, hsto, goInt]
      · exact h.elim
    · exact h.elim
  · exact h.elim
theorem ecp_sound {ts tx_ ty : TypeId} {x y : AV} {v u : Value} {k : AV → Hp → Prop} (hst : St w s own H) (rx : Rep s x v) (ry : Rep s y u) (h : ecp (tE P ts) (tN P tx_) Wr x (asrc H y) H k) :
    ∃ w' H' r a, (Builtin.copy_ #[ts, tx_] ty #[v, u]).run P w = .ok r w' ∧ St w' s own H' ∧ Ext Wr w s own w' s own ∧ Rep s a r ∧ k a H' :=
  ecpG_sound hst rx (fun m sz e _ htn hmr hs => asrc_sound htn hst ry e hmr hs) h
theorem emk_sound {t : TypeId} {x y : AV} {v u : Value} {k : AV → Hp → Prop} (hst : St w s own H) (hf : ∀ m, w.heap.size ≤ m → Wr m) (rx : Rep s x v) (ry : Rep s y u) (h : emk (tE P t) (tZe P (tE P t)) Wr (num x) (num y) H k) :
    ∃ w' own' H' r a, (Instr.makeSlice t v u).run P w = .ok r w' ∧ St w' s own' H' ∧ Ext Wr w s own w' s own' ∧ Rep s a r ∧ k a H' ∧ ∀ b, b < w.heap.size → w'.heap[b]? = w.heap[b]? := by
  unfold emk at h
  split at h
  · rename_i te by_ z l c he hz hl hc
    obtain ⟨⟨h0, h1, h2, h3⟩, h⟩ := h
    obtain ⟨q, rfl⟩ := num_inv rx hl
    obtain ⟨q', rfl⟩ := num_inv ry hc
    obtain ⟨i, hu, hi, hsz, rfl, hts⟩ := tE_spec he
    rw [he] at hz
    have hz : zcells (tZ P te) = some [z] := hz
    cases hzi : i.zero with
    | none => simp [tZ, hi, hzi, zcells] at hz
    | some zv =>
      have hzv : tZ P te = some zv := by simp [tZ, hi, hzi]
      rw [hzv] at hz
      obtain ⟨ra, ra1⟩ := avc_sound (ofVal_rep s zv) hz
      obtain ⟨c0, hc0⟩ : ∃ c0, zv.cells = #[c0] := by
        have hl1 : zv.cells.toList.length = 1 := ra.1
        match e : zv.cells.toList, hl1 with
        | [c0], _ => exact ⟨c0, by apply Array.ext'; simp [e]⟩
      rw [hc0] at ra ra1
      have hmk : (madeCells zv.cells (c.toNat * i.size)) = (List.replicate c.toNat c0).toArray := by
        unfold madeCells
        rw [hc0, hsz]
        apply Array.ext'
        simp only [Array.toList_map, Array.toList_range, Nat.mul_one]
        apply List.ext_getElem?
        intro j
        simp only [List.getElem?_map, List.getElem?_replicate]
        split
        · rename_i hj
          simp [List.getElem?_range hj]
          have : j % 1 = 0 := Nat.mod_one j
          simp [this]
        · rename_i hj
          simp [List.getElem?_eq_none, Nat.le_of_not_lt hj]
      have hrun := run_make (P := P) w t te i zv hu hi hzi q q' l c h0 h1 (by simpa using h2) h3
      rw [hmk] at hrun
      have hr : Reps s (List.replicate c.toNat z) (List.replicate c.toNat c0) := ⟨by simp, fun j a x e g => by
        rw [List.getElem?_replicate] at e g
        split at e
        · rename_i hj; rw [if_pos hj] at g; cases e; cases g
          exact ra.2 0 _ _ rfl rfl
        · cases e⟩
      obtain ⟨g1, g2⟩ := hst.alloc (Wr := Wr) te hr (fun y hy => by rw [List.eq_of_mem_replicate hy]; exact ra1 c0 (by simp))
      exact ⟨_, _, _, _, _, hrun, g1, g2, .v _, h _ hst.fresh.2.1 (hf _ (Nat.le_refl _)), fun b hb => alloc_old w _ hb⟩
  · exact h.elim
end
end Go.Proofs.YtiallkiiofomgaaGreat
