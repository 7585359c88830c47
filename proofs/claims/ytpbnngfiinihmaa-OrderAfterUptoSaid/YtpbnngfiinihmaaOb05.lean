/- The plain law of a line: places of calls by their points; there is one such list. No program in sight. The plain law of a map as a rising list of entries: put, cut, has; what a list, and a line of calls, make of it. No program in sight. WALKS: small functions: cmp.isNaN, cmp.Compare of numbers, the closure of order.Line, order.write, order.single, order.good. WALKS: texts: as strings, compared, copied; keys and values that may be (document). -/
import Derived.Test.YtpbnngfiinihmaaOb04
import Derived.Test.YtpbnngfiinihmaaOb02
import Derived.Test.YtpbnngfiinihmaaOb01
import Derived.Test.YtpbnngfiinihmaaChecked
import Derived.Deep.QuietTactic
import Derived.BigQuiet
import Derived.LoopTactic
import Derived.Lib.MinMax
import Derived.Deep.RegionHeld3
import Derived.Deep.LoopGhost
import Derived.Lib.SliceRun
import Derived.Laws.BytesArg
set_option linter.unusedVariables false
set_option linter.unusedSimpArgs false
namespace Go.Proofs.Ytpbnngfiinihmaa
open Go.RowKit
/-- two lists that rise and have the same members are the same -/
theorem rise_unique {α : Type} {R : α → α → Prop} (hi : ∀ x, ¬ R x x) (ht : ∀ x y z, R x y → R y z → R x z) : ∀ (a b : List α), a.Pairwise R → b.Pairwise R → (∀ x, x ∈ a ↔ x ∈ b) → a = b
  | [], [], _, _, _ => rfl
  | [], y :: b, _, _, h => by have := (h y).2 (by simp); simp at this
  | x :: a, [], _, _, h => by have := (h x).1 (by simp); simp at this
  | x :: a, y :: b, ha, hb, h => by
    obtain ⟨ha1, ha2⟩ := List.pairwise_cons.1 ha
    obtain ⟨hb1, hb2⟩ := List.pairwise_cons.1 hb
    have e : x = y := by
      rcases List.mem_cons.1 ((h x).1 (by simp)) with e | e
      · exact e
      · rcases List.mem_cons.1 ((h y).2 (by simp)) with e' | e'
        · exact e'.symm
        · exact (hi x (ht _ _ _ (ha1 y e') (hb1 x e))).elim
    subst e
    refine congrArg _ (rise_unique hi ht a b ha2 hb2 (fun z => ⟨fun hz => ?_, fun hz => ?_⟩))
    · rcases List.mem_cons.1 ((h z).1 (List.mem_cons_of_mem _ hz)) with e | e
      · subst e; exact (hi _ (ha1 _ hz)).elim
      · exact e
    · rcases List.mem_cons.1 ((h z).2 (List.mem_cons_of_mem _ hz)) with e | e
      · subst e; exact (hi _ (hb1 _ hz)).elim
      · exact e
/-- the point of the call at a place -/
def ptOf (l : List CallD) (i : Nat) : Int := match l[i]? with | some c => c.pt | none => 0
theorem ptOf_at {l : List CallD} {i : Nat} {c : CallD} (h : l[i]? = some c) : ptOf l i = c.pt := by unfold ptOf; rw [h]
/-- by the point, then by the place -/
def RL (l : List CallD) (i j : Nat) : Prop := ptOf l i < ptOf l j ∨ (ptOf l i = ptOf l j ∧ i < j)
/-- the places below n of the calls that took effect, in order -/
def LineN (l : List CallD) (n : Nat) (idx : List Nat) : Prop := idx.Pairwise (RL l) ∧ ∀ i, i ∈ idx ↔ (i < n ∧ 0 ≤ ptOf l i)
open Classical in
/-- the line of calls -/
noncomputable def lineE (l : List CallD) : List Nat := if h : ∃ idx, LineN l l.length idx then Classical.choose h else []
section
variable {l : List CallD} {n : Nat} {idx a b : List Nat}
theorem LineN.unique (h : LineN l n a) (k : LineN l n b) : a = b :=
  rise_unique (R := RL l) (fun x h => by unfold RL at h; omega) (fun x y z h k => by unfold RL at *; omega) a b h.1 k.1 (fun x => (h.2 x).trans (k.2 x).symm)
theorem LineN.eq (h : LineN l l.length idx) : idx = lineE l := by
  have e : ∃ idx, LineN l l.length idx := ⟨idx, h⟩
  unfold lineE
  rw [dif_pos e]
  exact h.unique (Classical.choose_spec e)
theorem LineN.zero (l : List CallD) : LineN l 0 [] := ⟨List.Pairwise.nil, fun i => by simp⟩
theorem LineN.skip (h : LineN l n idx) (hp : ptOf l n < 0) : LineN l (n + 1) idx := ⟨h.1, fun i => by
  rw [h.2 i]
  constructor
  · rintro ⟨h1, h2⟩; exact ⟨by omega, h2⟩
  · rintro ⟨h1, h2⟩
    refine ⟨?_, h2⟩
    rcases Nat.lt_or_ge i n with h3 | h3
    · exact h3
    · have : i = n := by omega
      subst this; omega⟩
/-- the next place is put in -/
theorem LineN.put (h : LineN l n idx) (hp : 0 ≤ ptOf l n) {k : Nat} (hk : k ≤ idx.length) (hlo : ∀ j, j < k → ∀ x, idx[j]? = some x → ptOf l x ≤ ptOf l n) (hhi : ∀ j, k ≤ j → ∀ x, idx[j]? = some x → ptOf l n < ptOf l x) :
    LineN l (n + 1) (idx.take k ++ n :: idx.drop k) := by
  have hmem : ∀ x, x ∈ idx → x < n := fun x hx => ((h.2 x).1 hx).1
  refine ⟨?_, fun i => ?_⟩
  · rw [List.pairwise_append]
    refine ⟨h.1.sublist (List.take_sublist _ _), List.pairwise_cons.2 ⟨fun x hx => ?_, h.1.sublist (List.drop_sublist _ _)⟩, fun x hx y hy => ?_⟩
    · obtain ⟨j, hj⟩ := List.mem_iff_getElem?.1 hx
      rw [List.getElem?_drop] at hj
      exact .inl (hhi _ (by omega) x hj)
    · rcases List.mem_cons.1 hy with e | e
      · subst e
        obtain ⟨j, hj⟩ := List.mem_iff_getElem?.1 hx
        rw [List.getElem?_take] at hj
        split at hj
        · rename_i hjk
          have := hlo j hjk x hj
          have := hmem x (List.mem_of_getElem? hj)
          unfold RL; omega
        · cases hj
      · have := h.1
        rw [← List.take_append_drop k idx] at this
        exact (List.pairwise_append.1 this).2.2 x hx y e
  · rw [List.mem_append, List.mem_cons]
    constructor
    · rintro (h1 | h1 | h1)
      · obtain ⟨a1, a2⟩ := (h.2 i).1 (List.mem_of_mem_take h1); exact ⟨by omega, a2⟩
      · subst h1; exact ⟨by omega, hp⟩
      · obtain ⟨a1, a2⟩ := (h.2 i).1 (List.mem_of_mem_drop h1); exact ⟨by omega, a2⟩
    · rintro ⟨h1, h2⟩
      rcases Nat.lt_or_ge i n with h3 | h3
      · have hm := (h.2 i).2 ⟨h3, h2⟩
        rw [← List.take_append_drop k idx, List.mem_append] at hm
        rcases hm with hm | hm
        · exact .inl hm
        · exact .inr (.inr hm)
      · exact .inr (.inl (by omega))
end
/-- the places of the calls that took effect, by place -/
def placesN (l : List CallD) (n : Nat) : List Nat := (List.range n).filter (fun i => decide (0 ≤ ptOf l i))
theorem placesN_skip {l : List CallD} {n : Nat} (h : ptOf l n < 0) : placesN l (n + 1) = placesN l n := by
  unfold placesN; rw [List.range_succ, List.filter_append]; simp [show ¬ 0 ≤ ptOf l n by omega]
theorem placesN_put {l : List CallD} {n : Nat} (h : 0 ≤ ptOf l n) : placesN l (n + 1) = placesN l n ++ [n] := by
  unfold placesN; rw [List.range_succ, List.filter_append]; simp [h]
theorem placesN_len (l : List CallD) (n : Nat) : (placesN l n).length ≤ n := by
  have := List.length_filter_le (fun i => decide (0 ≤ ptOf l i)) (List.range n)
  rw [List.length_range] at this; exact this
theorem placesN_mem (l : List CallD) (n i : Nat) : i ∈ placesN l n ↔ (i < n ∧ 0 ≤ ptOf l i) := by unfold placesN; simp
theorem placesN_rise (l : List CallD) (n : Nat) : (placesN l n).Pairwise (· < ·) := (List.pairwise_lt_range).sublist List.filter_sublist
/-- a list of places as numbers -/
def seqI (l : List Nat) : Nat → Int := fun k => ((l[k]?.getD 0 : Nat) : Int)
/-- the row that a stable sort by the points leaves is the line -/
theorem line_sorted {l : List CallD} {n m : Nat} {ys : Nat → Int} (hm : m = (placesN l n).length) (hs : Srt (fun x => ptOf l x.toNat) 0 m ys) (hsm : SameS 0 m (seqI (placesN l n)) ys) :
    ∃ idx : List Nat, idx.length = m ∧ LineN l n idx ∧ ∀ k, k < m → ys k = seqI idx k := by
  have hval : ∀ k, k < m → ∃ p, p ∈ placesN l n ∧ ys k = (p : Int) := fun k hk => by
    obtain ⟨j, h1, h2, h3⟩ := (hsm (ys k)).2 ⟨k, by omega, hk, rfl⟩
    have hj : (placesN l n)[j]? = some ((placesN l n)[j]'(by omega)) := List.getElem?_eq_getElem (by omega)
    refine ⟨(placesN l n)[j]'(by omega), List.getElem_mem _, ?_⟩
    rw [← h3]; unfold seqI; rw [hj]; rfl
  refine ⟨(List.range m).map (fun k => (ys k).toNat), by simp, ⟨?_, fun i => ?_⟩, fun k hk => ?_⟩
  · rw [List.pairwise_map]
    have : (List.range m).Pairwise (fun a b => a < b ∧ b < m) := by
      refine List.Pairwise.imp_of_mem ?_ List.pairwise_lt_range
      intro a b ha hb hab
      exact ⟨hab, by simpa using hb⟩
    refine this.imp ?_
    rintro a b ⟨hab, hb⟩
    have h1 := hs a b (by omega) hab hb
    obtain ⟨p, _, hp⟩ := hval a (by omega)
    obtain ⟨q, _, hq⟩ := hval b hb
    rw [hp, hq] at h1 ⊢
    unfold LL at h1
    simp only [Int.toNat_natCast] at h1 ⊢
    unfold RL; omega
  · rw [← placesN_mem, List.mem_map]
    constructor
    · rintro ⟨k, hk, rfl⟩
      obtain ⟨p, hp1, hp2⟩ := hval k (by simpa using hk)
      rw [hp2]; simpa using hp1
    · intro hi
      obtain ⟨j, hj, e⟩ := List.mem_iff_getElem.1 hi
      obtain ⟨k, h1, h2, h3⟩ := (hsm (i : Int)).1 ⟨j, by omega, by omega, by unfold seqI; rw [List.getElem?_eq_getElem hj, e]; rfl⟩
      exact ⟨k, by simpa using h2, by rw [h3]; simp⟩
  · unfold seqI
    rw [List.getElem?_map, List.getElem?_range hk]
    obtain ⟨p, _, hp⟩ := hval k hk
    simp only [Option.map_some, Option.getD_some]
    rw [hp]; simp
theorem seqI_rise {l : List CallD} {n m : Nat} (hm : m = (placesN l n).length) : ∀ i j, i < j → j < m → seqI (placesN l n) i < seqI (placesN l n) j := fun i j hij hj => by
  have h := placesN_rise l n
  unfold seqI
  rw [List.getElem?_eq_getElem (by omega), List.getElem?_eq_getElem (by omega)]
  have := List.pairwise_iff_getElem.1 h i j (by omega) (by omega) hij
  simp only [Option.getD_some]; omega
/-- places as values -/
def pvs (l : List Nat) : List Value := l.map (fun i : Nat => .int .i64 (i : Int))
theorem pvs_len (l : List Nat) : (pvs l).length = l.length := by simp [pvs]
theorem pvs_at {l : List Nat} {k i : Nat} (h : l[k]? = some i) : (pvs l)[k]? = some (.int .i64 (i : Int)) := by unfold pvs; rw [List.getElem?_map, h]; rfl
theorem pvs_put (l : List Nat) (i : Nat) : pvs (l ++ [i]) = pvs l ++ [.int .i64 (i : Int)] := by simp [pvs]
end Go.Proofs.Ytpbnngfiinihmaa

namespace Go.Proofs.Ytpbnngfiinihmaa
open Go.RowKit
open Go.Lib (compareBytes)
/-- keys rise -/
def Up (m : List Ent) : Prop := m.Pairwise (fun a b => TLt a.1 b.1)
/-- a map with an entry -/
def putE : List Ent → Ent → List Ent
  | [], x => [x]
  | y :: r, x => if compareBytes y.1 x.1 < 0 then y :: putE r x else if y.1 = x.1 then x :: r else x :: y :: r
/-- a map without a key -/
def cutE (m : List Ent) (k : List UInt8) : List Ent := m.filter (fun e => decide (e.1 ≠ k))
/-- what a map has -/
def hasE (m : List Ent) (k : List UInt8) : Option (List UInt8) := (m.find? (fun e => decide (e.1 = k))).map (·.2)
/-- the map of a list -/
def mapE (l : List Ent) : List Ent := l.foldl putE []
theorem hasE_nil (k : List UInt8) : hasE [] k = none := rfl
theorem hasE_cons (y : Ent) (r : List Ent) (k : List UInt8) : hasE (y :: r) k = if y.1 = k then some y.2 else hasE r k := by
  unfold hasE; rw [List.find?_cons]
  by_cases h : y.1 = k <;> simp [h]
theorem hasE_put : ∀ (m : List Ent) (x : Ent) (k : List UInt8), hasE (putE m x) k = if k = x.1 then some x.2 else hasE m k
  | [], x, k => by
    unfold putE; rw [hasE_cons, hasE_nil]
    by_cases h : x.1 = k
    · simp [h]
    · have : ¬ k = x.1 := fun e => h e.symm
      simp [h, this]
  | y :: r, x, k => by
    unfold putE
    split
    · rename_i h
      have hne : y.1 ≠ x.1 := (show TLt y.1 x.1 from h).ne
      rw [hasE_cons, hasE_put r x k, hasE_cons]
      by_cases e : y.1 = k
      · subst e; simp [hne]
      · simp [e]
    · split
      · rename_i h1 h2
        rw [hasE_cons, hasE_cons, h2]
        by_cases e : x.1 = k
        · simp [e]
        · have : ¬ k = x.1 := fun h => e h.symm
          simp [e, this]
      · rename_i h1 h2
        rw [hasE_cons, hasE_cons]
        by_cases e : x.1 = k
        · simp [e]
        · have : ¬ k = x.1 := fun h => e h.symm
          simp [e, this]
theorem hasE_cut (m : List Ent) (k k' : List UInt8) : hasE (cutE m k) k' = if k' = k then none else hasE m k' := by
  induction m with
  | nil => unfold cutE; simp [hasE_nil]
  | cons y r ih =>
    unfold cutE at *
    rw [List.filter_cons]
    by_cases h : y.1 = k
    · simp only [h, ne_eq, not_true, decide_false, Bool.false_eq_true, if_false]
      rw [ih, hasE_cons]
      by_cases e : k' = k
      · simp [e]
      · have : ¬ y.1 = k' := fun h' => e (by rw [← h', h])
        simp [e, this]
    · simp only [ne_eq, h, not_false_eq_true, decide_true, if_true]
      rw [hasE_cons, ih, hasE_cons]
      by_cases e : y.1 = k'
      · have : ¬ k' = k := fun h' => h (by rw [e, h'])
        simp [e, this]
      · simp [e]
theorem hasE_mem {m : List Ent} {k v : List UInt8} (h : hasE m k = some v) : (k, v) ∈ m := by
  unfold hasE at h
  cases hf : m.find? (fun e => decide (e.1 = k)) with
  | none => rw [hf] at h; cases h
  | some e =>
    rw [hf] at h
    injection h with h
    have h1 := List.find?_some hf
    have h2 := List.mem_of_find?_eq_some hf
    have h1 : e.1 = k := of_decide_eq_true h1
    obtain ⟨a, b⟩ := e
    simp only at h h1
    rw [← h, ← h1]; exact h2
theorem Up.has {m : List Ent} (h : Up m) : ∀ {k v : List UInt8}, (k, v) ∈ m → hasE m k = some v := by
  induction m with
  | nil => intro k v hm; cases hm
  | cons y r ih =>
    intro k v hm
    obtain ⟨h1, h2⟩ := List.pairwise_cons.1 h
    rw [hasE_cons]
    rcases List.mem_cons.1 hm with e | e
    · subst e; simp
    · have := (h1 _ e).ne
      have h3 : ¬ y.1 = k := this
      rw [if_neg h3]; exact ih h2 e
theorem Up.ext {a b : List Ent} (ha : Up a) (hb : Up b) (h : ∀ k, hasE a k = hasE b k) : a = b :=
  rise_unique (R := fun x y : Ent => TLt x.1 y.1) (fun x hx => hx.irrefl) (fun _ _ _ h k => h.trans k) a b ha hb (fun x => by
    obtain ⟨k, v⟩ := x
    exact ⟨fun hx => hasE_mem (by rw [← h]; exact ha.has hx), fun hx => hasE_mem (by rw [h]; exact hb.has hx)⟩)
theorem cutE_up {m : List Ent} (h : Up m) (k : List UInt8) : Up (cutE m k) := List.Pairwise.sublist List.filter_sublist h
theorem not_lt_cases {a b : List UInt8} (h : ¬ compareBytes a b < 0) (hne : a ≠ b) : TLt b a := by
  unfold TLt
  rw [cb_swap]
  have : compareBytes a b ≠ 0 := fun e => hne (cb_eq _ _ e)
  omega
theorem putE_mem : ∀ (m : List Ent) (x e : Ent), e ∈ putE m x → e = x ∨ e ∈ m
  | [], x, e, h => by unfold putE at h; simp at h; exact .inl h
  | y :: r, x, e, h => by
    unfold putE at h
    split at h
    · rcases List.mem_cons.1 h with h | h
      · exact .inr (by simp [h])
      · rcases putE_mem r x e h with h | h
        · exact .inl h
        · exact .inr (List.mem_cons_of_mem _ h)
    · split at h
      · rcases List.mem_cons.1 h with h | h
        · exact .inl h
        · exact .inr (List.mem_cons_of_mem _ h)
      · rcases List.mem_cons.1 h with h | h
        · exact .inl h
        · exact .inr h
theorem putE_up : ∀ (m : List Ent) (x : Ent), Up m → Up (putE m x)
  | [], x, _ => by unfold putE Up; simp
  | y :: r, x, h => by
    obtain ⟨h1, h2⟩ := List.pairwise_cons.1 h
    unfold putE
    split
    · rename_i hlt
      refine List.pairwise_cons.2 ⟨fun e he => ?_, putE_up r x h2⟩
      rcases putE_mem r x e he with h | h
      · subst h; exact hlt
      · exact h1 e h
    · split
      · rename_i hn he
        exact List.pairwise_cons.2 ⟨fun e h => by rw [← he]; exact h1 e h, h2⟩
      · rename_i hn hne
        have hl := not_lt_cases hn hne
        refine List.pairwise_cons.2 ⟨fun e he => ?_, h⟩
        rcases List.mem_cons.1 he with h | h
        · subst h; exact hl
        · exact hl.trans (h1 e h)
theorem putE_len : ∀ (m : List Ent) (x : Ent), (putE m x).length ≤ m.length + 1
  | [], x => by unfold putE; simp
  | y :: r, x => by
    have := putE_len r x
    unfold putE
    split
    · simp; omega
    · split <;> simp
theorem cutE_len (m : List Ent) (k : List UInt8) : (cutE m k).length ≤ m.length := List.length_filter_le _ _
theorem fold_up (l : List Ent) : ∀ m, Up m → Up (l.foldl putE m) := by
  induction l with
  | nil => intro m h; exact h
  | cons x r ih => intro m h; exact ih _ (putE_up m x h)
theorem mapE_up (l : List Ent) : Up (mapE l) := fold_up l [] List.Pairwise.nil
theorem mapE_take {l : List Ent} {i : Nat} {e : Ent} (h : l[i]? = some e) : mapE (l.take (i + 1)) = putE (mapE (l.take i)) e := by
  unfold mapE
  have : l.take (i + 1) = l.take i ++ [e] := by rw [List.take_add_one, h]; rfl
  rw [this, List.foldl_append]; rfl
theorem fold_len (l : List Ent) : ∀ m, (l.foldl putE m).length ≤ m.length + l.length := by
  induction l with
  | nil => intro m; simp
  | cons x r ih => intro m; have h1 := ih (putE m x); have h2 := putE_len m x; simp only [List.foldl_cons, List.length_cons]; omega
theorem mapE_len (l : List Ent) : (mapE l).length ≤ l.length := by have := fold_len l []; unfold mapE; simpa using this
theorem fold_sub (l : List Ent) : ∀ m e, e ∈ l.foldl putE m → e ∈ m ∨ e ∈ l := by
  induction l with
  | nil => intro m e h; exact .inl h
  | cons x r ih =>
    intro m e h
    rcases ih _ e h with h1 | h1
    · rcases putE_mem m x e h1 with h2 | h2
      · subst h2; exact .inr (by simp)
      · exact .inl h2
    · exact .inr (List.mem_cons_of_mem _ h1)
theorem mapE_sub (l : List Ent) (i : Nat) (e : Ent) (h : e ∈ mapE (l.take i)) : e ∈ l := by
  rcases fold_sub _ _ _ h with h1 | h1
  · cases h1
  · exact List.mem_of_mem_take h1
/-- all keys of the map are short -/
def Short (n : Nat) (m : List Ent) : Prop := ∀ e ∈ m, e.1.length ≤ n ∧ e.2.length ≤ n
theorem Short.put {n : Nat} {m : List Ent} {x : Ent} (h : Short n m) (hx : x.1.length ≤ n ∧ x.2.length ≤ n) : Short n (putE m x) := fun e he => by
  rcases putE_mem m x e he with h1 | h1
  · subst h1; exact hx
  · exact h e h1
theorem Short.cut {n : Nat} {m : List Ent} (h : Short n m) (k : List UInt8) : Short n (cutE m k) := fun e he => h e (List.mem_filter.1 he).1
/-- the document's put, an entry at a time: those behind, whether it has been put -/
def putG : List Ent → Ent → Bool → List Ent
  | [], x, d => if d then [] else [x]
  | y :: r, x, d => (if 0 ≤ compareBytes y.1 x.1 ∧ d = false then [x] else []) ++ ((if compareBytes y.1 x.1 ≠ 0 then [y] else []) ++ putG r x (d || decide (0 ≤ compareBytes y.1 x.1)))
theorem putG_done : ∀ (m : List Ent) (x : Ent), (∀ e ∈ m, TLt x.1 e.1) → putG m x true = m
  | [], x, _ => by simp [putG]
  | y :: r, x, h => by
    unfold putG
    have h1 : 0 < compareBytes y.1 x.1 := (h y (by simp)).gt
    rw [if_neg (by simp), if_pos (by omega), Bool.true_or, putG_done r x (fun e he => h e (List.mem_cons_of_mem _ he))]
    rfl
theorem putG_put : ∀ (m : List Ent) (x : Ent), Up m → putG m x false = putE m x
  | [], x, _ => by simp [putG, putE]
  | y :: r, x, h => by
    obtain ⟨h1, h2⟩ := List.pairwise_cons.1 h
    unfold putG putE
    by_cases hlt : compareBytes y.1 x.1 < 0
    · rw [if_neg (by omega), if_pos (by omega), if_pos hlt]
      have : (false || decide (0 ≤ compareBytes y.1 x.1)) = false := by simp; omega
      rw [this, putG_put r x h2]; rfl
    · rw [if_pos ⟨by omega, rfl⟩, if_neg hlt]
      have hd : (false || decide (0 ≤ compareBytes y.1 x.1)) = true := by simp; omega
      rw [hd]
      by_cases he : y.1 = x.1
      · rw [if_pos he]
        have h0 : compareBytes y.1 x.1 = 0 := by rw [he]; exact cb_refl _
        rw [if_neg (by omega), putG_done r x (fun e hm => by rw [← he]; exact h1 e hm)]; rfl
      · rw [if_neg he]
        have hl := not_lt_cases hlt he
        have := hl.gt
        rw [if_pos (by omega), putG_done r x (fun e hm => hl.trans (h1 e hm))]; rfl
/-- a key, and of a put a value, that may be -/
def goodE (c : CallD) : Prop := 1 ≤ c.key.length ∧ c.key.length ≤ 64 ∧ (c.kd ≠ 2 ∨ c.val.length ≤ 256)
instance (c : CallD) : Decidable (goodE c) := inferInstanceAs (Decidable (_ ∧ _))
/-- does a call count? -/
def countsE (c : CallD) : Prop := goodE c ∧ 0 ≤ c.pt ∧ c.er = 0 ∧ (c.kd = 2 ∨ c.kd = 3)
instance (c : CallD) : Decidable (countsE c) := inferInstanceAs (Decidable (_ ∧ _))
/-- what a call does to a map -/
def doesE (m : List Ent) (c : CallD) : List Ent := if countsE c then (if c.kd = 2 then putE m (c.key, c.val) else cutE m c.key) else m
theorem doesE_up {m : List Ent} (h : Up m) (c : CallD) : Up (doesE m c) := by
  unfold doesE; split
  · split
    · exact putE_up _ _ h
    · exact cutE_up h _
  · exact h
theorem doesE_len (m : List Ent) (c : CallD) : (doesE m c).length ≤ m.length + 1 := by
  unfold doesE; split
  · split
    · exact putE_len _ _
    · have := cutE_len m c.key; omega
  · omega
/-- does a call that is done answer what the map has? -/
def answerE (m : List Ent) (c : CallD) : Prop :=
  if goodE c then
    (if c.kd = 1 then c.er = 0 ∧ c.th = (hasE m c.key).isSome ∧ c.ans = (hasE m c.key).getD []
     else (c.kd = 2 ∧ c.er = 2 ∧ c.th = false ∧ hasE m c.key = none) ∨ (¬ (c.kd = 2 ∧ c.er = 2) ∧ c.er = 0 ∧ c.th = (hasE m c.key).isSome))
  else c.er = 3 ∧ c.th = false ∧ (c.kd ≠ 1 ∨ c.ans = [])
instance (m : List Ent) (c : CallD) : Decidable (answerE m c) := by unfold answerE; infer_instance
/-- has the earlier call x the point of c, or does it overlap c's as the same client's? -/
def clashE (c x : CallD) : Prop := (0 ≤ c.pt ∧ x.pt = c.pt) ∨ (x.cl = c.cl ∧ (x.dn = false ∨ c.fst < x.lst))
instance (c x : CallD) : Decidable (clashE c x) := inferInstanceAs (Decidable (_ ∨ _))
/-- a call's moments, by themselves -/
def momentE (c : CallD) : Prop :=
  ¬ (c.fst < 0 ∨ (c.dn = true ∧ c.lst < c.fst)) ∧
  (if c.kd = 1 ∨ c.kd = 2 ∨ c.kd = 3 then (if c.dn = true then c.fst ≤ c.pt ∧ c.pt ≤ c.lst else c.pt = -1 ∨ c.fst ≤ c.pt) else c.pt = -1)
instance (c : CallD) : Decidable (momentE c) := by unfold momentE; infer_instance
/-- are the moments of call i right, among those ahead of it? -/
def pointE (l : List CallD) (i : Nat) (c : CallD) : Prop := momentE c ∧ ∀ x ∈ l.take i, ¬ clashE c x
instance (l : List CallD) (i : Nat) (c : CallD) : Decidable (pointE l i c) := by unfold pointE; infer_instance
end Go.Proofs.Ytpbnngfiinihmaa

namespace Go.Proofs.Ytpbnngfiinihmaa
open Go.RowKit
/-- a flag that is told as a decision -/
theorem ret_bool {b : Bool} {P : Prop} [Decidable P] (h : b = true ↔ P) : Ending.returned (.bool b) = .returned (.bool (decide P)) := by
  cases b <;> simp_all
set_option maxRecDepth 100000 in
theorem isNaN_any (a : Int) (w : World) : Calls Try.prog 42 #[.int .i64 a] w fun e w' => e = .returned (.bool false) ∧ w = w' := by
  go_enter Try.func42, Try.ntmps42
  go_wp2
  go_ret
  exact ⟨rfl, rfl⟩
set_option maxRecDepth 100000 in
theorem cmp_any (a b : Int) (w : World) : Calls Try.prog 19 #[.int .i64 a, .int .i64 b] w fun e w' => (∃ z : Int, e = .returned (.int .i64 z) ∧ (z < 0 ↔ a < b)) ∧ w = w' := by
  go_enter Try.func19, Try.ntmps19
  go_wp2_with (go_at_call 42; refine (isNaN_any _ _).mono ?_; rintro e w1 ⟨rfl, rfl⟩)
  all_goals go_ret
  · exact ⟨⟨-1, rfl, by omega⟩, rfl⟩
  · exact ⟨⟨1, rfl, by omega⟩, rfl⟩
  · exact ⟨⟨0, rfl, by omega⟩, rfl⟩
set_option maxRecDepth 100000 in
theorem write_any (k : Int) (w : World) : Calls Try.prog 35 #[.int .i64 k] w fun e w' => e = .returned (.bool (decide (k = 2 ∨ k = 3))) ∧ w = w' := by
  go_enter Try.func35, Try.ntmps35
  go_wp2
  all_goals (go_ret; exact ⟨ret_bool (by simp <;> omega), rfl⟩)
set_option maxRecDepth 100000 in
theorem single_any (k : Int) (w : World) : Calls Try.prog 43 #[.int .i64 k] w fun e w' => e = .returned (.bool (decide (k = 1 ∨ k = 2 ∨ k = 3))) ∧ w = w' := by
  go_enter Try.func43, Try.ntmps43
  go_wp2_with (go_at_call 35; refine (write_any _ _).mono ?_; rintro e w1 ⟨rfl, rfl⟩)
  all_goals (go_ret; exact ⟨ret_bool (by simp <;> omega), rfl⟩)
set_option maxRecDepth 100000 in
theorem good_any (F : Nat → Prop) (c : CallD) (x : CallX) (w : World) (h : CallW w F c x) : Calls Try.prog 46 #[opV c x] w fun e w' => e = .returned (.bool (decide (goodE c))) ∧ Below w.heap.size w w' := by
  have H := Lib.hid h
  clear h
  go_enter Try.func46, Try.ntmps46
  have hk := Lib.hid H.out.kq
  have hv := Lib.hid H.out.vq
  go_wp2
  all_goals (go_ret; refine ⟨ret_bool ?_, (Below.refl _ _).alloc (Nat.le_refl _) _⟩; have h1 := hk.out; have h2 := hv.out; simp only [goodE, ← h1, ← h2]; simp <;> omega)
end Go.Proofs.Ytpbnngfiinihmaa

namespace Go.Proofs.Ytpbnngfiinihmaa
open Go.RowKit
open Go.Lib (compareBytes)
/-- a text, as a string -/
def sOf (bs : List UInt8) : ByteArray := ⟨bs.toArray⟩
set_option maxRecDepth 100000 in
theorem conv_any (w : World) (F : Nat → Prop) (A : Option Addr) (n c : Nat) (bs : List UInt8) (h : Rd w F 1 A n (bvs bs)) (hn : n = bs.length) :
    (convert 36 9 (.slice A n c)).run Try.prog w = .ok (.string (sOf bs)) w := by
  cases A with
  | none =>
    have h0 : n = 0 := by
      rcases Nat.eq_zero_or_pos n with h0 | h0
      · exact h0
      · obtain ⟨_, _, e, _⟩ := h.2 h0; cases e
    subst h0
    have hb : bs = [] := List.eq_nil_of_length_eq_zero hn.symm
    subst hb
    exact run_convert_bytes_nil w 36 5 Try.underlying36 Try.underlying5 0 c _ Try.underlying9
  | some a =>
    rcases Nat.eq_zero_or_pos n with h0 | h0
    · subst h0
      have hb : bs = [] := List.eq_nil_of_length_eq_zero hn.symm
      subst hb
      rw [run_convert_bytes_string w 36 9 5 (some a) 0 c Try.underlying36 Try.underlying5 Try.underlying9]
      have hl : (loadCells a 0).run Try.prog w = .ok (([] : List Int).map (Value.int .u8)).toArray w := run_loadCells_list (P := Try.prog) w a [] (fun j v hj => by simp at hj)
      exact (run_bytesToString w a 0 c [] hl).trans (by rw [foldl_push_bytes]; simp only [sOf, ByteArray.empty, ByteArray.emptyWithCapacity]; congr 2)
    · obtain ⟨b, o, e, _, hc⟩ := h.2 h0
      injection e with e
      subst e
      have hk := run_convert_bytes_arg (P := Try.prog) w 36 5 Try.underlying36 Try.underlying5 b o n c (bs.map fun x => (x.toNat : Int)) (by simp [hn]) (fun i hi => by
        have hl : i < bs.length := by omega
        rw [hc i (bv bs[i]) (by simp [bvs, List.getElem?_eq_getElem hl])]
        simp [bv, List.getD, List.getElem?_eq_getElem hl]) _ Try.underlying9
      rw [hk]
      congr 2
      simp [strOfNums, sOf, Function.comp_def]
theorem compare_any (A B : Option Addr) (n m c d : Nat) (F G : Nat → Prop) (xs ys : List UInt8) (w : World) (h : Rd w F 1 A n (bvs xs)) (hn : n = xs.length) (k : Rd w G 1 B m (bvs ys)) (hm : m = ys.length) :
    Calls Try.prog 34 #[.slice A n c, .slice B m d] w fun e w' => e = .returned (.int .i64 (Lib.compareBytes xs ys)) ∧ w = w' := by
  have hl : (callFunc 54 #[.slice A n c, .slice B m d]).run Try.prog w = .ok (.value (.int .i64 (Lib.compareBytes xs ys))) w := by
    rw [run_callFunc_extern Try.func54 (by kernel_rfl) (by kernel_rfl) (by kernel_rfl) (e := Extern.BytealgCompare.compare) (by kernel_rfl), run_compareSlices h hn k hm]
    rfl
  clear h k hn hm
  go_enter Try.func34, Try.ntmps34
  go_wp2
  go_ret
  exact ⟨rfl, rfl⟩
theorem u8_info : (Try.prog.info? 5).map (fun i => (i.zero, i.size, i.bytes)) = some (some (.int .u8 0), 1, 1) := by kernel_rfl
/-- the answer is a text in new memory -/
def NewText (w : World) (bs : List UInt8) (e : Ending) (w' : World) : Prop :=
  ∃ A n c, e = .returned (.slice A n c) ∧ n ≤ c ∧ c ≤ maxLen ∧ Hid (n = bs.length) ∧ Rd w' (Soft (From w.heap.size) w') 1 A n (bvs bs) ∧ Below w.heap.size w w'

set_option maxRecDepth 100000 in
theorem clone_any (A : Option Addr) (n c : Nat) (F : Nat → Prop) (bs : List UInt8) (w : World) (h : Rd w F 1 A n (bvs bs)) (hn : n = bs.length) (hn2 : n ≤ 1152921504606) :
    Calls Try.prog 49 #[.slice A n c] w (NewText w bs) := by
  obtain ⟨i0, hi0, hz0, hz1, hz2⟩ := info_parts u8_info
  have hq := fun (w : World) (a : Option Addr) (n c : Nat) => Lib.run_eql_slice_nil (P := Try.prog) w 36 5 a n c 0 0 Try.underlying36
  cases A with
  | none =>
    have h0 : n = 0 := by
      rcases Nat.eq_zero_or_pos n with h0 | h0
      · exact h0
      · obtain ⟨_, _, e, _⟩ := h.2 h0; cases e
    subst h0
    have hb : bs = [] := List.eq_nil_of_length_eq_zero hn.symm
    subst hb
    clear hn h
    go_enter Try.func49, Try.ntmps49
    go_wp2
    go_ret
    exact ⟨none, 0, 0, rfl, Nat.le_refl _, by simp [maxLen], rfl, Rd.none_ _ _ _ _, Below.refl _ _⟩
  | some a =>
    have HN := Lib.hid hn
    clear hn
    go_enter Try.func49, Try.ntmps49
    go_wp2_with (at_builtin; refine wpList_append_any _ rfl (.tmp 5) (.tmp 6) _ rfl w.heap.size 5 i0 _ 1 1 Try.underlying36 hi0 hz0 hz1 hz2 rfl (by omega) (.slice (some ⟨w.heap.size, 0, none⟩) 0 0) 0 [] rfl (own_made w _ 1) F (some a) n c (bvs bs) rfl (h.alloc _) (bvs_one bs) (by simp only [maxLen]; omega) (by omega) (by simp) ?_; intro v1 w1 hown1 hg1 hat1)
    go_ret
    simp only [Nat.zero_add, List.nil_append] at hown1
    obtain ⟨A', c', hv, h1, h2⟩ := own_val hown1
    rw [hv] at hown1
    refine ⟨A', n, c', by rw [hv]; rfl, h1, h2, HN.out, Rd.soft_of_own hown1, ((Below.refl _ _).alloc (Nat.le_refl _) _).grown hg1 (by simp) (fun k hk => ?_)⟩
    simp [Value.ownBlock] at hk; omega

theorem sOf_list (a : List UInt8) : (sOf a).toList = a := by rw [ByteArray.toList_eq]; simp [sOf]
theorem sOf_eq {a b : List UInt8} : ((sOf a).toList == (sOf b).toList) = decide (a = b) := by
  rw [sOf_list, sOf_list]
  by_cases h : a = b <;> simp [h]
theorem ret_int {k : IntKind} {a b : Int} (h : a = b) : Ending.returned (.int k a) = .returned (.int k b) := by rw [h]
set_option maxRecDepth 100000 in
theorem equal_any (F G : Nat → Prop) (A B : Option Addr) (n c m d : Nat) (xs ys : List UInt8) (w : World) (h : Rd w F 1 A n (bvs xs)) (hn : n = xs.length) (k : Rd w G 1 B m (bvs ys)) (hm : m = ys.length) :
    Calls Try.prog 27 #[.slice A n c, .slice B m d] w fun e w' => e = .returned (.bool (decide (xs = ys))) ∧ w = w' := by
  have q1 := conv_any w F A n c xs h hn
  have q2 := conv_any w G B m d ys k hm
  have q3 := sOf_eq (a := xs) (b := ys)
  clear h k hn hm
  go_enter Try.func27, Try.ntmps27
  go_wp2
  go_ret
  exact ⟨rfl, rfl⟩
set_option maxRecDepth 100000 in
set_option maxHeartbeats 2000000 in
theorem rcmp_any (A B : Option Addr) (n m c d : Nat) (F G : Nat → Prop) (xs ys : List UInt8) (w : World) (h : Rd w F 1 A n (bvs xs)) (hn : n = xs.length) (k : Rd w G 1 B m (bvs ys)) (hm : m = ys.length) (hn2 : n ≤ 1152921504606) (hm2 : m ≤ 1152921504606) :
    Calls Try.prog 39 #[.slice A n c, .slice B m d] w fun e w' => e = .returned (.int .i64 (compareBytes xs ys)) ∧ ∃ q, w' = w.drewN q := by
  have hl := comm_le xs ys
  have HCC := Lib.hid (cmpC_eq xs ys)
  have HO := Lib.hid (comm_other xs ys)
  have HSM := Lib.hid (comm_same xs ys)
  obtain ⟨q, hq⟩ : ∃ q, q = comm xs ys := ⟨_, rfl⟩
  have HQ := Lib.hid hq
  have hqn : q ≤ n := by omega
  have hqm : q ≤ m := by omega
  have HN := Lib.hid hn
  have HM := Lib.hid hm
  have HA := Lib.hid h
  have HB := Lib.hid k
  clear hn hm h k hq hl
  have hans : ∀ z : Int, (z = if q = n then (if q = m then 0 else -1) else if q = m then 1 else if xs.getD q 0 < ys.getD q 0 then -1 else 1) → z = compareBytes xs ys := fun z hz => by
    rw [HCC.out, hz]; unfold cmpC; rw [← HQ.out, ← HN.out, ← HM.out]
    by_cases e1 : q = n <;> by_cases e2 : q = m <;> simp [e1, e2] <;> omega
  have HANS := Lib.hid hans
  clear hans
  go_enter Try.func39, Try.ntmps39
  go_wp2
  go_loopg [5] n (fun g' iv wz => ∃ (i r : Nat), g' = n - i ∧ i ≤ q ∧ iv = .int .i64 i ∧ wz = w.drewN r)
  case atStart => exact ⟨0, 0, by omega, by omega, rfl, rfl⟩
  case round =>
    obtain ⟨i, r, hg, hi, rfl, rfl⟩ := hrel
    have HG := Lib.hid hg
    clear hg
    by_cases h1 : i < n
    · by_cases h2 : i < m
      · obtain ⟨b1, o1, u1, rfl, _, hx, hcx⟩ := HA.out.at_ h1
        obtain ⟨b2, o2, u2, rfl, _, hy, hcy⟩ := HB.out.at_ h2
        obtain ⟨x, hx2, rfl⟩ := bvs_at hx
        obtain ⟨y, hy2, rfl⟩ := bvs_at hy
        have HX := Lib.hid hx2
        have HY := Lib.hid hy2
        clear hx hy hx2 hy2
        simp only [bv] at hcx hcy
        by_cases e : i < q
        · have hxy : x = y := by have h := HSM.out i (by rw [← HQ.out]; exact e); rw [HX.out, HY.out] at h; injection h
          subst hxy
          go_wp2_with fail
          go_quiet (fail)
          go_wp2
          go_quiet (fail)
          go_wp2
          go_roundg (n - (i + 1))
          case measure => have := HG.out; omega
          case rel => exact ⟨i + 1, _, rfl, by omega, by go_num, rfl⟩
        · have hiq : i = q := by omega
          have hne : x ≠ y := fun e => by
            subst e
            have := HO.out (by rw [← HQ.out, ← HN.out, ← hiq]; exact h1) (by rw [← HQ.out, ← HM.out, ← hiq]; exact h2)
            rw [← HQ.out, ← hiq, HX.out, HY.out] at this
            exact this rfl
          have HZ : Hid ((if x < y then (-1 : Int) else 1) = compareBytes xs ys) := Lib.hid (HANS.out _ (by
            rw [if_neg (show ¬ q = n by omega), if_neg (show ¬ q = m by omega), ← hiq]
            simp only [List.getD, HX.out, HY.out, Option.getD_some]))
          have HIQ := Lib.hid hiq
          clear e hiq
          by_cases hlt : x < y
          · have hlt2 : (x.toNat : Int) < (y.toNat : Int) := by have := UInt8.lt_iff_toNat_lt.1 hlt; omega
            have HL := Lib.hid hlt
            clear hlt
            go_wp2_with fail
            go_quiet (fail)
            go_wp2
            go_ret
            exact ⟨ret_int (by rw [← HZ.out, if_pos HL.out]), _, World.drewN_drewN ..⟩
          · have hlt2 : (y.toNat : Int) < (x.toNat : Int) := by
              have h1 : ¬ x.toNat < y.toNat := fun h => hlt (UInt8.lt_iff_toNat_lt.2 h)
              have h2 : x.toNat ≠ y.toNat := fun h => hne (UInt8.toNat.inj h)
              omega
            have HL := Lib.hid hlt
            clear hlt hne
            go_wp2_with fail
            go_quiet (fail)
            go_wp2
            go_quiet (fail)
            go_wp2
            go_ret
            exact ⟨ret_int (by rw [← HZ.out, if_neg HL.out]), _, by rw [World.drewN_drewN, World.drewN_drewN]⟩
      · have hmq : q = m := by omega
        have hmn : m < n := by omega
        have HZ : Hid ((1 : Int) = compareBytes xs ys) := Lib.hid (HANS.out _ (by rw [if_neg (show ¬ q = n by omega), if_pos hmq]))
        have HMQ := Lib.hid hmq
        clear hmq
        go_wp2
        go_ret
        exact ⟨ret_int HZ.out, _, rfl⟩
    · have hnq : q = n := by omega
      have HNQ := Lib.hid hnq
      have hnm : n ≤ m := by omega
      by_cases hnm2 : n < m
      · have HZ : Hid ((-1 : Int) = compareBytes xs ys) := Lib.hid (HANS.out _ (by rw [if_pos hnq, if_neg (show ¬ q = m by omega)]))
        clear hnq
        go_wp2
        go_ret
        exact ⟨ret_int HZ.out, _, rfl⟩
      · have HZ : Hid ((0 : Int) = compareBytes xs ys) := Lib.hid (HANS.out _ (by rw [if_pos hnq, if_pos (show q = m by omega)]))
        clear hnq
        go_wp2
        go_ret
        exact ⟨ret_int HZ.out, _, rfl⟩
/-- so many bytes a key may have -/
def keyN (n : Nat) : Prop := 1 ≤ n ∧ n ≤ 64
instance (n : Nat) : Decidable (keyN n) := inferInstanceAs (Decidable (_ ∧ _))
set_option maxRecDepth 100000 in
theorem rkey_any (A : Option Addr) (n c : Nat) (w : World) : Calls Try.prog 62 #[.slice A n c] w fun e w' => e = .returned (.bool (decide (keyN n))) ∧ w = w' := by
  go_enter Try.func62, Try.ntmps62
  go_wp2
  all_goals (go_ret; exact ⟨ret_bool (by simp [keyN] <;> omega), rfl⟩)
set_option maxRecDepth 100000 in
theorem rvalue_any (A : Option Addr) (n c : Nat) (w : World) : Calls Try.prog 63 #[.slice A n c] w fun e w' => e = .returned (.bool (decide (n ≤ 256))) ∧ w = w' := by
  go_enter Try.func63, Try.ntmps63
  go_wp2
  go_ret
  exact ⟨ret_bool (by simp <;> omega), rfl⟩
end Go.Proofs.Ytpbnngfiinihmaa
