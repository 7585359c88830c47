/- A packed tree is sound and packed: the plain law of nodes, lows, kids and entries. No program in sight. WALKS: parts of the document's leaves. WALKS: the document's leaves: an entry is put into the last leaf. WALKS: the document's leaves. -/
import Derived.Test.YtgjphmlmndcaeaaPs11
set_option linter.unusedVariables false
set_option linter.unusedSimpArgs false
namespace Go.Proofs.Ytgjphmlmndcaeaa
open Go.RowKit

/-- what node.Check asks of a node -/
structure Fine (nd lf : Int) (inn : Nat) (x : Nd) : Prop where
  lev0 : 0 ≤ x.lev
  lev1 : x.lev ≤ 32
  right0 : 0 ≤ x.right
  right1 : x.right ≤ nd
  last : x.high = [] ↔ x.right = 0
  high : x.high.length ≤ 64
  up : ∀ j a b, x.keys[j]? = some a → x.keys[j + 1]? = some b → TLt a b
  key : ∀ a ∈ x.keys, 1 ≤ a.length ∧ a.length ≤ 64 ∧ (x.high = [] ∨ TLt a x.high)
  leaf : x.lev = 0 → x.vals.length = x.keys.length ∧ (x.keys.length : Int) ≤ lf ∧ x.kids = [] ∧ ∀ v ∈ x.vals, v.length ≤ 256
  inner : x.lev ≠ 0 → x.vals = [] ∧ x.kids.length = x.keys.length + 1 ∧ x.kids.length ≤ inn ∧ x.kids.Nodup ∧ ∀ k ∈ x.kids, 1 ≤ k ∧ k ≤ nd

/-- the low of node i of a level with these highs -/
def lowOf (h : Nat → List UInt8) (i : Nat) : List UInt8 := if i = 0 then [] else h (i - 1)
/-- what a chain asks of a node behind a low -/
def LowOk (low : List UInt8) (x : Nd) : Prop := low ≠ [] → (∀ a, x.keys[0]? = some a → TLe low a) ∧ (x.high = [] ∨ TLt low x.high)
/-- the entries of leaf i -/
def lpart (fill : Nat) (l : List Ent) (i : Nat) : List Ent := (l.drop (i * fill)).take fill

section
variable {fill inn : Nat} {l : List Ent}
theorem leaf_keys (i : Nat) : (sL fill inn l 0 i).2.keys = (lpart fill l i).map Prod.fst := rfl
theorem leaf_vals (i : Nat) : (sL fill inn l 0 i).2.vals = (lpart fill l i).map Prod.snd := rfl
theorem lpart_len (i : Nat) : (lpart fill l i).length = min fill (l.length - i * fill) := by simp [lpart]
theorem lpart_at (i j : Nat) : (lpart fill l i)[j]? = if j < fill then l[i * fill + j]? else none := by
  unfold lpart; rw [List.getElem?_take]; split
  · rw [List.getElem?_drop]
  · rfl
theorem getD_some {i : Nat} {e : Ent} (h : l[i]? = some e) : l.getD i ([], []) = e ∧ i < l.length := ⟨by simp [List.getD, h], (List.getElem?_eq_some_iff.1 h).1⟩
theorem lparts (m : Nat) : (List.range m).flatMap (lpart fill l) = l.take (m * fill) := by
  induction m with
  | zero => simp
  | succ m ih =>
    rw [List.range_succ, List.flatMap_append, ih, List.flatMap_singleton, lpart, Nat.add_mul, Nat.one_mul, List.take_add]
theorem pn_all (hf : 1 ≤ fill) : l.length ≤ nL fill inn l 0 * fill := by
  rcases Nat.eq_zero_or_pos l.length with h | h
  · omega
  · exact (pn_bounds l.length fill hf h).1
theorem leaf_entries (hf : 1 ≤ fill) : (List.range (nL fill inn l 0)).flatMap (lpart fill l) = l := by
  rw [lparts, List.take_of_length_le (pn_all hf)]
theorem hL_none {k : Nat} (h : HOk fill inn l k) {i : Nat} (hi : i < nL fill inn l k) : hL fill inn l k i = [] ↔ ¬ i + 1 < nL fill inn l k := by
  constructor
  · intro e hx
    have := h.some_ i hx
    rw [e] at this
    simp at this
  · intro hx
    exact h.none_ i (by omega)
theorem hL_len {k : Nat} (h : HOk fill inn l k) {i : Nat} (hi : i < nL fill inn l k) : (hL fill inn l k i).length ≤ 64 := by
  by_cases hx : i + 1 < nL fill inn l k
  · exact (h.some_ i hx).2
  · rw [(hL_none h hi).2 hx]; simp
theorem lowOf_succ (hf : 1 ≤ fill) (hi : 1 ≤ inn) {k i : Nat} (h : i < nL fill inn l (k + 1)) : lowOf (hL fill inn l (k + 1)) i = lowOf (hL fill inn l k) (i * inn) := by
  unfold lowOf
  rcases Nat.eq_zero_or_pos i with h0 | h0
  · subst h0; simp
  · have hm : 1 ≤ i * inn := Nat.mul_pos h0 hi
    rw [if_neg (by omega), if_neg (by omega), hL_succ hf hi (by omega)]
    have hM := nL_pos (l := l) hf hi k
    have h1 := mK_end (inn := inn) hi hM (i := i - 1) (by show i - 1 < nL fill inn l (k + 1); omega)
    have h2 := (pn_lt hi hM).1 (show i < pn (nL fill inn l k) inn from h)
    rw [show i - 1 + 1 = i by omega] at h1
    congr 1
    omega
/-- kid j of a node -/
theorem lv_kid (hf : 1 ≤ fill) (hi : 1 ≤ inn) {k i j : Nat} (h : i < nL fill inn l (k + 1)) (hj : j < mK inn (nL fill inn l k) i) :
    (sL fill inn l (k + 1) i).2.kids[j]? = some ((dL fill inn l k : Int) + ((i * inn + j : Nat) : Int) + 1) ∧ i * inn + j < nL fill inn l k ∧ (j ≠ 0 → (sL fill inn l (k + 1) i).2.keys[j - 1]? = some (lowOf (hL fill inn l k) (i * inn + j))) ∧ (j = 0 → lowOf (hL fill inn l (k + 1)) i = lowOf (hL fill inn l k) (i * inn + j)) := by
  refine ⟨?_, by unfold mK at hj; omega, fun h0 => ?_, fun h0 => ?_⟩
  · rw [kids_succ, List.getElem?_map, List.getElem?_range hj]; rfl
  · rw [keys_succ, List.getElem?_map, List.getElem?_range (by omega)]
    unfold lowOf
    rw [if_neg (by omega), show i * inn + j - 1 = i * inn + (j - 1) by omega]
    rfl
  · subst h0; exact lowOf_succ hf hi h
theorem kids_len (k i : Nat) : (sL fill inn l (k + 1) i).2.kids.length = mK inn (nL fill inn l k) i := by rw [kids_succ]; simp
theorem low_ok (hr : Rising l) (hf : 1 ≤ fill) (hi : 1 ≤ inn) {k i : Nat} (h : i < nL fill inn l k) : LowOk (lowOf (hL fill inn l k) i) (sL fill inn l k i).2 := by
  intro hne
  have H := hok (inn := inn) hr hf hi k
  have h0 : i ≠ 0 := fun e => hne (by simp [lowOf, e])
  have el : lowOf (hL fill inn l k) i = hL fill inn l k (i - 1) := by simp [lowOf, h0]
  refine ⟨fun a ha => ?_, ?_⟩
  · cases k with
    | zero =>
      rw [el]
      have hs := (sep_ok hr hf (leaf_lt hf (i := i - 1) (by show i - 1 + 1 < nL fill inn l 0; omega))).2.1
      rw [show i - 1 + 1 = i by omega] at hs
      rw [leaf_keys, List.getElem?_map, lpart_at, if_pos (by omega), Nat.add_zero] at ha
      obtain ⟨e, he, rfl⟩ := Option.map_eq_some_iff.1 ha
      rw [← (getD_some he).1]
      exact hs
    | succ k =>
      rw [lowOf_succ hf hi h]
      have hk := (keys_succ (fill := fill) (inn := inn) (l := l) k i)
      rw [hk, List.getElem?_map] at ha
      obtain ⟨j, hj, rfl⟩ := Option.map_eq_some_iff.1 ha
      have hj0 : j = 0 ∧ 0 < mK inn (nL fill inn l k) i - 1 := by
        have hlt := (List.getElem?_eq_some_iff.1 hj).1
        rw [List.length_range] at hlt
        rw [List.getElem?_range hlt] at hj
        injection hj with hj
        exact ⟨hj.symm, hlt⟩
      obtain ⟨rfl, hm⟩ := hj0
      have hm1 : 1 ≤ i * inn := Nat.mul_pos (by omega) hi
      unfold lowOf
      rw [if_neg (by omega)]
      refine ((hok (inn := inn) hr hf hi k).up _ _ (by omega) ?_).le
      unfold mK at hm
      omega
  · rw [high_eq, el]
    by_cases hl : i + 1 < nL fill inn l k
    · exact .inr (H.up _ _ (by omega) hl)
    · exact .inl ((hL_none H h).2 hl)
theorem dL_succ (k : Nat) : dL fill inn l (k + 1) = dL fill inn l k + nL fill inn l k := rfl
theorem fine_ok (hr : Rising l) (hf : 1 ≤ fill) (hi : 1 ≤ inn) {nd lf : Int} (hlf : (fill : Int) ≤ lf) {k i : Nat} (hk : k ≤ 32) (hd : (dL fill inn l (k + 1) : Int) ≤ nd) (h : i < nL fill inn l k) : Fine nd lf inn (sL fill inn l k i).2 := by
  have H := hok (inn := inn) hr hf hi k
  have hds := dL_succ (fill := fill) (inn := inn) (l := l) k
  refine ⟨by rw [lev_eq]; omega, by rw [lev_eq]; omega, by rw [right_eq]; split <;> omega, by rw [right_eq]; split <;> omega, ?_, by rw [high_eq]; exact hL_len H h, ?_, ?_, ?_, ?_⟩
  · rw [high_eq, hL_none H h, right_eq]
    split
    · rename_i hx; simp only [hx, not_true, false_iff]; omega
    · rename_i hx; simp [hx]
  · intro j a b ha hb
    cases k with
    | zero =>
      rw [leaf_keys, List.getElem?_map, lpart_at] at ha hb
      obtain ⟨e, he, rfl⟩ := Option.map_eq_some_iff.1 ha
      obtain ⟨e', he', rfl⟩ := Option.map_eq_some_iff.1 hb
      split at he
      · split at he'
        · have q1 := getD_some he
          have q2 := getD_some he'
          rw [← q1.1, ← q2.1]
          exact rising_lt hr 0 _ q2.2
        · cases he'
      · cases he
    | succ k =>
      rw [keys_succ, List.getElem?_map] at ha hb
      obtain ⟨c, hc, rfl⟩ := Option.map_eq_some_iff.1 ha
      obtain ⟨d, hd', rfl⟩ := Option.map_eq_some_iff.1 hb
      have l1 := (List.getElem?_eq_some_iff.1 hc).1
      have l2 := (List.getElem?_eq_some_iff.1 hd').1
      rw [List.length_range] at l1 l2
      rw [List.getElem?_range l1] at hc
      rw [List.getElem?_range l2] at hd'
      injection hc with hc
      injection hd' with hd'
      subst hc hd'
      refine (hok (inn := inn) hr hf hi k).up _ _ (by omega) ?_
      unfold mK at l2
      omega
  · intro a ha
    rw [high_eq]
    cases k with
    | zero =>
      rw [leaf_keys] at ha
      obtain ⟨e, he, rfl⟩ := List.mem_map.1 ha
      obtain ⟨j, hj, rfl⟩ := List.mem_iff_getElem.1 he
      have hj' : (lpart fill l i)[j]? = some ((lpart fill l i)[j]) := List.getElem?_eq_getElem hj
      rw [lpart_at] at hj'
      split at hj'
      · have q := getD_some hj'
        have ql := rising_ent hr q.2
        rw [q.1] at ql
        refine ⟨ql.1, ql.2.1, ?_⟩
        by_cases hl : i + 1 < nL fill inn l 0
        · refine .inr ?_
          have hs := (sep_ok hr hf (leaf_lt hf hl)).1
          have hlt := leaf_lt hf hl
          rw [← q.1]
          have em : (i + 1) * fill = i * fill + fill := by rw [Nat.add_mul, Nat.one_mul]
          rcases Nat.lt_or_ge (i * fill + j) ((i + 1) * fill - 1) with h8 | h8
          · have := rising_lt hr ((i + 1) * fill - 1 - (i * fill + j) - 1) (i * fill + j) (by omega)
            rw [show i * fill + j + ((i + 1) * fill - 1 - (i * fill + j) - 1) + 1 = (i + 1) * fill - 1 by omega] at this
            exact this.trans hs
          · rw [show i * fill + j = (i + 1) * fill - 1 by omega]
            exact hs
        · exact .inl ((hL_none H h).2 hl)
      · cases hj'
    | succ k =>
      have HK := hok (inn := inn) hr hf hi k
      rw [keys_succ] at ha
      obtain ⟨j, hj, rfl⟩ := List.mem_map.1 ha
      have hj : j < mK inn (nL fill inn l k) i - 1 := by simpa using hj
      have hmM : i * inn + j + 1 < nL fill inn l k := by unfold mK at hj; omega
      have hs := HK.some_ _ hmM
      refine ⟨hs.1, hs.2, ?_⟩
      by_cases hl : i + 1 < nL fill inn l (k + 1)
      · refine .inr ?_
        rw [hL_succ hf hi h]
        have h1 := mK_end (inn := inn) hi (nL_pos (l := l) hf hi k) h
        have h2 := (pn_lt hi (nL_pos (l := l) hf hi k)).1 (show i + 1 < pn (nL fill inn l k) inn from hl)
        exact HK.up _ _ (by omega) (by omega)
      · exact .inl ((hL_none H h).2 hl)
  · intro h0
    have hk0 : k = 0 := by rw [lev_eq] at h0; omega
    subst hk0
    refine ⟨by rw [leaf_keys, leaf_vals, List.length_map, List.length_map], ?_, rfl, fun v hv => ?_⟩
    · rw [leaf_keys, List.length_map, lpart_len]; omega
    · rw [leaf_vals] at hv
      obtain ⟨e, he, rfl⟩ := List.mem_map.1 hv
      obtain ⟨j, hj, rfl⟩ := List.mem_iff_getElem.1 he
      have hj' : (lpart fill l i)[j]? = some ((lpart fill l i)[j]) := List.getElem?_eq_getElem hj
      rw [lpart_at] at hj'
      split at hj'
      · have q := getD_some hj'
        have ql := rising_ent hr q.2
        rw [q.1] at ql
        exact ql.2.2
      · cases hj'
  · intro h0
    cases k with
    | zero => exact absurd (lev_eq 0 i) h0
    | succ k =>
      have hp := mK_pos (inn := inn) hi (nL_pos (l := l) hf hi k) h
      refine ⟨rfl, by rw [kids_len, keys_succ, List.length_map, List.length_range]; omega, by rw [kids_len]; unfold mK; omega, ?_, ?_⟩
      · rw [kids_succ]
        refine List.Pairwise.map _ (R := (· ≠ ·)) (fun a b hab => by omega) List.nodup_range
      · intro x hx
        rw [kids_succ] at hx
        obtain ⟨j, hj, rfl⟩ := List.mem_map.1 hx
        have hj : j < mK inn (nL fill inn l k) i := by simpa using hj
        have hk2 := dL_succ (fill := fill) (inn := inn) (l := l) k
        unfold mK at hj
        omega
/-- as Packed asks -/
theorem packed_leaf (hf : 1 ≤ fill) {i : Nat} (h : i < nL fill inn l 0) : (lpart fill l i).length ≤ fill ∧ (i + 1 < nL fill inn l 0 → (lpart fill l i).length = fill) ∧ (1 < nL fill inn l 0 → 1 ≤ (lpart fill l i).length) := by
  rw [lpart_len]
  refine ⟨by omega, fun hl => ?_, fun hl => ?_⟩
  · have := leaf_lt hf hl
    rw [Nat.add_mul] at this
    omega
  · have h0 : 1 ≤ l.length := by
      rcases Nat.eq_zero_or_pos l.length with h0 | h0
      · have e : nL fill inn l 0 = pn l.length fill := rfl
        rw [e, h0, pn_zero] at hl; omega
      · exact h0
    have := (pn_lt hf h0).1 (show i < pn l.length fill from h)
    omega
theorem packed_inner (hf : 1 ≤ fill) (hi : 1 ≤ inn) {k i : Nat} (h : i + 1 < nL fill inn l (k + 1)) : mK inn (nL fill inn l k) i = inn := by
  have := (pn_lt hi (nL_pos (l := l) hf hi k)).1 (show i + 1 < pn (nL fill inn l k) inn from h)
  rw [Nat.add_mul] at this
  unfold mK; omega
/-- how many kids the first m nodes have -/
theorem kids_sum (M m : Nat) : ((List.range m).map (mK inn M)).sum = min (m * inn) M := by
  induction m with
  | zero => simp
  | succ m ih =>
    rw [List.range_succ, List.map_append, List.sum_append, ih, List.map_singleton, List.sum_singleton, Nat.add_mul]
    unfold mK; omega
theorem kids_all (hf : 1 ≤ fill) (hi : 1 ≤ inn) (k : Nat) : ((List.range (nL fill inn l (k + 1))).map (mK inn (nL fill inn l k))).sum = nL fill inn l k := by
  rw [kids_sum]
  have := (pn_bounds (nL fill inn l k) inn hi (nL_pos (l := l) hf hi k)).1
  exact Nat.min_eq_right this
theorem keys_sum (m : Nat) : ((List.range m).map fun i => (lpart fill l i).length).sum = min (m * fill) l.length := by
  induction m with
  | zero => simp
  | succ m ih =>
    rw [List.range_succ, List.map_append, List.sum_append, ih, List.map_singleton, List.sum_singleton, Nat.add_mul, lpart_len]
    omega
/-- the tree's slots are these levels -/
theorem tree_shape {nd lf bl : Int} (hc : cfgOk nd lf inn fill bl) (hf : (nodesOf nd lf inn fill bl l.length).2 = 0) :
    ∃ L, L ≤ 31 ∧ nL fill inn l L = 1 ∧ (∀ j, j < L → 1 < nL fill inn l j) ∧ (treeOf fill inn l).2 = (dL fill inn l L : Int) + 1 ∧ (treeOf fill inn l).1.length = dL fill inn l (L + 1) ∧ (nodesOf nd lf inn fill bl l.length).1 = (dL fill inn l (L + 1) : Int) ∧ (dL fill inn l (L + 1) : Int) ≤ nd ∧
      ∀ k i, k ≤ L → i < nL fill inn l k → ∃ s, (treeOf fill inn l).1[dL fill inn l k + i]? = some s ∧ s.2 = (sL fill inn l k i).2 := by
  rw [nodesOf_ok hc (by omega)] at hf ⊢
  obtain ⟨c1, c2, c3, c4, c5, c6, c7, c8, c9, c10⟩ := hc
  have h1 : 1 ≤ fill := by omega
  have h2 : 1 ≤ inn := by omega
  rw [← pn_cast _ _ h1] at hf ⊢
  have e0 : ((pn l.length fill : Nat) : Int) = (nL fill inn l 0 : Int) := rfl
  have e1 : (0 : Int) = (dL fill inn l 0 : Int) := rfl
  rw [e0, e1] at hf ⊢
  obtain ⟨L, a, b, c, d, u, v, x⟩ := ups_flat (nd := nd) h1 h2 32 0 hf
  refine ⟨L, by omega, c, fun j hj => d j (by omega) hj, ?_⟩
  by_cases hl : l = []
  · subst hl
    have hn0 : nL fill inn ([] : List Ent) 0 = 1 := pn_zero fill
    have hL0 : L = 0 := by
      rcases Nat.eq_zero_or_pos L with h | h
      · exact h
      · have := d 0 (by omega) h; omega
    subst hL0
    rw [treeOf_nil]
    refine ⟨rfl, ?_, v, x, fun k i hk hi => ?_⟩
    · rw [dL_succ, hn0]; rfl
    · have hk0 : k = 0 := by omega
      subst hk0
      rw [hn0] at hi
      have hi0 : i = 0 := by omega
      subst hi0
      refine ⟨_, rfl, ?_⟩
      show Nd.zero = (leafS fill [] (nL fill inn [] 0) 0).2
      rw [hn0]
      simp [leafS, hiAt, Nd.zero]
  · have e3 : ups inn 32 1 (leafD fill l) (leafK fill l) = (flat fill inn l (L + 1), lvK (dL fill inn l L) (nL fill inn l L) (hL fill inn l L)) := u
    rw [treeOf_cons hl, e3]
    refine ⟨?_, flat_len _, v, x, fun k i hk hi => ⟨_, flat_at (L + 1) k i (by omega) hi, rfl⟩⟩
    show ((lvK (dL fill inn l L) (nL fill inn l L) (hL fill inn l L)).headD (0, [])).1 = _
    rw [c, lvK]
    simp
end
end Go.Proofs.Ytgjphmlmndcaeaa

namespace Go.Proofs.Ytgjphmlmndcaeaa
open Go.RowKit
noncomputable def rlBetwC : Code := codeOr (Try.f43.body.bind (regionAt 6))
set_option maxRecDepth 100000 in
set_option maxHeartbeats 4000000 in
theorem rl_betw (b o n c i : Nat) (Ak Bk : Option Addr) (nk nk3 ck ck3 : Nat) (D : Nat → Prop) (xs ys : List UInt8) (w : World) {u0 u2 u3 u4 u5 u7 u8 u9 u10 u11 u12 u13 u14 u15 u16 u17 u18 u19 u20 u21 u22 u23 u24 u25 u26 u27 u28 u29 u30 u31 u32 u33 u34 u35 u36 u37 u38 u39 u40 u41 u42 u43 u44 u45 u46 u47 u48 u49 u50 u51 u52 u53 u54 u55 u56 u57 u58 u59 u60 u61 u62 u63 u64 u65 u66 u67 u68 u69 u70 u71 u72 u73 u74 u75 u76 u77 u78 u79 u80 u81 u82 u83 u84 u85 u86 u87 u88 u89 u90 u91 : Value} (Q : Exit → Act → World → Prop) (HQP : Hid (∀ c t (a : Act) w, Q (.panic c) ⟨t, a.defers⟩ w → Q (.panic c) a w))
    (hi : 1 ≤ i) (hin : i < n) (hn : n ≤ 1152921504606)
    (c1 : w.cell? ⟨b, o + (i - 1) * 2, none⟩ = some (.slice Ak nk ck)) (c2 : w.cell? ⟨b, o + i * 2, none⟩ = some (.slice Bk nk3 ck3))
    (HSA : Hid (Bt w D Ak nk ck xs)) (HSB : Hid (Bt w D Bk nk3 ck3 ys)) (lx : xs.length ≤ 1152921504606) (ly : ys.length ≤ 1152921504606)
    (hexit : ∀ (v27 v28 v29 v30 v31 v32 v33 v34 v35 v36 v37 v38 v39 v40 v41 : Value) (K5 : Option Addr) (n5 c5 : Nat) (e5 : Int) (w5 : World), Bt w5 (From w.heap.size) K5 n5 c5 (betw xs ys).1 → Below w.heap.size w w5 → Q .normal ⟨(u0 :: .slice (some ⟨b, o, none⟩) n c :: u2 :: u3 :: u4 :: u5 :: .int .i64 i :: .slice K5 n5 c5 :: .int .i64 e5 :: u9 :: u10 :: u11 :: u12 :: u13 :: u14 :: u15 :: u16 :: u17 :: u18 :: u19 :: u20 :: u21 :: u22 :: u23 :: u24 :: u25 :: u26 :: v27 :: v28 :: v29 :: v30 :: v31 :: v32 :: v33 :: v34 :: v35 :: v36 :: v37 :: v38 :: v39 :: v40 :: v41 :: u42 :: u43 :: u44 :: u45 :: u46 :: u47 :: u48 :: u49 :: u50 :: u51 :: u52 :: u53 :: u54 :: u55 :: u56 :: u57 :: u58 :: u59 :: u60 :: u61 :: u62 :: u63 :: u64 :: u65 :: u66 :: u67 :: u68 :: u69 :: u70 :: u71 :: u72 :: u73 :: u74 :: u75 :: u76 :: u77 :: u78 :: u79 :: u80 :: u81 :: u82 :: u83 :: u84 :: u85 :: u86 :: u87 :: u88 :: u89 :: u90 :: u91 :: []).toArray, []⟩ w5) :
    Code.wp Try.prog rlBetwC Q ⟨(u0 :: .slice (some ⟨b, o, none⟩) n c :: u2 :: u3 :: u4 :: u5 :: .int .i64 i :: u7 :: u8 :: u9 :: u10 :: u11 :: u12 :: u13 :: u14 :: u15 :: u16 :: u17 :: u18 :: u19 :: u20 :: u21 :: u22 :: u23 :: u24 :: u25 :: u26 :: u27 :: u28 :: u29 :: u30 :: u31 :: u32 :: u33 :: u34 :: u35 :: u36 :: u37 :: u38 :: u39 :: u40 :: u41 :: u42 :: u43 :: u44 :: u45 :: u46 :: u47 :: u48 :: u49 :: u50 :: u51 :: u52 :: u53 :: u54 :: u55 :: u56 :: u57 :: u58 :: u59 :: u60 :: u61 :: u62 :: u63 :: u64 :: u65 :: u66 :: u67 :: u68 :: u69 :: u70 :: u71 :: u72 :: u73 :: u74 :: u75 :: u76 :: u77 :: u78 :: u79 :: u80 :: u81 :: u82 :: u83 :: u84 :: u85 :: u86 :: u87 :: u88 :: u89 :: u90 :: u91 :: []).toArray, []⟩ w := by
  have HEX := Lib.hid hexit
  have w1 := IntWalk.i64_in ((i : Int) - 1) (by omega)
  have w2 : (0 : Int) ≤ (i : Int) - 1 := by omega
  have w3 : ((i : Int) - 1) < n := by omega
  have w4 : ((i : Int) - 1).toNat = i - 1 := by omega
  have w8 : (1 : Int) ≤ (i : Int) := by omega
  have lna : nk ≤ 1152921504606 := by have := HSA.out.len; omega
  have lnb : nk3 ≤ 1152921504606 := by have := HSB.out.len; omega
  clear hexit lx ly
  conv => arg 2; whnf
  refine wp_region_V (fun w' => w'.cell? ⟨b, o + (i - 1) * 2, none⟩ = some (.slice Ak nk ck) ∧ w'.cell? ⟨b, o + i * 2, none⟩ = some (.slice Bk nk3 ck3)) (by kernel_rfl) ?_
  have S0 : w.drew.cell? ⟨b, o + (i - 1) * 2, none⟩ = some (.slice Ak nk ck) ∧ w.drew.cell? ⟨b, o + i * 2, none⟩ = some (.slice Bk nk3 ck3) := ⟨c1, c2⟩
  refine wpV_take (i := 0) (v := ?_) rfl (by kernel_rfl) (by kernel_rfl) (by kernel_rfl) (by first | exact fun _ _ _ h => h | exact fun c a w h => HQP.out c _ a w h) S0 (Or.inl ⟨by kernel_rfl, ?_⟩) ?_
  rotate_left
  · intro w hSw
    go_simp
    try with_reducible rfl
  try simp only [Act.put, List.setIfInBounds_toArray, List.set_cons_zero, List.set_cons_succ]
  refine wpV_take (i := 1) (v := ?_) rfl (by kernel_rfl) (by kernel_rfl) (by kernel_rfl) (by first | exact fun _ _ _ h => h | exact fun c a w h => HQP.out c _ a w h) S0 (Or.inl ⟨by kernel_rfl, ?_⟩) ?_
  rotate_left
  · intro w hSw
    go_simp
    try with_reducible rfl
  try simp only [Act.put, List.setIfInBounds_toArray, List.set_cons_zero, List.set_cons_succ]
  refine wpV_take (i := 2) (v := ?_) rfl (by kernel_rfl) (by kernel_rfl) (by kernel_rfl) (by first | exact fun _ _ _ h => h | exact fun c a w h => HQP.out c _ a w h) S0 (Or.inl ⟨by kernel_rfl, ?_⟩) ?_
  rotate_left
  · intro w hSw
    go_simp
    try with_reducible rfl
  try simp only [Act.put, List.setIfInBounds_toArray, List.set_cons_zero, List.set_cons_succ]
  refine wpV_take (i := 3) (v := ?_) rfl (by kernel_rfl) (by kernel_rfl) (by kernel_rfl) (by first | exact fun _ _ _ h => h | exact fun c a w h => HQP.out c _ a w h) S0 (Or.inl ⟨by kernel_rfl, ?_⟩) ?_
  rotate_left
  · intro w hSw
    go_simp
    try with_reducible rfl
  try simp only [Act.put, List.setIfInBounds_toArray, List.set_cons_zero, List.set_cons_succ]
  refine wpV_take (i := 4) (v := ?_) rfl (by kernel_rfl) (by kernel_rfl) (by kernel_rfl) (by first | exact fun _ _ _ h => h | exact fun c a w h => HQP.out c _ a w h) S0 (Or.inl ⟨by kernel_rfl, ?_⟩) ?_
  rotate_left
  · intro w hSw
    go_simp
    try with_reducible rfl
  try simp only [Act.put, List.setIfInBounds_toArray, List.set_cons_zero, List.set_cons_succ]
  refine wpV_take (i := 6) (v := ?_) rfl (by kernel_rfl) (by kernel_rfl) (by kernel_rfl) (by first | exact fun _ _ _ h => h | exact fun c a w h => HQP.out c _ a w h) S0 (Or.inl ⟨by kernel_rfl, ?_⟩) ?_
  rotate_left
  · intro w hSw
    go_simp
    try with_reducible rfl
  try simp only [Act.put, List.setIfInBounds_toArray, List.set_cons_zero, List.set_cons_succ]
  refine wpV_take (i := 7) (v := ?_) rfl (by kernel_rfl) (by kernel_rfl) (by kernel_rfl) (by first | exact fun _ _ _ h => h | exact fun c a w h => HQP.out c _ a w h) S0 (Or.inl ⟨by kernel_rfl, ?_⟩) ?_
  rotate_left
  · intro w hSw
    go_simp
    try with_reducible rfl
  try simp only [Act.put, List.setIfInBounds_toArray, List.set_cons_zero, List.set_cons_succ]
  refine wpV_take (i := 8) (v := ?_) rfl (by kernel_rfl) (by kernel_rfl) (by kernel_rfl) (by first | exact fun _ _ _ h => h | exact fun c a w h => HQP.out c _ a w h) S0 (Or.inl ⟨by kernel_rfl, ?_⟩) ?_
  rotate_left
  · intro w hSw
    go_simp
    try with_reducible rfl
  try simp only [Act.put, List.setIfInBounds_toArray, List.set_cons_zero, List.set_cons_succ]
  refine wpV_take (i := 9) (v := ?_) rfl (by kernel_rfl) (by kernel_rfl) (by kernel_rfl) (by first | exact fun _ _ _ h => h | exact fun c a w h => HQP.out c _ a w h) S0 (Or.inl ⟨by kernel_rfl, ?_⟩) ?_
  rotate_left
  · intro w hSw
    go_simp
    try with_reducible rfl
  try simp only [Act.put, List.setIfInBounds_toArray, List.set_cons_zero, List.set_cons_succ]
  refine wpV_take (i := 5) (v := ?_) rfl (by kernel_rfl) (by kernel_rfl) (by kernel_rfl) (by first | exact fun _ _ _ h => h | exact fun c a w h => HQP.out c _ a w h) S0 (Or.inl ⟨by kernel_rfl, ?_⟩) ?_
  rotate_left
  · intro w hSw
    obtain ⟨s0, s1⟩ := hSw
    go_simp
    try with_reducible rfl
  try simp only [Act.put, List.setIfInBounds_toArray, List.set_cons_zero, List.set_cons_succ]
  refine wpV_take (i := 10) (v := ?_) rfl (by kernel_rfl) (by kernel_rfl) (by kernel_rfl) (by first | exact fun _ _ _ h => h | exact fun c a w h => HQP.out c _ a w h) S0 (Or.inl ⟨by kernel_rfl, ?_⟩) ?_
  rotate_left
  · intro w hSw
    obtain ⟨s0, s1⟩ := hSw
    go_simp
    try with_reducible rfl
  try simp only [Act.put, List.setIfInBounds_toArray, List.set_cons_zero, List.set_cons_succ]
  refine wpV_one (i := 11) (by kernel_rfl) rfl (fun K hK => ?_)
  go_simp
  refine (rbetween_any Ak Bk nk nk3 ck ck3 _ _ xs ys _ HSA.out.2.2.2.drew HSA.out.2.2.1 HSB.out.2.2.2.drew HSB.out.2.2.1 HSB.out.1 lna lnb HSB.out.2.1).mono ?_; rintro e w5 ⟨K5, n5, c5, rfl, p1, p2, p3, p4, hb5⟩; have S5 : w5.cell? ⟨b, o + (i - 1) * 2, none⟩ = some (.slice Ak nk ck) ∧ w5.cell? ⟨b, o + i * 2, none⟩ = some (.slice Bk nk3 ck3) := ⟨bkeep hb5 S0.1, bkeep hb5 S0.2⟩
  refine hK.out _ _ S5 ?_
  clear hK K
  try simp only [Act.put, List.setIfInBounds_toArray, List.set_cons_zero, List.set_cons_succ]
  refine wpV_take (i := 12) (v := ?_) rfl (by kernel_rfl) (by kernel_rfl) (by kernel_rfl) (by first | exact fun _ _ _ h => h | exact fun c a w h => HQP.out c _ a w h) S5 (Or.inl ⟨by kernel_rfl, ?_⟩) ?_
  rotate_left
  · intro w hSw
    go_simp
    try with_reducible rfl
  try simp only [Act.put, List.setIfInBounds_toArray, List.set_cons_zero, List.set_cons_succ]
  refine wpV_take (i := 13) (v := ?_) rfl (by kernel_rfl) (by kernel_rfl) (by kernel_rfl) (by first | exact fun _ _ _ h => h | exact fun c a w h => HQP.out c _ a w h) S5 (Or.inl ⟨by kernel_rfl, ?_⟩) ?_
  rotate_left
  · intro w hSw
    go_simp
    try with_reducible rfl
  try simp only [Act.put, List.setIfInBounds_toArray, List.set_cons_zero, List.set_cons_succ]
  refine wpV_take (i := 14) (v := ?_) rfl (by kernel_rfl) (by kernel_rfl) (by kernel_rfl) (by first | exact fun _ _ _ h => h | exact fun c a w h => HQP.out c _ a w h) S5 (Or.inl ⟨by kernel_rfl, ?_⟩) ?_
  rotate_left
  · intro w hSw
    go_simp
    try with_reducible rfl
  try simp only [Act.put, List.setIfInBounds_toArray, List.set_cons_zero, List.set_cons_succ]
  refine wpV_take (i := 15) (v := ?_) rfl (by kernel_rfl) (by kernel_rfl) (by kernel_rfl) (by first | exact fun _ _ _ h => h | exact fun c a w h => HQP.out c _ a w h) S5 (Or.inl ⟨by kernel_rfl, ?_⟩) ?_
  rotate_left
  · intro w hSw
    go_simp
    try with_reducible rfl
  try simp only [Act.put, List.setIfInBounds_toArray, List.set_cons_zero, List.set_cons_succ]
  refine wpV_take (i := 16) (v := ?_) rfl (by kernel_rfl) (by kernel_rfl) (by kernel_rfl) (by first | exact fun _ _ _ h => h | exact fun c a w h => HQP.out c _ a w h) S5 (Or.inl ⟨by kernel_rfl, ?_⟩) ?_
  rotate_left
  · intro w hSw
    go_simp
    try with_reducible rfl
  try simp only [Act.put, List.setIfInBounds_toArray, List.set_cons_zero, List.set_cons_succ]
  refine wpV_done (by kernel_rfl) ?_ _
  exact HEX.out _ _ _ _ _ _ _ _ _ _ _ _ _ _ _ K5 n5 c5 _ w5 ⟨p1, p2, p3, p4.weak (fun b hb => hb.1)⟩ ((Below.refl _ _).drew.trans hb5)

noncomputable def rl_keyC : Code := codeOr (Try.f43.body.bind (regionAt 10))
set_option maxRecDepth 100000 in
set_option maxHeartbeats 4000000 in
theorem rl_key (b o n c i g q : Nat) (base : Nat) (kv : Value) (m : Nat) (kus : List Value) (Ah : Option Addr) (nh ch : Nat) (w : World) {u0 u2 u3 u4 u5 u7 u8 u10 u11 u12 u13 u14 u15 u16 u17 u18 u19 u20 u21 u22 u23 u24 u25 u26 u27 u28 u29 u30 u31 u32 u33 u34 u35 u36 u37 u38 u39 u40 u41 u42 u43 u44 u45 u46 u47 u48 u49 u50 u51 u52 u53 u54 u55 u56 u57 u58 u59 u60 u61 u62 u63 u64 u65 u66 u67 u68 u69 u70 u71 u72 u73 u74 u75 u76 u77 u78 u79 u80 u81 u82 u83 u84 u85 u86 u87 u88 u89 u90 u91 : Value} (Q : Exit → Act → World → Prop) (HQP : Hid (∀ c t (a : Act) w, Q (.panic c) ⟨t, a.defers⟩ w → Q (.panic c) a w))
    (hin : i < n) (hn : n ≤ 1152921504606) (hm : m ≤ 1152921504606) (hbase : base ≤ w.heap.size) (hbb : b < base)
    (c1 : w.cell? ⟨b, o + i * 2, none⟩ = some (.slice Ah nh ch)) (c2 : w.cell? ⟨g, q + 3, none⟩ = some kv) (cf : ∀ o, w.frozen? ⟨g, o, none⟩ = false) (hown : w.ownsRow base 41 1 kv m kus) (hgk : kv.ownBlock ≠ some g)
    (hexit : ∀ (v59 v60 v61 v62 v63 v64 v65 v66 v67 v68 v69 v70 v71 v72 v73 v74 : Value) (v2 : Value) (wa w2 : World), Below w.heap.size w wa → w2.ownsRow base 41 1 v2 (m + 1) (kus ++ [.slice Ah nh ch]) → wa.grownBy w2 kv.ownBlock → (v2.ownBlock = kv.ownBlock ∨ v2.ownBlock = some wa.heap.size) → Q .normal ⟨(u0 :: .slice (some ⟨b, o, none⟩) n c :: u2 :: u3 :: u4 :: u5 :: .int .i64 i :: u7 :: u8 :: .pointer (some ⟨g, q, none⟩) :: u10 :: u11 :: u12 :: u13 :: u14 :: u15 :: u16 :: u17 :: u18 :: u19 :: u20 :: u21 :: u22 :: u23 :: u24 :: u25 :: u26 :: u27 :: u28 :: u29 :: u30 :: u31 :: u32 :: u33 :: u34 :: u35 :: u36 :: u37 :: u38 :: u39 :: u40 :: u41 :: u42 :: u43 :: u44 :: u45 :: u46 :: u47 :: u48 :: u49 :: u50 :: u51 :: u52 :: u53 :: u54 :: u55 :: u56 :: u57 :: u58 :: v59 :: v60 :: v61 :: v62 :: v63 :: v64 :: v65 :: v66 :: v67 :: v68 :: v69 :: v70 :: v71 :: v72 :: v73 :: v74 :: u75 :: u76 :: u77 :: u78 :: u79 :: u80 :: u81 :: u82 :: u83 :: u84 :: u85 :: u86 :: u87 :: u88 :: u89 :: u90 :: u91 :: []).toArray, []⟩ (w2.setCell ⟨g, q + 3, none⟩ v2)) :
    Code.wp Try.prog rl_keyC Q ⟨(u0 :: .slice (some ⟨b, o, none⟩) n c :: u2 :: u3 :: u4 :: u5 :: .int .i64 i :: u7 :: u8 :: .pointer (some ⟨g, q, none⟩) :: u10 :: u11 :: u12 :: u13 :: u14 :: u15 :: u16 :: u17 :: u18 :: u19 :: u20 :: u21 :: u22 :: u23 :: u24 :: u25 :: u26 :: u27 :: u28 :: u29 :: u30 :: u31 :: u32 :: u33 :: u34 :: u35 :: u36 :: u37 :: u38 :: u39 :: u40 :: u41 :: u42 :: u43 :: u44 :: u45 :: u46 :: u47 :: u48 :: u49 :: u50 :: u51 :: u52 :: u53 :: u54 :: u55 :: u56 :: u57 :: u58 :: u59 :: u60 :: u61 :: u62 :: u63 :: u64 :: u65 :: u66 :: u67 :: u68 :: u69 :: u70 :: u71 :: u72 :: u73 :: u74 :: u75 :: u76 :: u77 :: u78 :: u79 :: u80 :: u81 :: u82 :: u83 :: u84 :: u85 :: u86 :: u87 :: u88 :: u89 :: u90 :: u91 :: []).toArray, []⟩ w := by
  obtain ⟨i0, hi0, iz0, iz1, iz2⟩ := info_parts bytes_info
  have HEX := Lib.hid hexit
  have HO := Lib.hid hown
  have HC := Lib.hid cf
  have hgw : g < w.heap.size := cell_lt c2
  clear hexit hown cf
  conv => arg 2; whnf
  refine wp_region_U (fun w' => w'.cell? ⟨b, o + i * 2, none⟩ = some (.slice Ah nh ch) ∧ w'.cell? ⟨g, q + 3, none⟩ = some kv) 16 (by kernel_rfl) ?_
  have S0 : w.drew.cell? ⟨b, o + i * 2, none⟩ = some (.slice Ah nh ch) ∧ w.drew.cell? ⟨g, q + 3, none⟩ = some kv := ⟨c1, c2⟩
  refine wpU_free (i := 0) (v := ?_) rfl (by kernel_rfl) (by kernel_rfl) (by kernel_rfl) (by kernel_rfl) (by first | exact fun _ _ _ h => h | exact fun c a w h => HQP.out c _ a w h) (fun _ => S0) (Or.inl ⟨by kernel_rfl, ?_⟩) ?_
  rotate_left
  · intro w hSw
    go_simp
    try with_reducible rfl
  try simp only [Act.put, List.setIfInBounds_toArray, List.set_cons_zero, List.set_cons_succ]
  refine wpU_free (i := 1) (v := ?_) rfl (by kernel_rfl) (by kernel_rfl) (by kernel_rfl) (by kernel_rfl) (by first | exact fun _ _ _ h => h | exact fun c a w h => HQP.out c _ a w h) (fun _ => S0) (Or.inl ⟨by kernel_rfl, ?_⟩) ?_
  rotate_left
  · intro w hSw
    go_simp
    try with_reducible rfl
  try simp only [Act.put, List.setIfInBounds_toArray, List.set_cons_zero, List.set_cons_succ]
  refine wpU_free (i := 2) (v := ?_) rfl (by kernel_rfl) (by kernel_rfl) (by kernel_rfl) (by kernel_rfl) (by first | exact fun _ _ _ h => h | exact fun c a w h => HQP.out c _ a w h) (fun _ => S0) (Or.inl ⟨by kernel_rfl, ?_⟩) ?_
  rotate_left
  · intro w hSw
    go_simp
    try with_reducible rfl
  try simp only [Act.put, List.setIfInBounds_toArray, List.set_cons_zero, List.set_cons_succ]
  refine wpU_free (i := 3) (v := ?_) rfl (by kernel_rfl) (by kernel_rfl) (by kernel_rfl) (by kernel_rfl) (by first | exact fun _ _ _ h => h | exact fun c a w h => HQP.out c _ a w h) (fun _ => S0) (Or.inl ⟨by kernel_rfl, ?_⟩) ?_
  rotate_left
  · intro w hSw
    go_simp
    try with_reducible rfl
  try simp only [Act.put, List.setIfInBounds_toArray, List.set_cons_zero, List.set_cons_succ]
  refine wpU_free (i := 4) (v := ?_) rfl (by kernel_rfl) (by kernel_rfl) (by kernel_rfl) (by kernel_rfl) (by first | exact fun _ _ _ h => h | exact fun c a w h => HQP.out c _ a w h) (fun _ => S0) (Or.inl ⟨by kernel_rfl, ?_⟩) ?_
  rotate_left
  · intro w hSw
    go_simp
    try with_reducible rfl
  try simp only [Act.put, List.setIfInBounds_toArray, List.set_cons_zero, List.set_cons_succ]
  refine wpU_free (i := 6) (v := ?_) rfl (by kernel_rfl) (by kernel_rfl) (by kernel_rfl) (by kernel_rfl) (by first | exact fun _ _ _ h => h | exact fun c a w h => HQP.out c _ a w h) (fun _ => S0) (Or.inl ⟨by kernel_rfl, ?_⟩) ?_
  rotate_left
  · intro w hSw
    go_simp
    try with_reducible rfl
  try simp only [Act.put, List.setIfInBounds_toArray, List.set_cons_zero, List.set_cons_succ]
  refine wpU_free (i := 7) (v := ?_) rfl (by kernel_rfl) (by kernel_rfl) (by kernel_rfl) (by kernel_rfl) (by first | exact fun _ _ _ h => h | exact fun c a w h => HQP.out c _ a w h) (fun _ => S0) (Or.inl ⟨by kernel_rfl, ?_⟩) ?_
  rotate_left
  · intro w hSw
    go_simp
    try with_reducible rfl
  try simp only [Act.put, List.setIfInBounds_toArray, List.set_cons_zero, List.set_cons_succ]
  refine wpU_free (i := 8) (v := ?_) rfl (by kernel_rfl) (by kernel_rfl) (by kernel_rfl) (by kernel_rfl) (by first | exact fun _ _ _ h => h | exact fun c a w h => HQP.out c _ a w h) (fun _ => S0) (Or.inl ⟨by kernel_rfl, ?_⟩) ?_
  rotate_left
  · intro w hSw
    go_simp
    try with_reducible rfl
  try simp only [Act.put, List.setIfInBounds_toArray, List.set_cons_zero, List.set_cons_succ]
  refine wpU_free (i := 9) (v := ?_) rfl (by kernel_rfl) (by kernel_rfl) (by kernel_rfl) (by kernel_rfl) (by first | exact fun _ _ _ h => h | exact fun c a w h => HQP.out c _ a w h) (fun _ => S0) (Or.inl ⟨by kernel_rfl, ?_⟩) ?_
  rotate_left
  · intro w hSw
    go_simp
    try with_reducible rfl
  try simp only [Act.put, List.setIfInBounds_toArray, List.set_cons_zero, List.set_cons_succ]
  refine wpU_take (i := 5) (v := ?_) rfl (by kernel_rfl) (by kernel_rfl) (by kernel_rfl) (by kernel_rfl) (by first | exact fun _ _ _ h => h | exact fun c a w h => HQP.out c _ a w h) S0 (Or.inl ⟨by kernel_rfl, ?_⟩) ?_
  rotate_left
  · intro w hSw
    obtain ⟨s0, s1⟩ := hSw
    go_simp
    try with_reducible rfl
  try simp only [Act.put, List.setIfInBounds_toArray, List.set_cons_zero, List.set_cons_succ]
  refine wpU_take (i := 10) (v := ?_) rfl (by kernel_rfl) (by kernel_rfl) (by kernel_rfl) (by kernel_rfl) (by first | exact fun _ _ _ h => h | exact fun c a w h => HQP.out c _ a w h) S0 (Or.inl ⟨by kernel_rfl, ?_⟩) ?_
  rotate_left
  · intro w hSw
    obtain ⟨s0, s1⟩ := hSw
    go_simp
    try with_reducible rfl
  try simp only [Act.put, List.setIfInBounds_toArray, List.set_cons_zero, List.set_cons_succ]
  refine wpU_one (i := 11) (by kernel_rfl) rfl (fun K hK => ?_)
  go_simp
  have hb2 : Below w.drew.heap.size w.drew (w.drew.alloc (.cells #[.slice Ah nh ch] 41)) := (Below.refl _ _).alloc (Nat.le_refl _) _; have S2 : (w.drew.alloc (.cells #[.slice Ah nh ch] 41)).cell? ⟨b, o + i * 2, none⟩ = some (.slice Ah nh ch) ∧ (w.drew.alloc (.cells #[.slice Ah nh ch] 41)).cell? ⟨g, q + 3, none⟩ = some kv := ⟨bkeep hb2 S0.1, bkeep hb2 S0.2⟩
  refine hK.out _ _ (fun _ => S2) ?_
  clear hK K
  try simp only [Act.put, List.setIfInBounds_toArray, List.set_cons_zero, List.set_cons_succ]
  refine wpU_one (i := 12) (by kernel_rfl) rfl (fun K hK => ?_)
  refine step_append_any _ rfl (.tmp 64) (.tmp 70) _ rfl base 41 i0 _ 1 24 Try.underlying89 hi0 iz0 iz1 iz2 rfl (by omega) kv m kus rfl (own_below HO.out ((Below.refl _ _).drew.alloc (Nat.le_refl _) _)) (From w.heap.size) (some ⟨w.heap.size, 0, none⟩) 1 1 [.slice Ah nh ch] rfl (Rd.one w.drew _ _) (by intro u hu; simp at hu; subst hu; rfl) (by simp only [maxLen]; omega) (by omega) (by simp; omega) ?_; intro v2 w2 hown2 hg2 hat2; obtain ⟨K2, kc2, hv2, _, _⟩ := own_val hown2; subst hv2; have HO2 := Lib.hid hown2; have HG2 := Lib.hid hg2; have HA2 := Lib.hid hat2; have hqf : w2.cell? ⟨g, q + 3, none⟩ = some kv := (Chg.of_grown hg2).cell hgk S2.2; have hf2 : ∀ o, w2.frozen? ⟨g, o, none⟩ = false := SoftAt.chg (w := w) HC.out (((Chg.refl (fun b => kv.ownBlock = some b) w).then ((Below.refl _ _).drew.alloc (Nat.le_refl _) _)).trans (Chg.of_grown hg2) (fun _ _ h => h)) hgw hgk; have S3 : w2.cell? ⟨b, o + i * 2, none⟩ = some (.slice Ah nh ch) ∧ w2.cell? ⟨g, q + 3, none⟩ = some kv := ⟨(Chg.of_grown hg2).cell (fun e => by have := (own_lt HO.out _ e).1; omega) S2.1, hqf⟩; clear hown2 hg2 hat2
  refine hK.out _ _ (fun _ => S3) ?_
  clear hK K
  try simp only [Act.put, List.setIfInBounds_toArray, List.set_cons_zero, List.set_cons_succ]
  refine wpU_free (i := 13) (v := ?_) rfl (by kernel_rfl) (by kernel_rfl) (by kernel_rfl) (by kernel_rfl) (by first | exact fun _ _ _ h => h | exact fun c a w h => HQP.out c _ a w h) (fun _ => S3) (Or.inl ⟨by kernel_rfl, ?_⟩) ?_
  rotate_left
  · intro w hSw
    go_simp
    try with_reducible rfl
  try simp only [Act.put, List.setIfInBounds_toArray, List.set_cons_zero, List.set_cons_succ]
  refine wpU_free (i := 14) (v := ?_) rfl (by kernel_rfl) (by kernel_rfl) (by kernel_rfl) (by kernel_rfl) (by first | exact fun _ _ _ h => h | exact fun c a w h => HQP.out c _ a w h) (fun _ => S3) (Or.inl ⟨by kernel_rfl, ?_⟩) ?_
  rotate_left
  · intro w hSw
    go_simp
    try with_reducible rfl
  try simp only [Act.put, List.setIfInBounds_toArray, List.set_cons_zero, List.set_cons_succ]
  refine wpU_free (i := 15) (v := ?_) rfl (by kernel_rfl) (by kernel_rfl) (by kernel_rfl) (by kernel_rfl) (by first | exact fun _ _ _ h => h | exact fun c a w h => HQP.out c _ a w h) (fun _ => S3) (Or.inl ⟨by kernel_rfl, ?_⟩) ?_
  rotate_left
  · intro w hSw
    go_simp
    try with_reducible rfl
  try simp only [Act.put, List.setIfInBounds_toArray, List.set_cons_zero, List.set_cons_succ]
  refine wpU_one (i := 16) (by kernel_rfl) rfl (fun K hK => ?_)
  go_simp
  refine hK.out _ _ (fun h => absurd h (by decide)) ?_
  clear hK K
  try simp only [Act.put, List.setIfInBounds_toArray, List.set_cons_zero, List.set_cons_succ]
  refine wpU_done (by kernel_rfl) ?_ _
  exact HEX.out _ _ _ _ _ _ _ _ _ _ _ _ _ _ _ _ _ _ w2 ((Below.refl _ _).drew.alloc (Nat.le_refl _) _) HO2.out HG2.out HA2.out
noncomputable def rl_valC : Code := codeOr (Try.f43.body.bind (regionAt 11))
set_option maxRecDepth 100000 in
set_option maxHeartbeats 4000000 in
theorem rl_val (b o n c i g q : Nat) (base : Nat) (kv : Value) (m : Nat) (kus : List Value) (Ah : Option Addr) (nh ch : Nat) (w : World) {u0 u2 u3 u4 u5 u7 u8 u10 u11 u12 u13 u14 u15 u16 u17 u18 u19 u20 u21 u22 u23 u24 u25 u26 u27 u28 u29 u30 u31 u32 u33 u34 u35 u36 u37 u38 u39 u40 u41 u42 u43 u44 u45 u46 u47 u48 u49 u50 u51 u52 u53 u54 u55 u56 u57 u58 u59 u60 u61 u62 u63 u64 u65 u66 u67 u68 u69 u70 u71 u72 u73 u74 u75 u76 u77 u78 u79 u80 u81 u82 u83 u84 u85 u86 u87 u88 u89 u90 u91 : Value} (Q : Exit → Act → World → Prop) (HQP : Hid (∀ c t (a : Act) w, Q (.panic c) ⟨t, a.defers⟩ w → Q (.panic c) a w))
    (hin : i < n) (hn : n ≤ 1152921504606) (hm : m ≤ 1152921504606) (hbase : base ≤ w.heap.size) (hbb : b < base)
    (c1 : w.cell? ⟨b, o + i * 2 + 1, none⟩ = some (.slice Ah nh ch)) (c2 : w.cell? ⟨g, q + 4, none⟩ = some kv) (cf : ∀ o, w.frozen? ⟨g, o, none⟩ = false) (hown : w.ownsRow base 41 1 kv m kus) (hgk : kv.ownBlock ≠ some g)
    (hexit : ∀ (v75 v76 v77 v78 v79 v80 v81 v82 v83 v84 v85 v86 v87 v88 v89 v90 : Value) (v2 : Value) (wa w2 : World), Below w.heap.size w wa → w2.ownsRow base 41 1 v2 (m + 1) (kus ++ [.slice Ah nh ch]) → wa.grownBy w2 kv.ownBlock → (v2.ownBlock = kv.ownBlock ∨ v2.ownBlock = some wa.heap.size) → Q .normal ⟨(u0 :: .slice (some ⟨b, o, none⟩) n c :: u2 :: u3 :: u4 :: u5 :: .int .i64 i :: u7 :: u8 :: .pointer (some ⟨g, q, none⟩) :: u10 :: u11 :: u12 :: u13 :: u14 :: u15 :: u16 :: u17 :: u18 :: u19 :: u20 :: u21 :: u22 :: u23 :: u24 :: u25 :: u26 :: u27 :: u28 :: u29 :: u30 :: u31 :: u32 :: u33 :: u34 :: u35 :: u36 :: u37 :: u38 :: u39 :: u40 :: u41 :: u42 :: u43 :: u44 :: u45 :: u46 :: u47 :: u48 :: u49 :: u50 :: u51 :: u52 :: u53 :: u54 :: u55 :: u56 :: u57 :: u58 :: u59 :: u60 :: u61 :: u62 :: u63 :: u64 :: u65 :: u66 :: u67 :: u68 :: u69 :: u70 :: u71 :: u72 :: u73 :: u74 :: v75 :: v76 :: v77 :: v78 :: v79 :: v80 :: v81 :: v82 :: v83 :: v84 :: v85 :: v86 :: v87 :: v88 :: v89 :: v90 :: u91 :: []).toArray, []⟩ (w2.setCell ⟨g, q + 4, none⟩ v2)) :
    Code.wp Try.prog rl_valC Q ⟨(u0 :: .slice (some ⟨b, o, none⟩) n c :: u2 :: u3 :: u4 :: u5 :: .int .i64 i :: u7 :: u8 :: .pointer (some ⟨g, q, none⟩) :: u10 :: u11 :: u12 :: u13 :: u14 :: u15 :: u16 :: u17 :: u18 :: u19 :: u20 :: u21 :: u22 :: u23 :: u24 :: u25 :: u26 :: u27 :: u28 :: u29 :: u30 :: u31 :: u32 :: u33 :: u34 :: u35 :: u36 :: u37 :: u38 :: u39 :: u40 :: u41 :: u42 :: u43 :: u44 :: u45 :: u46 :: u47 :: u48 :: u49 :: u50 :: u51 :: u52 :: u53 :: u54 :: u55 :: u56 :: u57 :: u58 :: u59 :: u60 :: u61 :: u62 :: u63 :: u64 :: u65 :: u66 :: u67 :: u68 :: u69 :: u70 :: u71 :: u72 :: u73 :: u74 :: u75 :: u76 :: u77 :: u78 :: u79 :: u80 :: u81 :: u82 :: u83 :: u84 :: u85 :: u86 :: u87 :: u88 :: u89 :: u90 :: u91 :: []).toArray, []⟩ w := by
  obtain ⟨i0, hi0, iz0, iz1, iz2⟩ := info_parts bytes_info
  have HEX := Lib.hid hexit
  have HO := Lib.hid hown
  have HC := Lib.hid cf
  have hgw : g < w.heap.size := cell_lt c2
  clear hexit hown cf
  conv => arg 2; whnf
  refine wp_region_U (fun w' => w'.cell? ⟨b, o + i * 2 + 1, none⟩ = some (.slice Ah nh ch) ∧ w'.cell? ⟨g, q + 4, none⟩ = some kv) 16 (by kernel_rfl) ?_
  have S0 : w.drew.cell? ⟨b, o + i * 2 + 1, none⟩ = some (.slice Ah nh ch) ∧ w.drew.cell? ⟨g, q + 4, none⟩ = some kv := ⟨c1, c2⟩
  refine wpU_free (i := 0) (v := ?_) rfl (by kernel_rfl) (by kernel_rfl) (by kernel_rfl) (by kernel_rfl) (by first | exact fun _ _ _ h => h | exact fun c a w h => HQP.out c _ a w h) (fun _ => S0) (Or.inl ⟨by kernel_rfl, ?_⟩) ?_
  rotate_left
  · intro w hSw
    go_simp
    try with_reducible rfl
  try simp only [Act.put, List.setIfInBounds_toArray, List.set_cons_zero, List.set_cons_succ]
  refine wpU_free (i := 1) (v := ?_) rfl (by kernel_rfl) (by kernel_rfl) (by kernel_rfl) (by kernel_rfl) (by first | exact fun _ _ _ h => h | exact fun c a w h => HQP.out c _ a w h) (fun _ => S0) (Or.inl ⟨by kernel_rfl, ?_⟩) ?_
  rotate_left
  · intro w hSw
    go_simp
    try with_reducible rfl
  try simp only [Act.put, List.setIfInBounds_toArray, List.set_cons_zero, List.set_cons_succ]
  refine wpU_free (i := 2) (v := ?_) rfl (by kernel_rfl) (by kernel_rfl) (by kernel_rfl) (by kernel_rfl) (by first | exact fun _ _ _ h => h | exact fun c a w h => HQP.out c _ a w h) (fun _ => S0) (Or.inl ⟨by kernel_rfl, ?_⟩) ?_
  rotate_left
  · intro w hSw
    go_simp
    try with_reducible rfl
  try simp only [Act.put, List.setIfInBounds_toArray, List.set_cons_zero, List.set_cons_succ]
  refine wpU_free (i := 3) (v := ?_) rfl (by kernel_rfl) (by kernel_rfl) (by kernel_rfl) (by kernel_rfl) (by first | exact fun _ _ _ h => h | exact fun c a w h => HQP.out c _ a w h) (fun _ => S0) (Or.inl ⟨by kernel_rfl, ?_⟩) ?_
  rotate_left
  · intro w hSw
    go_simp
    try with_reducible rfl
  try simp only [Act.put, List.setIfInBounds_toArray, List.set_cons_zero, List.set_cons_succ]
  refine wpU_free (i := 4) (v := ?_) rfl (by kernel_rfl) (by kernel_rfl) (by kernel_rfl) (by kernel_rfl) (by first | exact fun _ _ _ h => h | exact fun c a w h => HQP.out c _ a w h) (fun _ => S0) (Or.inl ⟨by kernel_rfl, ?_⟩) ?_
  rotate_left
  · intro w hSw
    go_simp
    try with_reducible rfl
  try simp only [Act.put, List.setIfInBounds_toArray, List.set_cons_zero, List.set_cons_succ]
  refine wpU_free (i := 6) (v := ?_) rfl (by kernel_rfl) (by kernel_rfl) (by kernel_rfl) (by kernel_rfl) (by first | exact fun _ _ _ h => h | exact fun c a w h => HQP.out c _ a w h) (fun _ => S0) (Or.inl ⟨by kernel_rfl, ?_⟩) ?_
  rotate_left
  · intro w hSw
    go_simp
    try with_reducible rfl
  try simp only [Act.put, List.setIfInBounds_toArray, List.set_cons_zero, List.set_cons_succ]
  refine wpU_free (i := 7) (v := ?_) rfl (by kernel_rfl) (by kernel_rfl) (by kernel_rfl) (by kernel_rfl) (by first | exact fun _ _ _ h => h | exact fun c a w h => HQP.out c _ a w h) (fun _ => S0) (Or.inl ⟨by kernel_rfl, ?_⟩) ?_
  rotate_left
  · intro w hSw
    go_simp
    try with_reducible rfl
  try simp only [Act.put, List.setIfInBounds_toArray, List.set_cons_zero, List.set_cons_succ]
  refine wpU_free (i := 8) (v := ?_) rfl (by kernel_rfl) (by kernel_rfl) (by kernel_rfl) (by kernel_rfl) (by first | exact fun _ _ _ h => h | exact fun c a w h => HQP.out c _ a w h) (fun _ => S0) (Or.inl ⟨by kernel_rfl, ?_⟩) ?_
  rotate_left
  · intro w hSw
    go_simp
    try with_reducible rfl
  try simp only [Act.put, List.setIfInBounds_toArray, List.set_cons_zero, List.set_cons_succ]
  refine wpU_free (i := 9) (v := ?_) rfl (by kernel_rfl) (by kernel_rfl) (by kernel_rfl) (by kernel_rfl) (by first | exact fun _ _ _ h => h | exact fun c a w h => HQP.out c _ a w h) (fun _ => S0) (Or.inl ⟨by kernel_rfl, ?_⟩) ?_
  rotate_left
  · intro w hSw
    go_simp
    try with_reducible rfl
  try simp only [Act.put, List.setIfInBounds_toArray, List.set_cons_zero, List.set_cons_succ]
  refine wpU_take (i := 5) (v := ?_) rfl (by kernel_rfl) (by kernel_rfl) (by kernel_rfl) (by kernel_rfl) (by first | exact fun _ _ _ h => h | exact fun c a w h => HQP.out c _ a w h) S0 (Or.inl ⟨by kernel_rfl, ?_⟩) ?_
  rotate_left
  · intro w hSw
    obtain ⟨s0, s1⟩ := hSw
    go_simp
    try with_reducible rfl
  try simp only [Act.put, List.setIfInBounds_toArray, List.set_cons_zero, List.set_cons_succ]
  refine wpU_take (i := 10) (v := ?_) rfl (by kernel_rfl) (by kernel_rfl) (by kernel_rfl) (by kernel_rfl) (by first | exact fun _ _ _ h => h | exact fun c a w h => HQP.out c _ a w h) S0 (Or.inl ⟨by kernel_rfl, ?_⟩) ?_
  rotate_left
  · intro w hSw
    obtain ⟨s0, s1⟩ := hSw
    go_simp
    try with_reducible rfl
  try simp only [Act.put, List.setIfInBounds_toArray, List.set_cons_zero, List.set_cons_succ]
  refine wpU_one (i := 11) (by kernel_rfl) rfl (fun K hK => ?_)
  go_simp
  have hb2 : Below w.drew.heap.size w.drew (w.drew.alloc (.cells #[.slice Ah nh ch] 41)) := (Below.refl _ _).alloc (Nat.le_refl _) _; have S2 : (w.drew.alloc (.cells #[.slice Ah nh ch] 41)).cell? ⟨b, o + i * 2 + 1, none⟩ = some (.slice Ah nh ch) ∧ (w.drew.alloc (.cells #[.slice Ah nh ch] 41)).cell? ⟨g, q + 4, none⟩ = some kv := ⟨bkeep hb2 S0.1, bkeep hb2 S0.2⟩
  refine hK.out _ _ (fun _ => S2) ?_
  clear hK K
  try simp only [Act.put, List.setIfInBounds_toArray, List.set_cons_zero, List.set_cons_succ]
  refine wpU_one (i := 12) (by kernel_rfl) rfl (fun K hK => ?_)
  refine step_append_any _ rfl (.tmp 80) (.tmp 86) _ rfl base 41 i0 _ 1 24 Try.underlying89 hi0 iz0 iz1 iz2 rfl (by omega) kv m kus rfl (own_below HO.out ((Below.refl _ _).drew.alloc (Nat.le_refl _) _)) (From w.heap.size) (some ⟨w.heap.size, 0, none⟩) 1 1 [.slice Ah nh ch] rfl (Rd.one w.drew _ _) (by intro u hu; simp at hu; subst hu; rfl) (by simp only [maxLen]; omega) (by omega) (by simp; omega) ?_; intro v2 w2 hown2 hg2 hat2; obtain ⟨K2, kc2, hv2, _, _⟩ := own_val hown2; subst hv2; have HO2 := Lib.hid hown2; have HG2 := Lib.hid hg2; have HA2 := Lib.hid hat2; have hqf : w2.cell? ⟨g, q + 4, none⟩ = some kv := (Chg.of_grown hg2).cell hgk S2.2; have hf2 : ∀ o, w2.frozen? ⟨g, o, none⟩ = false := SoftAt.chg (w := w) HC.out (((Chg.refl (fun b => kv.ownBlock = some b) w).then ((Below.refl _ _).drew.alloc (Nat.le_refl _) _)).trans (Chg.of_grown hg2) (fun _ _ h => h)) hgw hgk; have S3 : w2.cell? ⟨b, o + i * 2 + 1, none⟩ = some (.slice Ah nh ch) ∧ w2.cell? ⟨g, q + 4, none⟩ = some kv := ⟨(Chg.of_grown hg2).cell (fun e => by have := (own_lt HO.out _ e).1; omega) S2.1, hqf⟩; clear hown2 hg2 hat2
  refine hK.out _ _ (fun _ => S3) ?_
  clear hK K
  try simp only [Act.put, List.setIfInBounds_toArray, List.set_cons_zero, List.set_cons_succ]
  refine wpU_free (i := 13) (v := ?_) rfl (by kernel_rfl) (by kernel_rfl) (by kernel_rfl) (by kernel_rfl) (by first | exact fun _ _ _ h => h | exact fun c a w h => HQP.out c _ a w h) (fun _ => S3) (Or.inl ⟨by kernel_rfl, ?_⟩) ?_
  rotate_left
  · intro w hSw
    go_simp
    try with_reducible rfl
  try simp only [Act.put, List.setIfInBounds_toArray, List.set_cons_zero, List.set_cons_succ]
  refine wpU_free (i := 14) (v := ?_) rfl (by kernel_rfl) (by kernel_rfl) (by kernel_rfl) (by kernel_rfl) (by first | exact fun _ _ _ h => h | exact fun c a w h => HQP.out c _ a w h) (fun _ => S3) (Or.inl ⟨by kernel_rfl, ?_⟩) ?_
  rotate_left
  · intro w hSw
    go_simp
    try with_reducible rfl
  try simp only [Act.put, List.setIfInBounds_toArray, List.set_cons_zero, List.set_cons_succ]
  refine wpU_free (i := 15) (v := ?_) rfl (by kernel_rfl) (by kernel_rfl) (by kernel_rfl) (by kernel_rfl) (by first | exact fun _ _ _ h => h | exact fun c a w h => HQP.out c _ a w h) (fun _ => S3) (Or.inl ⟨by kernel_rfl, ?_⟩) ?_
  rotate_left
  · intro w hSw
    go_simp
    try with_reducible rfl
  try simp only [Act.put, List.setIfInBounds_toArray, List.set_cons_zero, List.set_cons_succ]
  refine wpU_one (i := 16) (by kernel_rfl) rfl (fun K hK => ?_)
  go_simp
  refine hK.out _ _ (fun h => absurd h (by decide)) ?_
  clear hK K
  try simp only [Act.put, List.setIfInBounds_toArray, List.set_cons_zero, List.set_cons_succ]
  refine wpU_done (by kernel_rfl) ?_ _
  exact HEX.out _ _ _ _ _ _ _ _ _ _ _ _ _ _ _ _ _ _ w2 ((Below.refl _ _).drew.alloc (Nat.le_refl _) _) HO2.out HG2.out HA2.out
end Go.Proofs.Ytgjphmlmndcaeaa

namespace Go.Proofs.Ytgjphmlmndcaeaa
open Go.RowKit
theorem Rows2.off {w : World} {base : Nat} {pxs : List Value} {j i : Nat} {kv vv : Value} {kus vus : List Value} (h : Rows2 w base pxs j i kv vv kus vus) {b : Nat} (o : Nat) (u : Value) (hk : kv.ownBlock ≠ some b) (hv : vv.ownBlock ≠ some b) : Rows2 (w.setCell ⟨b, o, none⟩ u) base pxs j i kv vv kus vus :=
  ⟨own_chg h.k (Chg.set1 w b o u) (fun g hg e => hk (by rw [hg, show g = b from e])), own_chg h.v (Chg.set1 w b o u) (fun g hg e => hv (by rw [hg, show g = b from e])), h.dis, h.ku, h.vu⟩

noncomputable def rlRestC : Code := codeOr (Try.f43.body.bind (regionIn 9))
set_option maxRecDepth 100000 in
set_option maxHeartbeats 4000000 in
theorem rl_rest (b o n c g gc i k m fill base : Nat) (E : Nat → Prop) (f : Nat → Nd) (h kv vv : Value) (us kus vus vs : List Value) (Ak Av : Option Addr) (nk ck nv cv : Nat) (w : World) {u0 u2 u3 u4 u7 u8 u9 u10 u11 u12 u13 u14 u15 u16 u17 u18 u19 u20 u21 u22 u23 u24 u25 u26 u27 u28 u29 u30 u31 u32 u33 u34 u35 u36 u37 u38 u39 u40 u41 u42 u43 u44 u45 u46 u47 u48 u49 u50 u51 u52 u53 u54 u55 u56 u57 u58 u59 u60 u61 u62 u63 u64 u65 u66 u67 u68 u69 u70 u71 u72 u73 u74 u75 u76 u77 u78 u79 u80 u81 u82 u83 u84 u85 u86 u87 u88 u89 u90 u91 : Value} (Q : Exit → Act → World → Prop) (HQP : Hid (∀ c t (a : Act) w, Q (.panic c) ⟨t, a.defers⟩ w → Q (.panic c) a w))
    (hin : i < n) (hn : n ≤ 1152921504606) (hm : m ≤ 1152921504606) (hk : k ≤ 1152921504606) (hbase : base ≤ w.heap.size) (hbb : b < base)
    (HMK : Hid (Mk w base E (.slice (some ⟨g, 0, none⟩) (k + 1) gc) k f 0 h kv vv (.slice none 0 0) us)) (HRW : Hid (Rows2 w base (vs.drop (k * fill * 2)) m m kv vv kus vus))
    (c1 : w.cell? ⟨b, o + i * 2, none⟩ = some (.slice Ak nk ck)) (c2 : w.cell? ⟨b, o + i * 2 + 1, none⟩ = some (.slice Av nv cv))
    (HE1 : Hid ((vs.drop (k * fill * 2))[2 * m]? = some (.slice Ak nk ck))) (HE2 : Hid ((vs.drop (k * fill * 2))[2 * m + 1]? = some (.slice Av nv cv)))
    (hexit : ∀ (v9 v54 v55 v56 v57 v58 v59 v60 v61 v62 v63 v64 v65 v66 v67 v68 v69 v70 v71 v72 v73 v74 v75 v76 v77 v78 v79 v80 v81 v82 v83 v84 v85 v86 v87 v88 v89 v90 : Value) (us' : List Value) (kv' vv' : Value) (kus' vus' : List Value) (w' : World), Mk w' base E (.slice (some ⟨g, 0, none⟩) (k + 1) gc) k f 0 h kv' vv' (.slice none 0 0) us' → Rows2 w' base (vs.drop (k * fill * 2)) (m + 1) (m + 1) kv' vv' kus' vus' → Below base w w' → Q .normal ⟨(u0 :: .slice (some ⟨b, o, none⟩) n c :: u2 :: u3 :: u4 :: .slice (some ⟨g, 0, none⟩) (k + 1) gc :: .int .i64 i :: u7 :: u8 :: v9 :: u10 :: u11 :: u12 :: u13 :: u14 :: u15 :: u16 :: u17 :: u18 :: u19 :: u20 :: u21 :: u22 :: u23 :: u24 :: u25 :: u26 :: u27 :: u28 :: u29 :: u30 :: u31 :: u32 :: u33 :: u34 :: u35 :: u36 :: u37 :: u38 :: u39 :: u40 :: u41 :: u42 :: u43 :: u44 :: u45 :: u46 :: u47 :: u48 :: u49 :: u50 :: u51 :: u52 :: u53 :: v54 :: v55 :: v56 :: v57 :: v58 :: v59 :: v60 :: v61 :: v62 :: v63 :: v64 :: v65 :: v66 :: v67 :: v68 :: v69 :: v70 :: v71 :: v72 :: v73 :: v74 :: v75 :: v76 :: v77 :: v78 :: v79 :: v80 :: v81 :: v82 :: v83 :: v84 :: v85 :: v86 :: v87 :: v88 :: v89 :: v90 :: u91 :: []).toArray, []⟩ w') :
    Code.wp Try.prog rlRestC Q ⟨(u0 :: .slice (some ⟨b, o, none⟩) n c :: u2 :: u3 :: u4 :: .slice (some ⟨g, 0, none⟩) (k + 1) gc :: .int .i64 i :: u7 :: u8 :: u9 :: u10 :: u11 :: u12 :: u13 :: u14 :: u15 :: u16 :: u17 :: u18 :: u19 :: u20 :: u21 :: u22 :: u23 :: u24 :: u25 :: u26 :: u27 :: u28 :: u29 :: u30 :: u31 :: u32 :: u33 :: u34 :: u35 :: u36 :: u37 :: u38 :: u39 :: u40 :: u41 :: u42 :: u43 :: u44 :: u45 :: u46 :: u47 :: u48 :: u49 :: u50 :: u51 :: u52 :: u53 :: u54 :: u55 :: u56 :: u57 :: u58 :: u59 :: u60 :: u61 :: u62 :: u63 :: u64 :: u65 :: u66 :: u67 :: u68 :: u69 :: u70 :: u71 :: u72 :: u73 :: u74 :: u75 :: u76 :: u77 :: u78 :: u79 :: u80 :: u81 :: u82 :: u83 :: u84 :: u85 :: u86 :: u87 :: u88 :: u89 :: u90 :: u91 :: []).toArray, []⟩ w := by
  have HEX := Lib.hid hexit
  obtain ⟨g', gc', e, hg1, hg2, hg3, hg4, hg5, q0, q1, q2, q3, q4, q5⟩ := HMK.out.form
  injection e with e _ e'
  injection e with e
  injection e with e
  subst e; subst e'
  have HQ3 := Lib.hid q3
  have HQ4 := Lib.hid q4
  have HC1 := Lib.hid c1
  have HC2 := Lib.hid c2
  have HF := Lib.hid hg5
  have w1 := IntWalk.i64_in ((k : Int) + 1 - 1) (by omega)
  have w2 : (0 : Int) ≤ (k : Int) + 1 - 1 := by omega
  have w3 : ((k : Int) + 1 - 1) < (k : Int) + 1 := by omega
  have w4 : ((k : Int) + 1 - 1).toNat = k := by omega
  clear hexit q0 q1 q2 q3 q4 q5 c1 c2 hg5
  conv => arg 2; whnf
  have HRK : Hid (∀ x, kv.ownBlock = some x → base ≤ x) := Lib.hid (fun x hx => (own_lt HRW.out.k x hx).1)
  have HRV : Hid (∀ x, vv.ownBlock = some x → base ≤ x) := Lib.hid (fun x hx => (own_lt HRW.out.v x hx).1)
  have D1 := Lib.hid (HMK.out.d1 g rfl)
  go_wp2_with fail
  refine rl_key b o n c i g (k * 6) base kv m kus Ak nk ck w _ (by exact Lib.hid (fun c t a w h => HQP.out c t a w h)) hin hn hm hbase hbb HC1.out HQ3.out HF.out HRW.out.k D1.out.1 ?_
  intro v59 v60 v61 v62 v63 v64 v65 v66 v67 v68 v69 v70 v71 v72 v73 v74 v2 wa w2 hwa ho2 hg2 hat2
  have HB2 : Hid (Below base w (w2.setCell ⟨g, k * 6 + 3, none⟩ v2)) := Lib.hid (((hwa.mono hbase).grown hg2 (Nat.le_trans hbase hwa.size) (fun x hx => HRK.out x hx)).setCell (p := ⟨g, k * 6 + 3, none⟩) (by show base ≤ g; omega) v2)
  have HMK2 := Lib.hid (HMK.out.setKeys hwa hg2 hat2)
  have hgv2 : v2.ownBlock ≠ some g := HMK2.out.d1 g rfl |>.1
  have HRW2 := Lib.hid ((Rows2.key (HRW.out.below hwa) ho2 hg2 hat2 HE1.out).off (k * 6 + 3) v2 hgv2 D1.out.2.1)
  have HC2' := Lib.hid (bcell HB2.out hbb HC2.out)
  clear ho2 hg2 hat2 hwa hgv2
  obtain ⟨W2, hW2⟩ : ∃ W, W = w2.setCell ⟨g, k * 6 + 3, none⟩ v2 := ⟨_, rfl⟩
  rw [← hW2] at HB2 HMK2 HRW2 HC2' ⊢
  clear hW2
  obtain ⟨g', gc', e, _, _, _, _, hf', _, _, _, _, q4, _⟩ := HMK2.out.form
  injection e with e _ e'
  injection e with e
  injection e with e
  subst e; subst e'
  have HQ4' := Lib.hid q4
  have HF' := Lib.hid hf'
  have D2 := Lib.hid (HMK2.out.d1 g rfl)
  clear q4 hf'
  go_wp2_with fail
  refine rl_val b o n c i g (k * 6) base vv m vus Av nv cv W2 _ (by exact Lib.hid (fun c t a w h => HQP.out c t a w h)) hin hn hm (Nat.le_trans hbase HB2.out.size) hbb HC2'.out HQ4'.out HF'.out HRW2.out.v D2.out.2.1 ?_
  intro v75 v76 v77 v78 v79 v80 v81 v82 v83 v84 v85 v86 v87 v88 v89 v90 v3 wb w3 hwb ho3 hg3 hat3
  have hz : base ≤ W2.heap.size := Nat.le_trans hbase HB2.out.size
  have HB3 : Below base w (w3.setCell ⟨g, k * 6 + 4, none⟩ v3) := ((HB2.out.trans (hwb.mono hz)).grown hg3 (Nat.le_trans hz hwb.size) (fun x hx => HRV.out x hx)).setCell (p := ⟨g, k * 6 + 4, none⟩) (by show base ≤ g; omega) v3
  have HMK3 := HMK2.out.setVals hwb hg3 hat3
  have HRW3 := (Rows2.val (HRW2.out.below hwb) ho3 hg3 hat3 HE2.out).off (k * 6 + 4) v3 (HMK3.d1 g rfl).1 (HMK3.d1 g rfl).2.1
  exact HEX.out _ _ _ _ _ _ _ _ _ _ _ _ _ _ _ _ _ _ _ _ _ _ _ _ _ _ _ _ _ _ _ _ _ _ _ _ _ _ _ _ _ _ _ _ HMK3 HRW3 HB3
end Go.Proofs.Ytgjphmlmndcaeaa

namespace Go.Proofs.Ytgjphmlmndcaeaa
open Go.RowKit
/-- leaf j of the document's -/
def leafN (fill : Nat) (l : List Ent) (j : Nat) : Nd := ⟨0, hiAt fill l j, 0, ((l.drop (j * fill)).take fill).map Prod.fst, ((l.drop (j * fill)).take fill).map Prod.snd, []⟩
def leavesN (fill : Nat) (l : List Ent) : List Nd := (List.range (pn l.length fill)).map (leafN fill l)
theorem node_info : (Try.prog.info? 93).map (fun i => (i.zero, i.size, i.bytes)) = some (some (.agg #[.int .i64 0, .slice none 0 0, .int .i64 0, .slice none 0 0, .slice none 0 0, .slice none 0 0]), 6, 112) := by kernel_rfl
theorem Rd.lit (w : World) (cs : Array Value) (t : TypeId) (n : Nat) (hn : cs.size = n) : Rd (w.alloc (.cells cs t)) (From w.heap.size) n (some ⟨w.heap.size, 0, none⟩) 1 cs.toList :=
  ⟨by simp [hn], fun _ => ⟨w.heap.size, 0, rfl, Nat.le_refl _, fun j x hj => by
    rw [(Blk.new w t cs).cell, Nat.zero_add]
    simpa using hj⟩⟩
theorem ent_at {w : World} {D : Nat → Prop} {vs : List Value} {l : List Ent} {B : Option Addr} {n i : Nat} (hr : Rd w D 2 B n vs) (ht : Txs w D vs l) (hm : n ≤ l.length) (hj : i < n) :
    ∃ b o Ak nk ck Av nv cv, B = some ⟨b, o, none⟩ ∧ D b ∧ vs[2 * i]? = some (.slice Ak nk ck) ∧ vs[2 * i + 1]? = some (.slice Av nv cv) ∧ w.cell? ⟨b, o + i * 2, none⟩ = some (.slice Ak nk ck) ∧ w.cell? ⟨b, o + i * 2 + 1, none⟩ = some (.slice Av nv cv) ∧ ∃ e : Ent, l[i]? = some e ∧ SB w D (.slice Ak nk ck) e.1 ∧ SB w D (.slice Av nv cv) e.2 := by
  obtain ⟨b, o, u, v, e, hb, e1, e2, c1, c2⟩ := hr.at2 hj
  have hl : i < l.length := by omega
  obtain ⟨u', v', a1, a2, s1, s2⟩ := ht i _ (List.getElem?_eq_getElem hl)
  rw [a1] at e1
  rw [a2] at e2
  injection e1 with e1
  injection e2 with e2
  subst e1; subst e2
  obtain ⟨Ak, nk, ck, rfl, t1⟩ := s1
  obtain ⟨Av, nv, cv, rfl, t2⟩ := s2
  rw [Nat.mul_comm 2 i] at c1 c2
  rw [← Nat.add_assoc] at c2
  exact ⟨b, o, Ak, nk, ck, Av, nv, cv, e, hb, a1, a2, c1, c2, _, List.getElem?_eq_getElem hl, ⟨_, _, _, rfl, t1⟩, ⟨_, _, _, rfl, t2⟩⟩

theorem rows2_txo {w : World} {base s mi : Nat} {D G : Nat → Prop} {vs : List Value} {l : List Ent} {kv vv : Value} {kus vus : List Value} (h : Rows2 w base (vs.drop (s * 2)) mi mi kv vv kus vus) (ht : Txs w D vs l) (hkm : s + mi ≤ l.length)
    (hk : ∀ b, kv.ownBlock = some b → G b) (hv : ∀ b, vv.ownBlock = some b → G b) (h2 : ∀ b, D b → G b) : ∃ kA kc vA vc, kv = .slice kA mi kc ∧ vv = .slice vA mi vc ∧ Tx w G kA mi kc (((l.drop s).take mi).map Prod.fst) ∧ Tx w G vA mi vc (((l.drop s).take mi).map Prod.snd) := by
  obtain ⟨kA, kc, rfl, a1, a2⟩ := own_val h.k
  obtain ⟨vA, vc, rfl, b1, b2⟩ := own_val h.v
  have hl : ((l.drop s).take mi).length = mi := by rw [List.length_take, List.length_drop]; omega
  have key : ∀ (i : Nat), i < mi → ∃ e : Ent, ((l.drop s).take mi)[i]? = some e ∧ l[s + i]? = some e := by
    intro i hi
    have : s + i < l.length := by omega
    exact ⟨l[s + i], by rw [List.getElem?_take, if_pos hi, List.getElem?_drop]; exact List.getElem?_eq_getElem this, List.getElem?_eq_getElem this⟩
  have idx : ∀ (i j : Nat), (vs.drop (s * 2))[2 * i + j]? = vs[2 * (s + i) + j]? := by
    intro i j
    rw [List.getElem?_drop, show s * 2 + (2 * i + j) = 2 * (s + i) + j by omega]
  refine ⟨kA, kc, vA, vc, rfl, rfl, ⟨a1, a2, Lib.hid (by rw [List.length_map, hl]), kus, rd_own_blk h.k hk, fun i t ht' => ?_⟩, ⟨b1, b2, Lib.hid (by rw [List.length_map, hl]), vus, rd_own_blk h.v hv, fun i t ht' => ?_⟩⟩
  · have hi : i < mi := by have := (List.getElem?_eq_some_iff.1 ht').1; rw [List.length_map, hl] at this; exact this
    obtain ⟨e, e1, e2⟩ := key i hi
    rw [List.getElem?_map, e1] at ht'
    injection ht' with ht'
    subst ht'
    obtain ⟨u, v, q1, q2, q3, q4⟩ := ht _ e e2
    have hx := idx i 0
    rw [Nat.add_zero, Nat.add_zero] at hx
    exact ⟨u, by rw [h.ku i hi, hx]; exact q1, q3.weak h2⟩
  · have hi : i < mi := by have := (List.getElem?_eq_some_iff.1 ht').1; rw [List.length_map, hl] at this; exact this
    obtain ⟨e, e1, e2⟩ := key i hi
    rw [List.getElem?_map, e1] at ht'
    injection ht' with ht'
    subst ht'
    obtain ⟨u, v, q1, q2, q3, q4⟩ := ht _ e e2
    exact ⟨v, by rw [h.vu i hi, idx i 1]; exact q2, q4.weak h2⟩

/-- what one knows of a leaf that is full, or the last one -/
theorem leafN_V {w : World} {base k fill m : Nat} {D G : Nat → Prop} {vs : List Value} {l : List Ent} {kv vv : Value} {kus vus : List Value} {hA : Option Addr} {hn hc : Nat} (h : Rows2 w base (vs.drop (k * fill * 2)) m m kv vv kus vus) (ht : Txs w D vs l) (hkm : k * fill + m ≤ l.length)
    (hk : ∀ b, kv.ownBlock = some b → G b) (hv : ∀ b, vv.ownBlock = some b → G b) (h2 : ∀ b, D b → G b) (hm : (l.drop (k * fill)).take fill = (l.drop (k * fill)).take m) (hh : Bt w G hA hn hc (hiAt fill l k)) :
    NodeV w G [.int .i64 0, .slice hA hn hc, .int .i64 0, kv, vv, .slice none 0 0] (leafN fill l k) := by
  obtain ⟨kA, kc, vA, vc, rfl, rfl, t1, t2⟩ := rows2_txo h ht hkm hk hv h2
  refine ⟨hA, hn, hc, kA, m, kc, vA, m, vc, none, 0, 0, rfl, hh, ?_, ?_, It.nil _ _⟩
  · show Tx w G kA m kc (((l.drop (k * fill)).take fill).map Prod.fst); rw [hm]; exact t1
  · show Tx w G vA m vc (((l.drop (k * fill)).take fill).map Prod.snd); rw [hm]; exact t2
set_option maxRecDepth 100000 in
set_option maxHeartbeats 4000000 in
theorem rleaves_any (nd lf bl inn : Int) (fill : Nat) (A : Option Addr) (n c : Nat) (F0 : Nat → Prop) (l : List Ent) (w : World) (hf1 : 1 ≤ fill) (hf2 : fill ≤ 64) (hE : Ents w F0 A n l) (hnc : n ≤ c) (hcm : c ≤ maxLen) (hn : n ≤ 1152921504606) (hpos : 0 < n)
    (hsm : ∀ e ∈ l, e.1.length ≤ 1152921504606 ∧ e.2.length ≤ 1152921504606) :
    Calls Try.prog 43 #[.agg #[.int .i64 nd, .int .i64 lf, .int .i64 inn, .int .i64 fill, .int .i64 bl], .slice A n c] w fun e w' => ∃ v, e = .returned v ∧ Level w' (fun b => (F0 b ∧ b < w.heap.size) ∨ w.heap.size ≤ b) w.heap.size v (leavesN fill l) ∧ Below w.heap.size w w' := by
  obtain ⟨i0, hi0, iz0, iz1, iz2⟩ := info_parts node_info
  have HL := Lib.hid hE.len
  obtain ⟨_, vs, hrd, htx⟩ := hE.lt
  have HR := Lib.hid hrd
  have HT := Lib.hid (show Txs w (fun b => F0 b ∧ b < w.heap.size) vs l from htx)
  have HS := Lib.hid hsm
  obtain ⟨b, o, _, _, _, _, _, _, _, _, rfl, _⟩ := hE.at_ hpos
  have hE0 : b < w.heap.size := by obtain ⟨b', o', _, _, e, hd, _⟩ := hrd.at2 hpos; injection e with e; injection e with e; exact e ▸ hd.2
  clear hE hsm hrd htx
  go_enter Try.func43, Try.ntmps43
  go_wp2
  obtain ⟨w0, hw0⟩ : ∃ x, x = w.alloc (.cells #[.int .i64 nd, .int .i64 lf, .int .i64 inn, .int .i64 fill, .int .i64 bl] 23) := ⟨_, rfl⟩
  rw [← hw0]
  have hsz0 : w0.heap.size = w.heap.size + 1 := by rw [hw0]; simp
  have HSZ0 := Lib.hid hsz0
  rw [← hsz0]
  have HBW : Hid (Below w.heap.size w w0) := Lib.hid (by rw [hw0]; exact (Below.refl _ _).alloc (Nat.le_refl _) _)
  have HCF : Hid (w0.cell? ⟨w.heap.size, 3, none⟩ = some (.int .i64 fill)) := Lib.hid (by rw [hw0]; exact ((Blk.new w 23 _).cell 3).trans rfl)
  have hbb : b < w0.heap.size := by omega
  have hw00 : w.heap.size < w0.heap.size := by omega
  clear hw0 hsz0
  go_loopg [5, 6] n (fun g' out iv wr => ∃ (i k m : Nat) (us : List Value) (kv vv : Value) (kus vus : List Value), g' = n - i ∧ i ≤ n ∧ iv = .int .i64 i ∧ Hid (i = k * fill + m ∧ m ≤ fill ∧ (0 < i → 0 < m)) ∧ Mk wr w0.heap.size (fun b => F0 b ∧ b < w.heap.size) out k (leafN fill l) 0 (.slice none 0 0) kv vv (.slice none 0 0) us ∧ Rows2 wr w0.heap.size (vs.drop (k * fill * 2)) m m kv vv kus vus ∧ Below w0.heap.size w0 wr)
  case atStart =>
    refine ⟨0, 0, 0, [.int .i64 0, .slice none 0 0, .int .i64 0, .slice none 0 0, .slice none 0 0, .slice none 0 0], .slice none 0 0, .slice none 0 0, [], [], by omega, by omega, rfl, Lib.hid ⟨by omega, by omega, fun h => h⟩, ⟨?_, rfl, fun g _ => ⟨by simp [Value.ownBlock], by simp [Value.ownBlock], by simp [Value.ownBlock]⟩, fun j hj => absurd hj (by omega)⟩, Rows2.nil _ _ _, (Below.refl _ _).alloc (Nat.le_refl _) _⟩
    have := Blk.new w0 93 #[.int .i64 0, .slice none 0 0, .int .i64 0, .slice none 0 0, .slice none 0 0, .slice none 0 0]
    exact ⟨rfl, .inr ⟨w0.heap.size, 1, _, rfl, Nat.le_refl _, this, by omega, by simp [maxLen], rfl, rfl⟩⟩
  case round =>
    obtain ⟨i, k, m, us, kv, vv, kus, vus, hg, hin, rfl, hik, hmk, hrw, hbz⟩ := hrel
    have HG := Lib.hid hg
    have HIK := hik
    have HMK := Lib.hid hmk
    have HRW := Lib.hid hrw
    have HBZ := Lib.hid hbz
    rename World => wr
    clear hg hik hmk hrw hbz
    obtain ⟨g, gc, rfl, hg1, hg2, hg3, hg4, hg5, q0, q1, q2, q3, q4, q5⟩ := HMK.out.form
    have HQ1 := Lib.hid q1
    have HFR0 := Lib.hid hg5
    clear q0 q1 q2 q3 q4 q5 hg5
    have cf3 : wr.cell? ⟨w.heap.size, 3, none⟩ = some (.int .i64 fill) := bcell HBZ.out hw00 HCF.out
    have hi64 : (i : Int) ≤ 1152921504606 := by omega
    have hwi := IntWalk.i64_in ((i : Int) + 1) (by omega)
    have hbs : w0.heap.size ≤ wr.heap.size := HBZ.out.size
    have HBB : Hid (Below w.heap.size w wr) := Lib.hid (HBW.out.trans (HBZ.out.mono (by omega)))
    have hkb : k ≤ 1152921504606 := by have := HIK.out.1; have : k * 1 ≤ k * fill := Nat.mul_le_mul_left _ hf1; omega
    have hmb : m ≤ 1152921504606 := by have := HIK.out.1; omega
    by_cases hlt : i < n
    · have hlt' : (i : Int) < (n : Int) := by omega
      obtain ⟨b', o', Ak, nk, ck, Av, nv, cv, hB, _, f1, f2, c1', c2', eb, heb, sb, _⟩ := ent_at HR.out HT.out (by have := HL.out; omega) hlt
      injection hB with hB
      injection hB with hB1 hB2
      subst hB1; subst hB2
      have C1 := Lib.hid (bkeep HBB.out c1')
      have C2 := Lib.hid (bkeep HBB.out c2')
      have HF1 := Lib.hid f1
      have HF2 := Lib.hid f2
      have HEB := Lib.hid heb
      have SBB := Lib.hid (sb.below HBB.out).bt
      clear f1 f2 c1' c2' heb sb
      by_cases hm : 0 < i ∧ m = fill
      · have hi0' : (0 : Int) < (i : Int) := by omega
        have hrem : ((i : Int) % (fill : Int) == 0) = true := by
          rw [beq_iff_eq]
          have := HIK.out.1
          rw [this, hm.2, show k * fill + fill = (k + 1) * fill by rw [Nat.add_mul]; omega, Int.natCast_mul]
          exact Int.mul_emod_left _ _
        obtain ⟨b', o', Ak2, nk2, ck2, _, _, _, hB, _, _, _, c3', _, ea, hea, sa, _⟩ := ent_at HR.out HT.out (by have := HL.out; omega) (show i - 1 < n by omega)
        injection hB with hB
        injection hB with hB1 hB2
        subst hB1; subst hB2
        have C3 := Lib.hid (bkeep HBB.out c3')
        have SBA := Lib.hid (sa.below HBB.out).bt
        have hi1 : i = (k + 1) * fill := by have := HIK.out.1; rw [this, hm.2, Nat.add_mul]; omega
        have hhi : Hid (hiAt fill l k = (betw ea.1 eb.1).1) := Lib.hid (by
          have q1 : l.getD ((k + 1) * fill - 1) ([], []) = ea := by rw [← hi1, List.getD_eq_getElem?_getD, hea]; rfl
          have q2 : l.getD ((k + 1) * fill) ([], []) = eb := by rw [← hi1, List.getD_eq_getElem?_getD, HEB.out]; rfl
          unfold hiAt
          rw [if_pos (by have := HL.out; omega), q1, q2])
        have la : ea.1.length ≤ 1152921504606 := (HS.out _ (List.mem_of_getElem? hea)).1
        have lb : eb.1.length ≤ 1152921504606 := (HS.out _ (List.mem_of_getElem? HEB.out)).1
        have HM' := Lib.hid hm
        have HI1 := Lib.hid hi1
        have w1 := IntWalk.i64_in ((k : Int) + 1 - 1) (by omega)
        have w2 : (0 : Int) ≤ (k : Int) + 1 - 1 := by omega
        have w3 : ((k : Int) + 1 - 1) < (k : Int) + 1 := by omega
        have w4 : ((k : Int) + 1 - 1).toNat = k := by omega
        have hi1' : 1 ≤ i := by omega
        clear c3' hea sa hm hi1
        go_wp2
        refine rl_betw b o n c i Ak2 Ak nk2 nk ck2 ck _ ea.1 eb.1 wr _ (Lib.hid (fun _ _ _ _ h => h)) hi1' hlt hn C3.out C1.out SBA SBB la lb ?_
        intro v27 v28 v29 v30 v31 v32 v33 v34 v35 v36 v37 v38 v39 v40 v41 K5 n5 c5 e5 w5 hk5 hb5
        have HK5 := Lib.hid hk5
        have HB5 := Lib.hid hb5
        have q1 := bkeep hb5 HQ1.out
        have MK5 := HMK.out.below hb5
        have qf : ∀ o, w5.frozen? ⟨g, o, none⟩ = false := (MK5.own).frozenAt
        have HMK6 := Lib.hid (MK5.setHigh (.slice K5 n5 c5))
        have HO6 := Lib.hid HMK6.out.own
        have hz5 : w0.heap.size ≤ w5.heap.size := Nat.le_trans hbs hb5.size
        clear hk5 hb5 MK5
        go_wp2_with (first | (at_builtin; go_loud (refine wpList_append_any _ rfl (.tmp 50) (.tmp 52) _ rfl w0.heap.size 93 i0 _ 6 112 Try.underlying85 hi0 iz0 iz1 iz2 rfl (by omega) (.slice (some ⟨g, 0, none⟩) (k + 1) gc) (k + 1) (us.set (k * 6 + 1) (.slice K5 n5 c5)) rfl (HO6.out.alloc _) (From w5.heap.size) (some ⟨w5.heap.size, 0, none⟩) 1 1 [.int .i64 0, .slice none 0 0, .int .i64 0, .slice none 0 0, .slice none 0 0, .slice none 0 0] rfl (by have := Rd.lit (w5.setCell ⟨g, k * 6 + 1, none⟩ (.slice K5 n5 c5)) #[.int .i64 0, .slice none 0 0, .int .i64 0, .slice none 0 0, .slice none 0 0, .slice none 0 0] 93 6 rfl; simpa using this) (by simp [Value.oneCell']) (by simp only [maxLen]; omega) (by omega) (by simp; omega) ?_); intro v6 w6 hown6 hg6 hat6; obtain ⟨g6, gc6, hv6, _, _⟩ := hown6.form (by omega); subst hv6; have HO7 := Lib.hid hown6; have HG7 := Lib.hid hg6; have HA7 := Lib.hid hat6; clear hown6 hg6 hat6))
        have hmkn : Mk w6 w0.heap.size (fun b => F0 b ∧ b < w.heap.size) (.slice (some ⟨g6, 0, none⟩) (k + 1 + 1) gc6) (k + 1) (leafN fill l) 0 (.slice none 0 0) (.slice none 0 0) (.slice none 0 0) (.slice none 0 0) (us.set (k * 6 + 1) (.slice K5 n5 c5) ++ [.int .i64 0, .slice none 0 0, .int .i64 0, .slice none 0 0, .slice none 0 0, .slice none 0 0]) := by
          refine HMK6.out.more ((Below.refl _ _).alloc (Nat.le_refl _) _) HG7.out HA7.out HO7.out ?_
          have hoff : ∀ x, (kv.ownBlock = some x ∨ vv.ownBlock = some x) → (Value.slice (some ⟨g, 0, none⟩) (k + 1) gc).ownBlock ≠ some x := fun x hx e => hx.elim (HMK6.out.d1 x e).1 (HMK6.out.d1 x e).2.1
          have hcs : Chg (One g) w5 (w5.setCell ⟨g, k * 6 + 1, none⟩ (.slice K5 n5 c5)) := Chg.set1 _ _ _ _
          have hRW5 := (HRW.out.below HB5.out).off (k * 6 + 1) (.slice K5 n5 c5) (b := g) (HMK6.out.d1 g rfl).1 (HMK6.out.d1 g rfl).2.1
          have e1 := HM'.out.2
          rw [e1] at hRW5
          refine leafN_V (m := fill) hRW5 ((HT.out.below HBB.out).next (Chg.of_below (S := One g) HB5.out |>.trans hcs (fun _ _ h => h)) (fun x hx e => by have e : x = g := e; have := hx.2; omega) (fun _ _ h => h)) (by have e3 := HI1.out; have := HL.out; rw [Nat.add_mul] at e3; omega) (fun x hx => ⟨.inr (own_lt HRW.out.k x hx).1, hoff x (.inl hx)⟩) (fun x hx => ⟨.inr (own_lt HRW.out.v x hx).1, hoff x (.inr hx)⟩) (fun x hx => ⟨.inl hx, fun e => by have : g = x := (by simpa [Value.ownBlock] using e); have := hx.2; omega⟩) rfl ?_
          rw [hhi.out]
          exact ((HK5.out.weak (G := fun x => wr.heap.size ≤ x) (fun x hx => hx)).chg hcs (fun x hx e => by have e : x = g := e; omega)).weak (fun x hx => ⟨.inr (by omega), fun e => by have : g = x := (by simpa [Value.ownBlock] using e); omega⟩)
        have HMK7 := Lib.hid hmkn
        have HB7 : Hid (Below w0.heap.size w0 w6) := Lib.hid (((((HBZ.out.trans (HB5.out.mono hbs)).setCell (p := ⟨g, k * 6 + 1, none⟩) hg3 (.slice K5 n5 c5)).alloc (by simp; omega) (.cells #[.int .i64 0, .slice none 0 0, .int .i64 0, .slice none 0 0, .slice none 0 0, .slice none 0 0] 93))).grown HG7.out (by simp; omega) (fun x hx => by have : g = x := (by simpa [Value.ownBlock] using hx); omega))
        have hb7 : w0.heap.size ≤ w6.heap.size := HB7.out.size
        have HC7 : Hid (Below w0.heap.size wr w6) := Lib.hid (((((HB5.out.mono hbs).setCell (p := ⟨g, k * 6 + 1, none⟩) hg3 (.slice K5 n5 c5)).alloc (by simp; omega) (.cells #[.int .i64 0, .slice none 0 0, .int .i64 0, .slice none 0 0, .slice none 0 0, .slice none 0 0] 93))).grown HG7.out (by simp; omega) (fun x hx => by have : g = x := (by simpa [Value.ownBlock] using hx); omega))
        have C17 : Hid (w6.cell? ⟨b, o + i * 2, none⟩ = some (.slice Ak nk ck)) := Lib.hid (bcell HC7.out hbb C1.out)
        have C27 : Hid (w6.cell? ⟨b, o + i * 2 + 1, none⟩ = some (.slice Av nv cv)) := Lib.hid (bcell HC7.out hbb C2.out)
        have HRW7 : Hid (Rows2 w6 w0.heap.size (vs.drop ((k + 1) * fill * 2)) 0 0 (.slice none 0 0) (.slice none 0 0) [] []) := Lib.hid (Rows2.nil _ _ _)
        clear hmkn w1 w2 w3 w4
        have w1 := IntWalk.i64_in ((k : Int) + 1 + 1 - 1) (by omega)
        have w2 : (0 : Int) ≤ (k : Int) + 1 + 1 - 1 := by omega
        have w3 : ((k : Int) + 1 + 1 - 1) < (k : Int) + 1 + 1 := by omega
        have w4 : ((k : Int) + 1 + 1 - 1).toNat = k + 1 := by omega
        have HIKX : Hid (i = (k + 1) * fill + 0) := Lib.hid (by have := HI1.out; omega)
        have HRK : Hid (∀ x, (Value.slice none 0 0).ownBlock = some x → w0.heap.size ≤ x) := Lib.hid (fun x hx => (own_lt HRW7.out.k x hx).1)
        have HRV : Hid (∀ x, (Value.slice none 0 0).ownBlock = some x → w0.heap.size ≤ x) := Lib.hid (fun x hx => (own_lt HRW7.out.v x hx).1)
        have D1 := Lib.hid (HMK7.out.d1 g6 rfl)
        obtain ⟨gx, gy, ex, _, _, _, _, hfr, _, _, _, hq3, _, _⟩ := HMK7.out.form
        injection ex with ex _ ex'
        injection ex with ex
        injection ex with ex
        subst ex; subst ex'
        have HFR := Lib.hid hfr
        have HQ3' := Lib.hid hq3
        clear hfr hq3
        skip
        refine rl_key b o n c i g6 ((k + 1) * 6) w0.heap.size (Value.slice none 0 0) 0 _ Ak nk ck w6 _ (Lib.hid (fun _ _ _ _ h => h)) hlt hn (by omega) hb7 hbb C17.out HQ3'.out HFR.out HRW7.out.k D1.out.1 ?_
        intro v59 v60 v61 v62 v63 v64 v65 v66 v67 v68 v69 v70 v71 v72 v73 v74 v2 wa w2 hwa ho2 hg2 hat2
        have HB2 : Hid (Below w0.heap.size w0 (w2.setCell ⟨g6, (k + 1) * 6 + 3, none⟩ v2)) := Lib.hid (((HB7.out.trans (hwa.mono hb7)).grown hg2 (Nat.le_trans hb7 hwa.size) (fun x hx => HRK.out x hx)).setCell (p := ⟨g6, (k + 1) * 6 + 3, none⟩) (by show w0.heap.size ≤ g6; omega) v2)
        have HBW2 : Hid (Below w0.heap.size w6 (w2.setCell ⟨g6, (k + 1) * 6 + 3, none⟩ v2)) := Lib.hid (((hwa.mono hb7).grown hg2 (Nat.le_trans hb7 hwa.size) (fun x hx => HRK.out x hx)).setCell (p := ⟨g6, (k + 1) * 6 + 3, none⟩) (by show w0.heap.size ≤ g6; omega) v2)
        have HMK2 := Lib.hid (HMK7.out.setKeys hwa hg2 hat2)
        have hgv2 : v2.ownBlock ≠ some g6 := HMK2.out.d1 g6 rfl |>.1
        have HRW2 := Lib.hid ((Rows2.key (HRW7.out.below hwa) ho2 hg2 hat2 (by rw [List.getElem?_drop, show (k + 1) * fill * 2 + 2 * 0 = 2 * i by have := HIKX.out; omega]; exact HF1.out)).off ((k + 1) * 6 + 3) v2 hgv2 D1.out.2.1)
        have HC2' := Lib.hid (bcell HBW2.out hbb C27.out)
        clear ho2 hg2 hat2 hwa hgv2 HBW2
        obtain ⟨W2, hW2⟩ : ∃ W, W = w2.setCell ⟨g6, (k + 1) * 6 + 3, none⟩ v2 := ⟨_, rfl⟩
        rw [← hW2] at HB2 HMK2 HRW2 HC2' ⊢
        clear hW2
        obtain ⟨g', gc', e, _, _, _, _, hf', _, _, _, _, q4, _⟩ := HMK2.out.form
        injection e with e _ e'
        injection e with e
        injection e with e
        subst e; subst e'
        have HQ4' := Lib.hid q4
        have HF' := Lib.hid hf'
        have D2 := Lib.hid (HMK2.out.d1 g6 rfl)
        clear q4 hf'
        go_wp2_with fail
        refine rl_val b o n c i g6 ((k + 1) * 6) w0.heap.size (Value.slice none 0 0) 0 _ Av nv cv W2 _ (Lib.hid (fun _ _ _ _ h => h)) hlt hn (by omega) HB2.out.size hbb HC2'.out HQ4'.out HF'.out HRW2.out.v D2.out.2.1 ?_
        intro v75 v76 v77 v78 v79 v80 v81 v82 v83 v84 v85 v86 v87 v88 v89 v90 v3 wb w3 hwb ho3 hg3 hat3
        have hz : w0.heap.size ≤ W2.heap.size := HB2.out.size
        have HB3 := Lib.hid (((HB2.out.trans (hwb.mono hz)).grown hg3 (Nat.le_trans hz hwb.size) (fun x hx => HRV.out x hx)).setCell (p := ⟨g6, (k + 1) * 6 + 4, none⟩) (by show w0.heap.size ≤ g6; omega) v3)
        have HMK3 := Lib.hid (HMK2.out.setVals hwb hg3 hat3)
        have HRW3 := Lib.hid ((Rows2.val (HRW2.out.below hwb) ho3 hg3 hat3 (by rw [List.getElem?_drop, show (k + 1) * fill * 2 + (2 * 0 + 1) = 2 * i + 1 by have := HIKX.out; omega]; exact HF2.out)).off ((k + 1) * 6 + 4) v3 (HMK3.out.d1 g6 rfl).1 (HMK3.out.d1 g6 rfl).2.1)
        clear ho3 hg3 hat3 hwb
        go_wp2
        go_roundg (n - (i + 1))
        case measure => have := HG.out; omega
        case rel => exact ⟨i + 1, (k + 1), 0 + 1, _, _, _, _, _, rfl, by omega, by go_num, Lib.hid ⟨by have := HIKX.out; omega, by omega, fun _ => by omega⟩, HMK3.out, HRW3.out, HB3.out⟩
      · have hgd : ¬ (0 : Int) < (i : Int) ∨ (0 : Int) < (i : Int) ∧ ((i : Int) % (fill : Int) == 0) = false := by
          by_cases hi0 : 0 < i
          · refine .inr ⟨by omega, ?_⟩
            rw [beq_eq_false_iff_ne]
            have e1 := HIK.out
            have hmf : m < fill := by have : m ≠ fill := fun e => hm ⟨hi0, e⟩; omega
            rw [e1.1, Int.natCast_add, Int.natCast_mul, Int.add_comm, Int.add_mul_emod_self_right, Int.emod_eq_of_lt (by omega) (by omega)]
            have := e1.2.2 hi0
            omega
          · left; omega
        have hmf : m < fill := by
          have e1 := HIK.out
          rcases Nat.lt_or_ge m fill with h | h
          · exact h
          · have : m = fill := by omega
            exact absurd ⟨by have := e1.1; omega, this⟩ hm
        have HIKX : Hid (i = k * fill + m) := Lib.hid HIK.out.1
        rcases hgd with hgd | ⟨hgd1, hgd⟩
        · skip
          have HRK : Hid (∀ x, kv.ownBlock = some x → w0.heap.size ≤ x) := Lib.hid (fun x hx => (own_lt HRW.out.k x hx).1)
          have HRV : Hid (∀ x, vv.ownBlock = some x → w0.heap.size ≤ x) := Lib.hid (fun x hx => (own_lt HRW.out.v x hx).1)
          have D1 := Lib.hid (HMK.out.d1 g rfl)
          obtain ⟨gx, gy, ex, _, _, _, _, hfr, _, _, _, hq3, _, _⟩ := HMK.out.form
          injection ex with ex _ ex'
          injection ex with ex
          injection ex with ex
          subst ex; subst ex'
          have HFR := Lib.hid hfr
          have HQ3' := Lib.hid hq3
          clear hfr hq3
          go_wp2_with fail
          refine rl_key b o n c i g (k * 6) w0.heap.size kv m _ Ak nk ck wr _ (Lib.hid (fun _ _ _ _ h => h)) hlt hn (by omega) hbs hbb C1.out HQ3'.out HFR.out HRW.out.k D1.out.1 ?_
          intro v59 v60 v61 v62 v63 v64 v65 v66 v67 v68 v69 v70 v71 v72 v73 v74 v2 wa w2 hwa ho2 hg2 hat2
          have HB2 : Hid (Below w0.heap.size w0 (w2.setCell ⟨g, k * 6 + 3, none⟩ v2)) := Lib.hid (((HBZ.out.trans (hwa.mono hbs)).grown hg2 (Nat.le_trans hbs hwa.size) (fun x hx => HRK.out x hx)).setCell (p := ⟨g, k * 6 + 3, none⟩) (by show w0.heap.size ≤ g; omega) v2)
          have HBW2 : Hid (Below w0.heap.size wr (w2.setCell ⟨g, k * 6 + 3, none⟩ v2)) := Lib.hid (((hwa.mono hbs).grown hg2 (Nat.le_trans hbs hwa.size) (fun x hx => HRK.out x hx)).setCell (p := ⟨g, k * 6 + 3, none⟩) (by show w0.heap.size ≤ g; omega) v2)
          have HMK2 := Lib.hid (HMK.out.setKeys hwa hg2 hat2)
          have hgv2 : v2.ownBlock ≠ some g := HMK2.out.d1 g rfl |>.1
          have HRW2 := Lib.hid ((Rows2.key (HRW.out.below hwa) ho2 hg2 hat2 (by rw [List.getElem?_drop, show k * fill * 2 + 2 * m = 2 * i by have := HIKX.out; omega]; exact HF1.out)).off (k * 6 + 3) v2 hgv2 D1.out.2.1)
          have HC2' := Lib.hid (bcell HBW2.out hbb C2.out)
          clear ho2 hg2 hat2 hwa hgv2 HBW2
          obtain ⟨W2, hW2⟩ : ∃ W, W = w2.setCell ⟨g, k * 6 + 3, none⟩ v2 := ⟨_, rfl⟩
          rw [← hW2] at HB2 HMK2 HRW2 HC2' ⊢
          clear hW2
          obtain ⟨g', gc', e, _, _, _, _, hf', _, _, _, _, q4, _⟩ := HMK2.out.form
          injection e with e _ e'
          injection e with e
          injection e with e
          subst e; subst e'
          have HQ4' := Lib.hid q4
          have HF' := Lib.hid hf'
          have D2 := Lib.hid (HMK2.out.d1 g rfl)
          clear q4 hf'
          go_wp2_with fail
          refine rl_val b o n c i g (k * 6) w0.heap.size vv m _ Av nv cv W2 _ (Lib.hid (fun _ _ _ _ h => h)) hlt hn (by omega) HB2.out.size hbb HC2'.out HQ4'.out HF'.out HRW2.out.v D2.out.2.1 ?_
          intro v75 v76 v77 v78 v79 v80 v81 v82 v83 v84 v85 v86 v87 v88 v89 v90 v3 wb w3 hwb ho3 hg3 hat3
          have hz : w0.heap.size ≤ W2.heap.size := HB2.out.size
          have HB3 := Lib.hid (((HB2.out.trans (hwb.mono hz)).grown hg3 (Nat.le_trans hz hwb.size) (fun x hx => HRV.out x hx)).setCell (p := ⟨g, k * 6 + 4, none⟩) (by show w0.heap.size ≤ g; omega) v3)
          have HMK3 := Lib.hid (HMK2.out.setVals hwb hg3 hat3)
          have HRW3 := Lib.hid ((Rows2.val (HRW2.out.below hwb) ho3 hg3 hat3 (by rw [List.getElem?_drop, show k * fill * 2 + (2 * m + 1) = 2 * i + 1 by have := HIKX.out; omega]; exact HF2.out)).off (k * 6 + 4) v3 (HMK3.out.d1 g rfl).1 (HMK3.out.d1 g rfl).2.1)
          clear ho3 hg3 hat3 hwb
          go_wp2
          go_roundg (n - (i + 1))
          case measure => have := HG.out; omega
          case rel => exact ⟨i + 1, k, m + 1, _, _, _, _, _, rfl, by omega, by go_num, Lib.hid ⟨by have := HIKX.out; omega, by omega, fun _ => by omega⟩, HMK3.out, HRW3.out, HB3.out⟩
        · skip
          have HRK : Hid (∀ x, kv.ownBlock = some x → w0.heap.size ≤ x) := Lib.hid (fun x hx => (own_lt HRW.out.k x hx).1)
          have HRV : Hid (∀ x, vv.ownBlock = some x → w0.heap.size ≤ x) := Lib.hid (fun x hx => (own_lt HRW.out.v x hx).1)
          have D1 := Lib.hid (HMK.out.d1 g rfl)
          obtain ⟨gx, gy, ex, _, _, _, _, hfr, _, _, _, hq3, _, _⟩ := HMK.out.form
          injection ex with ex _ ex'
          injection ex with ex
          injection ex with ex
          subst ex; subst ex'
          have HFR := Lib.hid hfr
          have HQ3' := Lib.hid hq3
          clear hfr hq3
          go_wp2_with fail
          refine rl_key b o n c i g (k * 6) w0.heap.size kv m _ Ak nk ck wr _ (Lib.hid (fun _ _ _ _ h => h)) hlt hn (by omega) hbs hbb C1.out HQ3'.out HFR.out HRW.out.k D1.out.1 ?_
          intro v59 v60 v61 v62 v63 v64 v65 v66 v67 v68 v69 v70 v71 v72 v73 v74 v2 wa w2 hwa ho2 hg2 hat2
          have HB2 : Hid (Below w0.heap.size w0 (w2.setCell ⟨g, k * 6 + 3, none⟩ v2)) := Lib.hid (((HBZ.out.trans (hwa.mono hbs)).grown hg2 (Nat.le_trans hbs hwa.size) (fun x hx => HRK.out x hx)).setCell (p := ⟨g, k * 6 + 3, none⟩) (by show w0.heap.size ≤ g; omega) v2)
          have HBW2 : Hid (Below w0.heap.size wr (w2.setCell ⟨g, k * 6 + 3, none⟩ v2)) := Lib.hid (((hwa.mono hbs).grown hg2 (Nat.le_trans hbs hwa.size) (fun x hx => HRK.out x hx)).setCell (p := ⟨g, k * 6 + 3, none⟩) (by show w0.heap.size ≤ g; omega) v2)
          have HMK2 := Lib.hid (HMK.out.setKeys hwa hg2 hat2)
          have hgv2 : v2.ownBlock ≠ some g := HMK2.out.d1 g rfl |>.1
          have HRW2 := Lib.hid ((Rows2.key (HRW.out.below hwa) ho2 hg2 hat2 (by rw [List.getElem?_drop, show k * fill * 2 + 2 * m = 2 * i by have := HIKX.out; omega]; exact HF1.out)).off (k * 6 + 3) v2 hgv2 D1.out.2.1)
          have HC2' := Lib.hid (bcell HBW2.out hbb C2.out)
          clear ho2 hg2 hat2 hwa hgv2 HBW2
          obtain ⟨W2, hW2⟩ : ∃ W, W = w2.setCell ⟨g, k * 6 + 3, none⟩ v2 := ⟨_, rfl⟩
          rw [← hW2] at HB2 HMK2 HRW2 HC2' ⊢
          clear hW2
          obtain ⟨g', gc', e, _, _, _, _, hf', _, _, _, _, q4, _⟩ := HMK2.out.form
          injection e with e _ e'
          injection e with e
          injection e with e
          subst e; subst e'
          have HQ4' := Lib.hid q4
          have HF' := Lib.hid hf'
          have D2 := Lib.hid (HMK2.out.d1 g rfl)
          clear q4 hf'
          go_wp2_with fail
          refine rl_val b o n c i g (k * 6) w0.heap.size vv m _ Av nv cv W2 _ (Lib.hid (fun _ _ _ _ h => h)) hlt hn (by omega) HB2.out.size hbb HC2'.out HQ4'.out HF'.out HRW2.out.v D2.out.2.1 ?_
          intro v75 v76 v77 v78 v79 v80 v81 v82 v83 v84 v85 v86 v87 v88 v89 v90 v3 wb w3 hwb ho3 hg3 hat3
          have hz : w0.heap.size ≤ W2.heap.size := HB2.out.size
          have HB3 := Lib.hid (((HB2.out.trans (hwb.mono hz)).grown hg3 (Nat.le_trans hz hwb.size) (fun x hx => HRV.out x hx)).setCell (p := ⟨g, k * 6 + 4, none⟩) (by show w0.heap.size ≤ g; omega) v3)
          have HMK3 := Lib.hid (HMK2.out.setVals hwb hg3 hat3)
          have HRW3 := Lib.hid ((Rows2.val (HRW2.out.below hwb) ho3 hg3 hat3 (by rw [List.getElem?_drop, show k * fill * 2 + (2 * m + 1) = 2 * i + 1 by have := HIKX.out; omega]; exact HF2.out)).off (k * 6 + 4) v3 (HMK3.out.d1 g rfl).1 (HMK3.out.d1 g rfl).2.1)
          clear ho3 hg3 hat3 hwb
          go_wp2
          go_roundg (n - (i + 1))
          case measure => have := HG.out; omega
          case rel => exact ⟨i + 1, k, m + 1, _, _, _, _, _, rfl, by omega, by go_num, Lib.hid ⟨by have := HIKX.out; omega, by omega, fun _ => by omega⟩, HMK3.out, HRW3.out, HB3.out⟩
    · have hie : i = n := by omega
      subst hie
      go_wp2
      go_ret
      have e1 := HIK.out
      have e2 := HL.out
      have hpn := pn_bounds l.length fill hf1 (by omega)
      have hM : pn l.length fill = k + 1 := by
        have a1 : k * fill < pn l.length fill * fill := by omega
        have a2 : pn l.length fill * fill < (k + 2) * fill := by rw [Nat.add_mul]; omega
        have a3 := Nat.lt_of_mul_lt_mul_right a1
        have a4 := Nat.lt_of_mul_lt_mul_right a2
        omega
      have hgk : ∀ x, w0.heap.size ≤ x → kv.ownBlock = some x → (Value.slice (some ⟨g, 0, none⟩) (k + 1) gc).ownBlock ≠ some x := fun x _ hx e => (HMK.out.d1 x e).1 hx
      have hV := leafN_V (G := fun x => ((F0 x ∧ x < w.heap.size) ∨ w0.heap.size ≤ x) ∧ (Value.slice (some ⟨g, 0, none⟩) (k + 1) gc).ownBlock ≠ some x) HRW.out (HT.out.below HBB.out) (by omega) (fun x hx => ⟨.inr (own_lt HRW.out.k x hx).1, fun e => (HMK.out.d1 x e).1 hx⟩) (fun x hx => ⟨.inr (own_lt HRW.out.v x hx).1, fun e => (HMK.out.d1 x e).2.1 hx⟩) (fun x hx => ⟨.inl hx, fun e => by have : g = x := (by simpa [Value.ownBlock] using e); have := hx.2; omega⟩) (by rw [List.take_of_length_le (by rw [List.length_drop]; omega), List.take_of_length_le (by rw [List.length_drop]; omega)]) (by rw [show hiAt fill l k = [] by unfold hiAt; rw [if_neg (by rw [Nat.add_mul]; omega)]]; exact Bt.nil _ _)
      have hLv := HMK.out.level hV
      obtain ⟨us2, l1, l2, l3⟩ := hLv
      refine ⟨_, rfl, ⟨us2, ?_, fun x hx => .inr (by have := (own_lt l1 x hx).1; omega), fun j s hs => ?_⟩, HBB.out⟩
      · unfold leavesN; rw [hM]; exact own_mono l1 (by omega)
      · unfold leavesN at hs; rw [hM] at hs; exact (l3 j s hs).weak (fun x hx => hx.imp id (fun h => by omega))
end Go.Proofs.Ytgjphmlmndcaeaa
