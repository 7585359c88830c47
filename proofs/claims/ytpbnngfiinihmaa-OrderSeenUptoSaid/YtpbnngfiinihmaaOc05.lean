/- A stretch turned by swaps of blocks (what slices.rotateCmpFunc does), as a plain law. No program in sight. A region that draws its order: a condition that every operation keeps. Over any program. WALKS: two numbers of a row compared by a closure (in insertionSort, symMerge). WALKS: small functions: cmp.isNaN, cmp.Compare of numbers, the closure of order.Line, order.write, order.single, order.good. -/
import Derived.Test.YtpbnngfiinihmaaOc04
import Derived.Test.YtpbnngfiinihmaaOc02
set_option linter.unusedVariables false
set_option linter.unusedSimpArgs false
namespace Go.Proofs.Ytpbnngfiinihmaa
section
variable {a b k m i j s e t u : Nat} {xs ys zs : Nat → Int}
theorem swp_l (h1 : a ≤ t) (h2 : t < a + k) (h3 : u = b + (t - a)) : swp a b k xs t = xs u := by unfold swp; rw [if_pos ⟨h1, h2⟩, h3]
theorem swp_r (hab : a + k ≤ b) (h1 : b ≤ t) (h2 : t < b + k) (h3 : u = a + (t - b)) : swp a b k xs t = xs u := by unfold swp; rw [if_neg (by omega), if_pos ⟨h1, h2⟩, h3]
theorem swp_o (h1 : ¬ (a ≤ t ∧ t < a + k)) (h2 : ¬ (b ≤ t ∧ t < b + k)) : swp a b k xs t = xs t := by unfold swp; rw [if_neg h1, if_neg h2]
theorem swp_out (hab : a + k ≤ b) : Out a (b + k) xs (swp a b k xs) := fun t ht => swp_o (by omega) (by omega)
theorem rot_gt (hij : j < i) (hi : i ≤ m) (h : Rot (m - (i - j)) m (m + j) (swp (m - i) m j ys) zs) : Rot (m - i) m (m + j) ys zs := by
  obtain ⟨h1, h2, h3⟩ := h
  refine ⟨fun t ht => ?_, fun t ht => ?_, fun t ht => ?_⟩
  · rw [h3 _ (by omega)]; exact swp_l (by omega) (by omega) (by omega)
  · by_cases c : t < j
    · have := h1 t (by omega)
      rw [show m - i + (m + j - m) + t = m - (i - j) + t by omega, this]; exact swp_r (by omega) (by omega) (by omega) (by omega)
    · have := h2 (t - j) (by omega)
      rw [show m - i + (m + j - m) + t = m - (i - j) + (m + j - m) + (t - j) by omega, this, show m - (i - j) + (t - j) = m - i + t by omega]; exact swp_o (by omega) (by omega)
  · rw [h3 _ (by omega)]; exact swp_o (by omega) (by omega)
theorem rot_lt (hij : i < j) (hi : i ≤ m) (h : Rot (m - i) m (m + (j - i)) (swp (m - i) (m + j - i) i ys) zs) : Rot (m - i) m (m + j) ys zs := by
  obtain ⟨h1, h2, h3⟩ := h
  refine ⟨fun t ht => ?_, fun t ht => ?_, fun t ht => ?_⟩
  · by_cases c : t < j - i
    · have := h1 t (by omega)
      rw [this]
      by_cases d : m + t < m + j - i
      · exact swp_o (by omega) (by omega)
      · omega
    · by_cases d : t < j - i + i
      · have := h2 (t - (j - i)) (by omega)
        rw [show m - i + t = m - i + (m + (j - i) - m) + (t - (j - i)) by omega, this]; exact swp_l (by omega) (by omega) (by omega)
      · omega
  · rw [h3 _ (by omega)]; exact swp_r (by omega) (by omega) (by omega) (by omega)
  · rw [h3 _ (by omega)]; exact swp_o (by omega) (by omega)
theorem rot_eq (hi : i ≤ m) : Rot (m - i) m (m + i) ys (swp (m - i) m i ys) :=
  ⟨fun t ht => swp_l (by omega) (by omega) (by omega), fun t ht => swp_r (by omega) (by omega) (by omega) (by omega), fun t ht => swp_o (by omega) (by omega)⟩
/-- the number at i has moved down to j; it moves down by one more -/
theorem rot_down (hj : 1 ≤ j) (hji : j ≤ i) (h : Rot j i (i + 1) xs zs) : Rot (j - 1) i (i + 1) xs (sw2 j (j - 1) zs) := by
  obtain ⟨h1, h2, h3⟩ := h
  have q1 := h1 0 (by omega)
  rw [Nat.add_zero, Nat.add_zero] at q1
  refine ⟨fun t ht => ?_, fun t ht => ?_, fun t ht => ?_⟩
  · obtain rfl : t = 0 := by omega
    unfold sw2; rw [if_neg (by omega), if_pos (by omega), Nat.add_zero]; exact q1
  · unfold sw2
    by_cases c : t = 0
    · subst c; rw [if_pos (by omega), h3 _ (by omega)]; congr 1
    · rw [if_neg (by omega), if_neg (by omega)]
      have := h2 (t - 1) (by omega)
      rw [show j - 1 + (i + 1 - i) + t = j + (i + 1 - i) + (t - 1) by omega, this]; congr 1; omega
  · unfold sw2; rw [if_neg (by omega), if_neg (by omega)]; exact h3 t (by omega)
/-- the number at a has moved up to k; it moves up by one more -/
theorem rot_up (hk : a ≤ k) (h : Rot a (a + 1) (k + 1) xs zs) : Rot a (a + 1) (k + 1 + 1) xs (sw2 k (k + 1) zs) := by
  obtain ⟨h1, h2, h3⟩ := h
  have q1 := h2 0 (by omega)
  rw [show a + (k + 1 - (a + 1)) + 0 = k by omega, Nat.add_zero] at q1
  refine ⟨fun t ht => ?_, fun t ht => ?_, fun t ht => ?_⟩
  · unfold sw2
    by_cases c : a + t = k
    · rw [if_pos c, h3 _ (by omega)]; congr 1; omega
    · rw [if_neg c, if_neg (by omega)]; exact h1 t (by omega)
  · obtain rfl : t = 0 := by omega
    unfold sw2; rw [if_neg (by omega), if_pos (by omega), Nat.add_zero]; exact q1
  · unfold sw2; rw [if_neg (by omega), if_neg (by omega)]; exact h3 t (by omega)
theorem Rot.id (s m : Nat) (xs : Nat → Int) : Rot s m m xs xs := ⟨fun t ht => by omega, fun t ht => by rw [Nat.sub_self, Nat.add_zero], fun _ _ => rfl⟩
theorem Rot.id' (m e : Nat) (xs : Nat → Int) : Rot m m e xs xs := ⟨fun t ht => rfl, fun t ht => by omega, fun _ _ => rfl⟩
theorem sw2_same {a b : Nat} {xs : Nat → Int} (hi : a ≤ i ∧ i < b) (hj : a ≤ j ∧ j < b) : SameS a b xs (sw2 i j xs) := by
  intro v
  constructor
  · rintro ⟨t, h1, h2, rfl⟩
    by_cases c : t = i
    · exact ⟨j, hj.1, hj.2, by unfold sw2; by_cases d : j = i
                               · rw [if_pos d, c, d]
                               · rw [if_neg d, if_pos rfl, c]⟩
    · by_cases d : t = j
      · exact ⟨i, hi.1, hi.2, by unfold sw2; rw [if_pos rfl, d]⟩
      · exact ⟨t, h1, h2, by unfold sw2; rw [if_neg c, if_neg d]⟩
  · rintro ⟨t, h1, h2, rfl⟩
    by_cases c : t = i
    · exact ⟨j, hj.1, hj.2, by unfold sw2; rw [if_pos c]⟩
    · by_cases d : t = j
      · exact ⟨i, hi.1, hi.2, by unfold sw2; rw [if_neg c, if_pos d]⟩
      · exact ⟨t, h1, h2, by unfold sw2; rw [if_neg c, if_neg d]⟩
end
end Go.Proofs.Ytpbnngfiinihmaa

namespace Go.Proofs.Ytpbnngfiinihmaa
open Go.RowKit
section
variable {P : Program} {ops : Array Oper} {Q : Exit → Act → World → Prop} {md : Region.Mode} {S : World → Prop}

/-- whatever order is picked from here on; S holds behind every operation -/
def wpV (P : Program) (md : Region.Mode) (ops : Array Oper) (Q : Exit → Act → World → Prop) (S : World → Prop) : Nat → Array Bool → Act → World → Prop
  | 0, listed, a, w => Region.ready md ops listed = [] ∧ Q .normal a w
  | f + 1, listed, a, w =>
    (Region.ready md ops listed = [] → Q .normal a w) ∧
    ∀ i ∈ Region.ready md ops listed, wpOp P ops Q i (fun a' w' => S w' ∧ wpV P md ops Q S f (listed.setIfInBounds i true) a' w') a w

theorem wpAny_of_V : ∀ (f : Nat) (listed : Array Bool) (a : Act) (w : World), wpV P md ops Q S f listed a w → wpAny P md ops Q f listed a w
  | 0, _, _, _, h => h
  | f + 1, _, _, _, h => ⟨h.1, fun i hi => wpOp_mono (fun a' w' h' => wpAny_of_V f _ a' w' h'.2) (h.2 i hi)⟩

theorem wpV_first {i : Nat} {oi : Oper} {v : Value} (hi : ops[i]? = some oi) (hsel : ∀ (j : Nat) (o : Oper) cs c, ops[j]? = some o → o.op ≠ .select cs c)
    (hQ : ∀ c a w, Q (.panic c) (a.put oi.dst v) w → Q (.panic c) a w) :
    ∀ (f : Nat) (listed : Array Bool) (a : Act) (w : World),
      (∀ j oj, ops[j]? = some oj → j ≠ i → listed.getD j true = false → (∀ e ∈ oj.after, Region.binds md e = true → e.on ≠ i) → oi.apart ops oj = true) →
      i ∈ Region.ready md ops listed → YieldsIf P ops S oi v a → S w →
      wpV P md ops Q S f (listed.setIfInBounds i true) (a.put oi.dst v) w → wpV P md ops Q S (f + 1) listed a w := by
  intro f
  induction f with
  | zero =>
    intro listed a w _ hr hy hS H
    refine ⟨fun h => (by rw [h] at hr; cases hr), fun j hj => ?_⟩
    by_cases hji : j = i
    · subst hji; exact hy.wpOp hi hS ⟨hS, H⟩
    · have h1 := ready_mono hj hji
      rw [H.1] at h1
      cases h1
  | succ f ih =>
    intro listed a w hfree hr hy hS H
    refine ⟨fun h => (by rw [h] at hr; cases hr), fun j hj => ?_⟩
    by_cases hji : j = i
    · subst hji; exact hy.wpOp hi hS ⟨hS, H⟩
    · have h1 := H.2 j (ready_mono hj hji)
      have hil := (mem_ready.1 hr).1
      obtain ⟨hjun, oj, hoj, hall⟩ := mem_ready.1 hj
      have hnot : ∀ e ∈ oj.after, Region.binds md e = true → e.on ≠ i := by
        intro e he hbd heq
        have h2 := hall e he hbd
        rw [heq] at h2
        rcases Nat.lt_or_ge i listed.size with hl | hl
        · simp [hl] at h2 hil; rw [hil] at h2; cases h2
        · simp [Array.getElem?_eq_none hl] at h2
      have h2 := wpOp_putIf hoj (hfree j oj hoj hji hjun hnot) (fun cs c => hsel i oi cs c hi) (fun cs c => hsel j oj cs c hoj) hQ hy h1
      have hfree' : ∀ k ok, ops[k]? = some ok → k ≠ i → (listed.setIfInBounds j true).getD k true = false → (∀ e ∈ ok.after, Region.binds md e = true → e.on ≠ i) → oi.apart ops ok = true := by
        intro k ok hk hki hun hno
        by_cases hjk : j = k
        · subst hjk; exact hfree _ ok hk hki hjun hno
        · rw [getD_set_ne' hjk] at hun; exact hfree k ok hk hki hun hno
      refine wpOp_mono (fun a' w' h3 => ?_) h2
      refine ⟨h3.2.1, ih (listed.setIfInBounds j true) a' w' hfree' (ready_mono hr (Ne.symm hji)) h3.1 h3.2.1 ?_⟩
      rw [Array.setIfInBounds_comm _ _ hji]
      exact h3.2.2

/-- what yields its value in whatever world meets S may be taken first -/
theorem wpV_take {i : Nat} {oi : Oper} {v : Value} {f : Nat} {listed : Array Bool} {a : Act} {w : World} (hi : ops[i]? = some oi)
    (hs : Region.noSelect ops = true) (hf : Region.free md ops listed i = true) (hr : (Region.ready md ops listed).contains i = true)
    (hQ : ∀ c a w, Q (.panic c) (a.put oi.dst v) w → Q (.panic c) a w) (hS : S w) (hy : YieldsIf P ops S oi v a)
    (h : wpV P md ops Q S f (listed.setIfInBounds i true) (a.put oi.dst v) w) : wpV P md ops Q S (f + 1) listed a w :=
  wpV_first hi (Region.noSelect_spec hs) hQ f listed a w (Region.free_spec hi hf) (by simpa using hr) hy hS h
/-- one alone may come up: it is carried out -/
theorem wpV_one {i : Nat} {o : Oper} {f : Nat} {listed : Array Bool} {a : Act} {w : World} (hr : Region.ready md ops listed = [i]) (ho : ops[i]? = some o)
    (h : ∀ K' : Act → World → Prop, Hid (∀ a w, S w → wpV P md ops Q S f (listed.setIfInBounds i true) a w → K' a w) →
      if Region.wanted o (yielded ops a.tmps) = true then Oper.wp P o a w K' Q else K' (a.put o.dst undef) w) : wpV P md ops Q S (f + 1) listed a w := by
  refine ⟨fun h0 => (by rw [hr] at h0; cases h0), fun j hj => ?_⟩
  rw [hr] at hj
  obtain rfl : j = i := by simpa using hj
  exact wpOp_step ho (fun K' hK => h K' (fun a w hS hW => hK a w ⟨hS, hW⟩))

theorem wpV_done {listed : Array Bool} {a : Act} {w : World} (hr : Region.ready md ops listed = []) (h : Q .normal a w) : ∀ f, wpV P md ops Q S f listed a w
  | 0 => ⟨hr, h⟩
  | _ + 1 => ⟨fun _ => h, by rw [hr]; simp⟩

theorem wp_region_V {id : Nat} {a : Act} {w : World} (S : World → Prop) (hm : P.follows .mixedOrders = true)
    (h : wpV P .any ops Q S ops.size (Array.replicate ops.size false) a w.drew) : (Code.region id ops true).wp P Q a w :=
  wp_region_any hm (wpAny_of_V _ _ _ _ h)
end
end Go.Proofs.Ytpbnngfiinihmaa

namespace Go.Proofs.Ytpbnngfiinihmaa
open Go.RowKit
/-- the closure tells of two numbers which one's key is less; it changes nothing; whatever the row in block g has become -/
structure Cmp (w0 : World) (g : Nat) (p : Addr) (κ : Int → Int) (V : Int → Prop) : Prop where
  call : ∀ (W : World) (x y : Int), Chg (One g) w0 W → V x → V y →
    Calls Try.prog 18 #[.int .i64 x, .int .i64 y, .pointer (some p)] W fun e w' => (∃ z : Int, e = .returned (.int .i64 z) ∧ (z < 0 ↔ κ x < κ y)) ∧ Chg Nil W w'
/-- all numbers of a row are such -/
def Vs (V : Int → Prop) (n : Nat) (xs : Nat → Int) : Prop := ∀ i, i < n → V (xs i)
theorem Vs.same {V : Int → Prop} {n a b : Nat} {xs ys : Nat → Int} (h : Vs V n xs) (hs : SameS a b xs ys) (ho : Out a b xs ys) (hb : b ≤ n) : Vs V n ys := fun i hi => by
  by_cases c : a ≤ i ∧ i < b
  · obtain ⟨j, h1, h2, h3⟩ := (hs (ys i)).2 ⟨i, c.1, c.2, rfl⟩
    rw [← h3]; exact h j (by omega)
  · rw [ho i c]; exact h i hi
theorem Cmp.next {w0 w : World} {g : Nat} {p : Addr} {κ : Int → Int} {V : Int → Prop} (h : Cmp w0 g p κ V) (hc : Chg (One g) w0 w) : Cmp w g p κ V := ⟨fun W x y h1 h2 h3 => h.call W x y (hc.trans h1 (fun _ _ h => h)) h2 h3⟩
noncomputable def cmIC : Code := codeOr (Try.f56.body.bind (regionAt 4))
set_option maxRecDepth 100000 in
set_option maxHeartbeats 4000000 in
theorem cmI_piece (g o n c : Nat) (pl : Addr) (κ : Int → Int) (V : Int → Prop) (xs : Nat → Int) (a j : Nat) (w : World) {u2 u4 u5 u6 u7 u8 u10 u11 u12 u13 u14 u15 u16 u17 u18 u19 u20 u21 u22 u23 u24 u25 u26 u27 u28 u29 u30 u31 u32 u33 u34 u35 u36 u37 u38 u39 u40 u41 u42 u43 u44 u45 u46 u47 u48 u49 u50 u51 u52 : Value} (Q : Exit → Act → World → Prop) (HQP : Hid (∀ c t (a : Act) w, Q (.panic c) ⟨t, a.defers⟩ w → Q (.panic c) a w))
    (hp : j < n) (hq : j - 1 < n) (hn : n ≤ 1152921504606) (hj : a < j)
    (HC : Hid (Cmp w g pl κ V)) (HR : RowI w g o n xs) (HV : Vs V n xs)
    (hexit : ∀ (v18 v19 v20 v21 v22 v23 v24 v25 v26 v27 v28 v29 v30 v31 v32 v33 : Value) (rb : Bool) (w' : World), (rb = true ↔ κ (xs j) < κ (xs (j - 1))) → Chg Nil w w' → Q .normal ⟨(.slice (some ⟨g, o, none⟩) n c :: .int .i64 a :: u2 :: .func (.func 18) #[] #[.pointer (some pl)] :: u4 :: u5 :: u6 :: u7 :: u8 :: .int .i64 j :: u10 :: u11 :: u12 :: u13 :: u14 :: u15 :: u16 :: u17 :: v18 :: v19 :: v20 :: v21 :: v22 :: v23 :: v24 :: v25 :: v26 :: v27 :: v28 :: v29 :: v30 :: v31 :: v32 :: v33 :: .bool rb :: u35 :: u36 :: u37 :: u38 :: u39 :: u40 :: u41 :: u42 :: u43 :: u44 :: u45 :: u46 :: u47 :: u48 :: u49 :: u50 :: u51 :: u52 :: []).toArray, []⟩ w') :
    Code.wp Try.prog cmIC Q ⟨(.slice (some ⟨g, o, none⟩) n c :: .int .i64 a :: u2 :: .func (.func 18) #[] #[.pointer (some pl)] :: u4 :: u5 :: u6 :: u7 :: u8 :: .int .i64 j :: u10 :: u11 :: u12 :: u13 :: u14 :: u15 :: u16 :: u17 :: u18 :: u19 :: u20 :: u21 :: u22 :: u23 :: u24 :: u25 :: u26 :: u27 :: u28 :: u29 :: u30 :: u31 :: u32 :: u33 :: u34 :: u35 :: u36 :: u37 :: u38 :: u39 :: u40 :: u41 :: u42 :: u43 :: u44 :: u45 :: u46 :: u47 :: u48 :: u49 :: u50 :: u51 :: u52 :: []).toArray, []⟩ w := by
  have HEX := Lib.hid hexit
  have w1 := IntWalk.i64_in ((j : Int) - 1) (by omega); have w3 : (0 : Int) ≤ (j : Int) - 1 := (by omega); have w9 : (1 : Int) ≤ (j : Int) := (by omega); have w6 : (j : Int) - 1 < n := (by omega); have w5 : (j : Int) < n := (by omega); have w7 : ((j : Int) - 1).toNat = j - 1 := (by omega); have w8 : (a : Int) < (j : Int) := (by omega)
  have S0 : w.drew.cell? ⟨g, o + (j), none⟩ = some (.int .i64 (xs (j))) ∧ w.drew.cell? ⟨g, o + (j - 1), none⟩ = some (.int .i64 (xs (j - 1))) := ⟨(HR _ hp).1, (HR _ hq).1⟩
  have V1 := HV _ hp
  have V2 := HV _ hq
  clear hexit HR HV
  conv => arg 2; whnf
  refine wp_region_V (fun w' => w'.cell? ⟨g, o + (j), none⟩ = some (.int .i64 (xs (j))) ∧ w'.cell? ⟨g, o + (j - 1), none⟩ = some (.int .i64 (xs (j - 1)))) (by kernel_rfl) ?_
  refine wpV_take (i := 0) (v := ?_) rfl (by kernel_rfl) (by kernel_rfl) (by kernel_rfl) (by first | exact fun _ _ _ h => h | exact fun c a w h => HQP.out c _ a w h) S0 (Or.inl ⟨by kernel_rfl, ?_⟩) ?_
  rotate_left
  · intro w hSw
    go_simp
    try with_reducible rfl
  try simp only [Act.put, List.setIfInBounds_toArray, List.set_cons_zero, List.set_cons_succ]
  refine wpV_take (i := 1) (v := ?_) rfl (by kernel_rfl) (by kernel_rfl) (by kernel_rfl) (by first | exact fun _ _ _ h => h | exact fun c a w h => HQP.out c _ a w h) S0 (Or.inl ⟨by kernel_rfl, ?_⟩) ?_
  rotate_left
  · intro w hSw
    go_simp
    try with_reducible rfl
  try simp only [Act.put, List.setIfInBounds_toArray, List.set_cons_zero, List.set_cons_succ]
  refine wpV_take (i := 2) (v := ?_) rfl (by kernel_rfl) (by kernel_rfl) (by kernel_rfl) (by first | exact fun _ _ _ h => h | exact fun c a w h => HQP.out c _ a w h) S0 (Or.inl ⟨by kernel_rfl, ?_⟩) ?_
  rotate_left
  · intro w hSw
    go_simp
    try with_reducible rfl
  try simp only [Act.put, List.setIfInBounds_toArray, List.set_cons_zero, List.set_cons_succ]
  refine wpV_take (i := 3) (v := ?_) rfl (by kernel_rfl) (by kernel_rfl) (by kernel_rfl) (by first | exact fun _ _ _ h => h | exact fun c a w h => HQP.out c _ a w h) S0 (Or.inl ⟨by kernel_rfl, ?_⟩) ?_
  rotate_left
  · intro w hSw
    go_simp
    try with_reducible rfl
  try simp only [Act.put, List.setIfInBounds_toArray, List.set_cons_zero, List.set_cons_succ]
  refine wpV_take (i := 4) (v := ?_) rfl (by kernel_rfl) (by kernel_rfl) (by kernel_rfl) (by first | exact fun _ _ _ h => h | exact fun c a w h => HQP.out c _ a w h) S0 (Or.inl ⟨by kernel_rfl, ?_⟩) ?_
  rotate_left
  · intro w hSw
    go_simp
    try with_reducible rfl
  try simp only [Act.put, List.setIfInBounds_toArray, List.set_cons_zero, List.set_cons_succ]
  refine wpV_take (i := 5) (v := ?_) rfl (by kernel_rfl) (by kernel_rfl) (by kernel_rfl) (by first | exact fun _ _ _ h => h | exact fun c a w h => HQP.out c _ a w h) S0 (Or.inl ⟨by kernel_rfl, ?_⟩) ?_
  rotate_left
  · intro w hSw
    go_simp
    try with_reducible rfl
  try simp only [Act.put, List.setIfInBounds_toArray, List.set_cons_zero, List.set_cons_succ]
  refine wpV_take (i := 6) (v := ?_) rfl (by kernel_rfl) (by kernel_rfl) (by kernel_rfl) (by first | exact fun _ _ _ h => h | exact fun c a w h => HQP.out c _ a w h) S0 (Or.inl ⟨by kernel_rfl, ?_⟩) ?_
  rotate_left
  · intro w hSw
    go_simp
    try with_reducible rfl
  try simp only [Act.put, List.setIfInBounds_toArray, List.set_cons_zero, List.set_cons_succ]
  refine wpV_take (i := 7) (v := ?_) rfl (by kernel_rfl) (by kernel_rfl) (by kernel_rfl) (by first | exact fun _ _ _ h => h | exact fun c a w h => HQP.out c _ a w h) S0 (Or.inl ⟨by kernel_rfl, ?_⟩) ?_
  rotate_left
  · intro w hSw
    go_simp
    try with_reducible rfl
  try simp only [Act.put, List.setIfInBounds_toArray, List.set_cons_zero, List.set_cons_succ]
  refine wpV_take (i := 9) (v := ?_) rfl (by kernel_rfl) (by kernel_rfl) (by kernel_rfl) (by first | exact fun _ _ _ h => h | exact fun c a w h => HQP.out c _ a w h) S0 (Or.inl ⟨by kernel_rfl, ?_⟩) ?_
  rotate_left
  · intro w hSw
    go_simp
    try with_reducible rfl
  try simp only [Act.put, List.setIfInBounds_toArray, List.set_cons_zero, List.set_cons_succ]
  refine wpV_take (i := 10) (v := ?_) rfl (by kernel_rfl) (by kernel_rfl) (by kernel_rfl) (by first | exact fun _ _ _ h => h | exact fun c a w h => HQP.out c _ a w h) S0 (Or.inl ⟨by kernel_rfl, ?_⟩) ?_
  rotate_left
  · intro w hSw
    go_simp
    try with_reducible rfl
  try simp only [Act.put, List.setIfInBounds_toArray, List.set_cons_zero, List.set_cons_succ]
  refine wpV_take (i := 11) (v := ?_) rfl (by kernel_rfl) (by kernel_rfl) (by kernel_rfl) (by first | exact fun _ _ _ h => h | exact fun c a w h => HQP.out c _ a w h) S0 (Or.inl ⟨by kernel_rfl, ?_⟩) ?_
  rotate_left
  · intro w hSw
    go_simp
    try with_reducible rfl
  try simp only [Act.put, List.setIfInBounds_toArray, List.set_cons_zero, List.set_cons_succ]
  refine wpV_take (i := 12) (v := ?_) rfl (by kernel_rfl) (by kernel_rfl) (by kernel_rfl) (by first | exact fun _ _ _ h => h | exact fun c a w h => HQP.out c _ a w h) S0 (Or.inl ⟨by kernel_rfl, ?_⟩) ?_
  rotate_left
  · intro w hSw
    go_simp
    try with_reducible rfl
  try simp only [Act.put, List.setIfInBounds_toArray, List.set_cons_zero, List.set_cons_succ]
  refine wpV_take (i := 8) (v := ?_) rfl (by kernel_rfl) (by kernel_rfl) (by kernel_rfl) (by first | exact fun _ _ _ h => h | exact fun c a w h => HQP.out c _ a w h) S0 (Or.inl ⟨by kernel_rfl, ?_⟩) ?_
  rotate_left
  · intro w hSw
    obtain ⟨s0, s1⟩ := hSw
    go_simp
    try with_reducible rfl
  try simp only [Act.put, List.setIfInBounds_toArray, List.set_cons_zero, List.set_cons_succ]
  refine wpV_take (i := 13) (v := ?_) rfl (by kernel_rfl) (by kernel_rfl) (by kernel_rfl) (by first | exact fun _ _ _ h => h | exact fun c a w h => HQP.out c _ a w h) S0 (Or.inl ⟨by kernel_rfl, ?_⟩) ?_
  rotate_left
  · intro w hSw
    obtain ⟨s0, s1⟩ := hSw
    go_simp
    try with_reducible rfl
  try simp only [Act.put, List.setIfInBounds_toArray, List.set_cons_zero, List.set_cons_succ]
  refine wpV_one (i := 14) (by kernel_rfl) rfl (fun K hK => ?_)
  go_simp
  refine (HC.out.call _ _ _ ((Chg.refl _ _).drew) V1 V2).mono ?_; rintro e w1 ⟨⟨z, rfl, hz⟩, hc1⟩; have HZ := Lib.hid hz; have HC1 : Hid (Chg Nil w w1) := Lib.hid ((Chg.refl Nil w).drew.trans hc1 (fun _ _ h => h)); obtain ⟨rb, hrb⟩ : ∃ rb : Bool, rb = decide (z < 0) := ⟨_, rfl⟩; have HRB := Lib.hid hrb; have hd : decide (z < 0) = rb := hrb.symm; skip; have S1 : w1.cell? ⟨g, o + (j), none⟩ = some (.int .i64 (xs (j))) ∧ w1.cell? ⟨g, o + (j - 1), none⟩ = some (.int .i64 (xs (j - 1))) := ⟨hc1.cell (fun h => h) S0.1, hc1.cell (fun h => h) S0.2⟩; clear hz hc1 hrb
  refine hK.out _ _ S1 ?_
  clear hK K
  try simp only [Act.put, List.setIfInBounds_toArray, List.set_cons_zero, List.set_cons_succ]
  refine wpV_take (i := 15) (v := ?_) rfl (by kernel_rfl) (by kernel_rfl) (by kernel_rfl) (by first | exact fun _ _ _ h => h | exact fun c a w h => HQP.out c _ a w h) S1 (Or.inl ⟨by kernel_rfl, ?_⟩) ?_
  rotate_left
  · intro w hSw
    go_simp
    try with_reducible rfl
  try simp only [Act.put, List.setIfInBounds_toArray, List.set_cons_zero, List.set_cons_succ]
  refine wpV_take (i := 16) (v := ?_) rfl (by kernel_rfl) (by kernel_rfl) (by kernel_rfl) (by first | exact fun _ _ _ h => h | exact fun c a w h => HQP.out c _ a w h) S1 (Or.inl ⟨by kernel_rfl, ?_⟩) ?_
  rotate_left
  · intro w hSw
    go_simp
    try with_reducible rfl
  try simp only [Act.put, List.setIfInBounds_toArray, List.set_cons_zero, List.set_cons_succ]
  refine wpV_done (by kernel_rfl) ?_ _
  exact HEX.out _ _ _ _ _ _ _ _ _ _ _ _ _ _ _ _ _ w1 (by have h1 := HZ.out; have h2 := HRB.out; subst h2; simp [h1]) HC1.out
set_option maxRecDepth 100000 in
set_option maxHeartbeats 4000000 in
theorem cmI_skip (g o n c a j : Nat) (pl : Addr) (w : World) {u2 u4 u5 u6 u7 u8 u10 u11 u12 u13 u14 u15 u16 u17 u18 u19 u20 u21 u22 u23 u24 u25 u26 u27 u28 u29 u30 u31 u32 u33 u34 u35 u36 u37 u38 u39 u40 u41 u42 u43 u44 u45 u46 u47 u48 u49 u50 u51 u52 : Value} (Q : Exit → Act → World → Prop) (HQP : Hid (∀ c t (a : Act) w, Q (.panic c) ⟨t, a.defers⟩ w → Q (.panic c) a w))
    (hj : j ≤ a) (hexit : ∀ (v18 v19 v20 v21 v22 v23 v24 v25 v26 v27 v28 v29 v30 v31 v32 v33 : Value) (w' : World), Chg Nil w w' → Q .normal ⟨(.slice (some ⟨g, o, none⟩) n c :: .int .i64 a :: u2 :: .func (.func 18) #[] #[.pointer (some pl)] :: u4 :: u5 :: u6 :: u7 :: u8 :: .int .i64 j :: u10 :: u11 :: u12 :: u13 :: u14 :: u15 :: u16 :: u17 :: v18 :: v19 :: v20 :: v21 :: v22 :: v23 :: v24 :: v25 :: v26 :: v27 :: v28 :: v29 :: v30 :: v31 :: v32 :: v33 :: .bool false :: u35 :: u36 :: u37 :: u38 :: u39 :: u40 :: u41 :: u42 :: u43 :: u44 :: u45 :: u46 :: u47 :: u48 :: u49 :: u50 :: u51 :: u52 :: []).toArray, []⟩ w') :
    Code.wp Try.prog cmIC Q ⟨(.slice (some ⟨g, o, none⟩) n c :: .int .i64 a :: u2 :: .func (.func 18) #[] #[.pointer (some pl)] :: u4 :: u5 :: u6 :: u7 :: u8 :: .int .i64 j :: u10 :: u11 :: u12 :: u13 :: u14 :: u15 :: u16 :: u17 :: u18 :: u19 :: u20 :: u21 :: u22 :: u23 :: u24 :: u25 :: u26 :: u27 :: u28 :: u29 :: u30 :: u31 :: u32 :: u33 :: u34 :: u35 :: u36 :: u37 :: u38 :: u39 :: u40 :: u41 :: u42 :: u43 :: u44 :: u45 :: u46 :: u47 :: u48 :: u49 :: u50 :: u51 :: u52 :: []).toArray, []⟩ w := by
  have HEX := Lib.hid hexit
  have w8 : ¬ (a : Int) < (j : Int) := (by omega)
  have S0 : True := trivial
  clear hexit
  conv => arg 2; whnf
  refine wp_region_V (fun w' => True) (by kernel_rfl) ?_
  refine wpV_take (i := 0) (v := ?_) rfl (by kernel_rfl) (by kernel_rfl) (by kernel_rfl) (by first | exact fun _ _ _ h => h | exact fun c a w h => HQP.out c _ a w h) S0 (Or.inl ⟨by kernel_rfl, ?_⟩) ?_
  rotate_left
  · intro w hSw
    go_simp
    try with_reducible rfl
  try simp only [Act.put, List.setIfInBounds_toArray, List.set_cons_zero, List.set_cons_succ]
  refine wpV_take (i := 1) (v := ?_) rfl (by kernel_rfl) (by kernel_rfl) (by kernel_rfl) (by first | exact fun _ _ _ h => h | exact fun c a w h => HQP.out c _ a w h) S0 (Or.inl ⟨by kernel_rfl, ?_⟩) ?_
  rotate_left
  · intro w hSw
    go_simp
    try with_reducible rfl
  try simp only [Act.put, List.setIfInBounds_toArray, List.set_cons_zero, List.set_cons_succ]
  refine wpV_take (i := 2) (v := ?_) rfl (by kernel_rfl) (by kernel_rfl) (by kernel_rfl) (by first | exact fun _ _ _ h => h | exact fun c a w h => HQP.out c _ a w h) S0 (Or.inl ⟨by kernel_rfl, ?_⟩) ?_
  rotate_left
  · intro w hSw
    go_simp
    try with_reducible rfl
  try simp only [Act.put, List.setIfInBounds_toArray, List.set_cons_zero, List.set_cons_succ]
  refine wpV_take (i := 3) (v := ?_) rfl (by kernel_rfl) (by kernel_rfl) (by kernel_rfl) (by first | exact fun _ _ _ h => h | exact fun c a w h => HQP.out c _ a w h) S0 (Or.inl ⟨by kernel_rfl, ?_⟩) ?_
  rotate_left
  · intro w hSw
    go_simp
    try with_reducible rfl
  try simp only [Act.put, List.setIfInBounds_toArray, List.set_cons_zero, List.set_cons_succ]
  refine wpV_take (i := 4) (v := undef) rfl (by kernel_rfl) (by kernel_rfl) (by kernel_rfl) (fun c a w h => HQP.out c _ a w h) S0 (Or.inr ⟨by kernel_rfl, rfl⟩) ?_
  try simp only [Act.put, List.setIfInBounds_toArray, List.set_cons_zero, List.set_cons_succ]
  refine wpV_take (i := 5) (v := undef) rfl (by kernel_rfl) (by kernel_rfl) (by kernel_rfl) (fun c a w h => HQP.out c _ a w h) S0 (Or.inr ⟨by kernel_rfl, rfl⟩) ?_
  try simp only [Act.put, List.setIfInBounds_toArray, List.set_cons_zero, List.set_cons_succ]
  refine wpV_take (i := 6) (v := undef) rfl (by kernel_rfl) (by kernel_rfl) (by kernel_rfl) (fun c a w h => HQP.out c _ a w h) S0 (Or.inr ⟨by kernel_rfl, rfl⟩) ?_
  try simp only [Act.put, List.setIfInBounds_toArray, List.set_cons_zero, List.set_cons_succ]
  refine wpV_take (i := 7) (v := undef) rfl (by kernel_rfl) (by kernel_rfl) (by kernel_rfl) (fun c a w h => HQP.out c _ a w h) S0 (Or.inr ⟨by kernel_rfl, rfl⟩) ?_
  try simp only [Act.put, List.setIfInBounds_toArray, List.set_cons_zero, List.set_cons_succ]
  refine wpV_take (i := 8) (v := undef) rfl (by kernel_rfl) (by kernel_rfl) (by kernel_rfl) (fun c a w h => HQP.out c _ a w h) S0 (Or.inr ⟨by kernel_rfl, rfl⟩) ?_
  try simp only [Act.put, List.setIfInBounds_toArray, List.set_cons_zero, List.set_cons_succ]
  refine wpV_take (i := 9) (v := undef) rfl (by kernel_rfl) (by kernel_rfl) (by kernel_rfl) (fun c a w h => HQP.out c _ a w h) S0 (Or.inr ⟨by kernel_rfl, rfl⟩) ?_
  try simp only [Act.put, List.setIfInBounds_toArray, List.set_cons_zero, List.set_cons_succ]
  refine wpV_take (i := 10) (v := undef) rfl (by kernel_rfl) (by kernel_rfl) (by kernel_rfl) (fun c a w h => HQP.out c _ a w h) S0 (Or.inr ⟨by kernel_rfl, rfl⟩) ?_
  try simp only [Act.put, List.setIfInBounds_toArray, List.set_cons_zero, List.set_cons_succ]
  refine wpV_take (i := 11) (v := undef) rfl (by kernel_rfl) (by kernel_rfl) (by kernel_rfl) (fun c a w h => HQP.out c _ a w h) S0 (Or.inr ⟨by kernel_rfl, rfl⟩) ?_
  try simp only [Act.put, List.setIfInBounds_toArray, List.set_cons_zero, List.set_cons_succ]
  refine wpV_take (i := 12) (v := undef) rfl (by kernel_rfl) (by kernel_rfl) (by kernel_rfl) (fun c a w h => HQP.out c _ a w h) S0 (Or.inr ⟨by kernel_rfl, rfl⟩) ?_
  try simp only [Act.put, List.setIfInBounds_toArray, List.set_cons_zero, List.set_cons_succ]
  refine wpV_take (i := 13) (v := undef) rfl (by kernel_rfl) (by kernel_rfl) (by kernel_rfl) (fun c a w h => HQP.out c _ a w h) S0 (Or.inr ⟨by kernel_rfl, rfl⟩) ?_
  try simp only [Act.put, List.setIfInBounds_toArray, List.set_cons_zero, List.set_cons_succ]
  refine wpV_take (i := 14) (v := undef) rfl (by kernel_rfl) (by kernel_rfl) (by kernel_rfl) (fun c a w h => HQP.out c _ a w h) S0 (Or.inr ⟨by kernel_rfl, rfl⟩) ?_
  try simp only [Act.put, List.setIfInBounds_toArray, List.set_cons_zero, List.set_cons_succ]
  refine wpV_take (i := 15) (v := undef) rfl (by kernel_rfl) (by kernel_rfl) (by kernel_rfl) (fun c a w h => HQP.out c _ a w h) S0 (Or.inr ⟨by kernel_rfl, rfl⟩) ?_
  try simp only [Act.put, List.setIfInBounds_toArray, List.set_cons_zero, List.set_cons_succ]
  refine wpV_take (i := 16) (v := ?_) rfl (by kernel_rfl) (by kernel_rfl) (by kernel_rfl) (by first | exact fun _ _ _ h => h | exact fun c a w h => HQP.out c _ a w h) S0 (Or.inl ⟨by kernel_rfl, ?_⟩) ?_
  rotate_left
  · intro w hSw
    go_simp
    try with_reducible rfl
  try simp only [Act.put, List.setIfInBounds_toArray, List.set_cons_zero, List.set_cons_succ]
  refine wpV_done (by kernel_rfl) ?_ _
  go_simp
  exact HEX.out _ _ _ _ _ _ _ _ _ _ _ _ _ _ _ _ _ (Chg.refl _ _).drew
noncomputable def cmMC : Code := codeOr (Try.f57.body.bind (regionAt 5))
set_option maxRecDepth 100000 in
set_option maxHeartbeats 4000000 in
theorem cmM_piece (g o n c : Nat) (pl : Addr) (κ : Int → Int) (V : Int → Prop) (xs : Nat → Int) (a h : Nat) (w : World) {u2 u3 u5 u6 u7 u8 u9 u10 u11 u13 u14 u15 u16 u17 u18 u19 u20 u21 u22 u23 u24 u25 u26 u27 u28 u29 u30 u31 u32 u33 u34 u35 u36 u37 u38 u39 u40 u41 u42 u43 u44 u45 u46 u47 u48 u49 u50 u51 u52 u53 u54 u55 u56 u57 u58 u59 u60 u61 u62 u63 u64 u65 u66 u67 u68 u69 u70 u71 u72 u73 u74 u75 u76 u77 u78 u79 u80 u81 u82 u83 u84 u85 u86 u87 u88 u89 u90 u91 u92 u93 u94 u95 u96 u97 u98 u99 u100 u101 u102 u103 u104 u105 u106 u107 u108 u109 u110 u111 u112 u113 u114 u115 u116 u117 u118 u119 u120 u121 u122 u123 u124 u125 u126 u127 u128 u129 u130 u131 u132 u133 u134 u135 u136 u137 u138 u139 u140 u141 u142 u143 u144 u145 u146 u147 u148 u149 u150 u151 u152 u153 u154 u155 u156 u157 u158 u159 u160 u161 u162 u163 u164 u165 u166 u167 u168 u169 u170 u171 u172 u173 u174 u175 u176 u177 u178 u179 u180 u181 u182 u183 u184 u185 u186 u187 u188 u189 u190 u191 u192 u193 u194 u195 u196 u197 u198 u199 u200 u201 u202 u203 u204 u205 u206 u207 u208 u209 u210 u211 u212 u213 u214 u215 u216 u217 u218 u219 : Value} (Q : Exit → Act → World → Prop) (HQP : Hid (∀ c t (a : Act) w, Q (.panic c) ⟨t, a.defers⟩ w → Q (.panic c) a w))
    (hp : h < n) (hq : a < n) (hn : n ≤ 1152921504606) 
    (HC : Hid (Cmp w g pl κ V)) (HR : RowI w g o n xs) (HV : Vs V n xs)
    (hexit : ∀ (v40 v41 v42 v43 v44 v45 v46 v47 v48 v49 : Value) (rb : Bool) (w' : World), (rb = true ↔ κ (xs h) < κ (xs a)) → Chg Nil w w' → Q .normal ⟨(.slice (some ⟨g, o, none⟩) n c :: .int .i64 a :: u2 :: u3 :: .func (.func 18) #[] #[.pointer (some pl)] :: u5 :: u6 :: u7 :: u8 :: u9 :: u10 :: u11 :: .int .i64 h :: u13 :: u14 :: u15 :: u16 :: u17 :: u18 :: u19 :: u20 :: u21 :: u22 :: u23 :: u24 :: u25 :: u26 :: u27 :: u28 :: u29 :: u30 :: u31 :: u32 :: u33 :: u34 :: u35 :: u36 :: u37 :: u38 :: u39 :: v40 :: v41 :: v42 :: v43 :: v44 :: v45 :: v46 :: v47 :: v48 :: v49 :: .bool rb :: u51 :: u52 :: u53 :: u54 :: u55 :: u56 :: u57 :: u58 :: u59 :: u60 :: u61 :: u62 :: u63 :: u64 :: u65 :: u66 :: u67 :: u68 :: u69 :: u70 :: u71 :: u72 :: u73 :: u74 :: u75 :: u76 :: u77 :: u78 :: u79 :: u80 :: u81 :: u82 :: u83 :: u84 :: u85 :: u86 :: u87 :: u88 :: u89 :: u90 :: u91 :: u92 :: u93 :: u94 :: u95 :: u96 :: u97 :: u98 :: u99 :: u100 :: u101 :: u102 :: u103 :: u104 :: u105 :: u106 :: u107 :: u108 :: u109 :: u110 :: u111 :: u112 :: u113 :: u114 :: u115 :: u116 :: u117 :: u118 :: u119 :: u120 :: u121 :: u122 :: u123 :: u124 :: u125 :: u126 :: u127 :: u128 :: u129 :: u130 :: u131 :: u132 :: u133 :: u134 :: u135 :: u136 :: u137 :: u138 :: u139 :: u140 :: u141 :: u142 :: u143 :: u144 :: u145 :: u146 :: u147 :: u148 :: u149 :: u150 :: u151 :: u152 :: u153 :: u154 :: u155 :: u156 :: u157 :: u158 :: u159 :: u160 :: u161 :: u162 :: u163 :: u164 :: u165 :: u166 :: u167 :: u168 :: u169 :: u170 :: u171 :: u172 :: u173 :: u174 :: u175 :: u176 :: u177 :: u178 :: u179 :: u180 :: u181 :: u182 :: u183 :: u184 :: u185 :: u186 :: u187 :: u188 :: u189 :: u190 :: u191 :: u192 :: u193 :: u194 :: u195 :: u196 :: u197 :: u198 :: u199 :: u200 :: u201 :: u202 :: u203 :: u204 :: u205 :: u206 :: u207 :: u208 :: u209 :: u210 :: u211 :: u212 :: u213 :: u214 :: u215 :: u216 :: u217 :: u218 :: u219 :: []).toArray, []⟩ w') :
    Code.wp Try.prog cmMC Q ⟨(.slice (some ⟨g, o, none⟩) n c :: .int .i64 a :: u2 :: u3 :: .func (.func 18) #[] #[.pointer (some pl)] :: u5 :: u6 :: u7 :: u8 :: u9 :: u10 :: u11 :: .int .i64 h :: u13 :: u14 :: u15 :: u16 :: u17 :: u18 :: u19 :: u20 :: u21 :: u22 :: u23 :: u24 :: u25 :: u26 :: u27 :: u28 :: u29 :: u30 :: u31 :: u32 :: u33 :: u34 :: u35 :: u36 :: u37 :: u38 :: u39 :: u40 :: u41 :: u42 :: u43 :: u44 :: u45 :: u46 :: u47 :: u48 :: u49 :: u50 :: u51 :: u52 :: u53 :: u54 :: u55 :: u56 :: u57 :: u58 :: u59 :: u60 :: u61 :: u62 :: u63 :: u64 :: u65 :: u66 :: u67 :: u68 :: u69 :: u70 :: u71 :: u72 :: u73 :: u74 :: u75 :: u76 :: u77 :: u78 :: u79 :: u80 :: u81 :: u82 :: u83 :: u84 :: u85 :: u86 :: u87 :: u88 :: u89 :: u90 :: u91 :: u92 :: u93 :: u94 :: u95 :: u96 :: u97 :: u98 :: u99 :: u100 :: u101 :: u102 :: u103 :: u104 :: u105 :: u106 :: u107 :: u108 :: u109 :: u110 :: u111 :: u112 :: u113 :: u114 :: u115 :: u116 :: u117 :: u118 :: u119 :: u120 :: u121 :: u122 :: u123 :: u124 :: u125 :: u126 :: u127 :: u128 :: u129 :: u130 :: u131 :: u132 :: u133 :: u134 :: u135 :: u136 :: u137 :: u138 :: u139 :: u140 :: u141 :: u142 :: u143 :: u144 :: u145 :: u146 :: u147 :: u148 :: u149 :: u150 :: u151 :: u152 :: u153 :: u154 :: u155 :: u156 :: u157 :: u158 :: u159 :: u160 :: u161 :: u162 :: u163 :: u164 :: u165 :: u166 :: u167 :: u168 :: u169 :: u170 :: u171 :: u172 :: u173 :: u174 :: u175 :: u176 :: u177 :: u178 :: u179 :: u180 :: u181 :: u182 :: u183 :: u184 :: u185 :: u186 :: u187 :: u188 :: u189 :: u190 :: u191 :: u192 :: u193 :: u194 :: u195 :: u196 :: u197 :: u198 :: u199 :: u200 :: u201 :: u202 :: u203 :: u204 :: u205 :: u206 :: u207 :: u208 :: u209 :: u210 :: u211 :: u212 :: u213 :: u214 :: u215 :: u216 :: u217 :: u218 :: u219 :: []).toArray, []⟩ w := by
  have HEX := Lib.hid hexit
  have w5 : (h : Int) < n := (by omega); have w6 : (a : Int) < n := (by omega)
  have S0 : w.drew.cell? ⟨g, o + (h), none⟩ = some (.int .i64 (xs (h))) ∧ w.drew.cell? ⟨g, o + (a), none⟩ = some (.int .i64 (xs (a))) := ⟨(HR _ hp).1, (HR _ hq).1⟩
  have V1 := HV _ hp
  have V2 := HV _ hq
  clear hexit HR HV
  conv => arg 2; whnf
  refine wp_region_V (fun w' => w'.cell? ⟨g, o + (h), none⟩ = some (.int .i64 (xs (h))) ∧ w'.cell? ⟨g, o + (a), none⟩ = some (.int .i64 (xs (a)))) (by kernel_rfl) ?_
  refine wpV_take (i := 0) (v := ?_) rfl (by kernel_rfl) (by kernel_rfl) (by kernel_rfl) (by first | exact fun _ _ _ h => h | exact fun c a w h => HQP.out c _ a w h) S0 (Or.inl ⟨by kernel_rfl, ?_⟩) ?_
  rotate_left
  · intro w hSw
    go_simp
    try with_reducible rfl
  try simp only [Act.put, List.setIfInBounds_toArray, List.set_cons_zero, List.set_cons_succ]
  refine wpV_take (i := 1) (v := ?_) rfl (by kernel_rfl) (by kernel_rfl) (by kernel_rfl) (by first | exact fun _ _ _ h => h | exact fun c a w h => HQP.out c _ a w h) S0 (Or.inl ⟨by kernel_rfl, ?_⟩) ?_
  rotate_left
  · intro w hSw
    go_simp
    try with_reducible rfl
  try simp only [Act.put, List.setIfInBounds_toArray, List.set_cons_zero, List.set_cons_succ]
  refine wpV_take (i := 2) (v := ?_) rfl (by kernel_rfl) (by kernel_rfl) (by kernel_rfl) (by first | exact fun _ _ _ h => h | exact fun c a w h => HQP.out c _ a w h) S0 (Or.inl ⟨by kernel_rfl, ?_⟩) ?_
  rotate_left
  · intro w hSw
    go_simp
    try with_reducible rfl
  try simp only [Act.put, List.setIfInBounds_toArray, List.set_cons_zero, List.set_cons_succ]
  refine wpV_take (i := 3) (v := ?_) rfl (by kernel_rfl) (by kernel_rfl) (by kernel_rfl) (by first | exact fun _ _ _ h => h | exact fun c a w h => HQP.out c _ a w h) S0 (Or.inl ⟨by kernel_rfl, ?_⟩) ?_
  rotate_left
  · intro w hSw
    go_simp
    try with_reducible rfl
  try simp only [Act.put, List.setIfInBounds_toArray, List.set_cons_zero, List.set_cons_succ]
  refine wpV_take (i := 5) (v := ?_) rfl (by kernel_rfl) (by kernel_rfl) (by kernel_rfl) (by first | exact fun _ _ _ h => h | exact fun c a w h => HQP.out c _ a w h) S0 (Or.inl ⟨by kernel_rfl, ?_⟩) ?_
  rotate_left
  · intro w hSw
    go_simp
    try with_reducible rfl
  try simp only [Act.put, List.setIfInBounds_toArray, List.set_cons_zero, List.set_cons_succ]
  refine wpV_take (i := 6) (v := ?_) rfl (by kernel_rfl) (by kernel_rfl) (by kernel_rfl) (by first | exact fun _ _ _ h => h | exact fun c a w h => HQP.out c _ a w h) S0 (Or.inl ⟨by kernel_rfl, ?_⟩) ?_
  rotate_left
  · intro w hSw
    go_simp
    try with_reducible rfl
  try simp only [Act.put, List.setIfInBounds_toArray, List.set_cons_zero, List.set_cons_succ]
  refine wpV_take (i := 7) (v := ?_) rfl (by kernel_rfl) (by kernel_rfl) (by kernel_rfl) (by first | exact fun _ _ _ h => h | exact fun c a w h => HQP.out c _ a w h) S0 (Or.inl ⟨by kernel_rfl, ?_⟩) ?_
  rotate_left
  · intro w hSw
    go_simp
    try with_reducible rfl
  try simp only [Act.put, List.setIfInBounds_toArray, List.set_cons_zero, List.set_cons_succ]
  refine wpV_take (i := 4) (v := ?_) rfl (by kernel_rfl) (by kernel_rfl) (by kernel_rfl) (by first | exact fun _ _ _ h => h | exact fun c a w h => HQP.out c _ a w h) S0 (Or.inl ⟨by kernel_rfl, ?_⟩) ?_
  rotate_left
  · intro w hSw
    obtain ⟨s0, s1⟩ := hSw
    go_simp
    try with_reducible rfl
  try simp only [Act.put, List.setIfInBounds_toArray, List.set_cons_zero, List.set_cons_succ]
  refine wpV_take (i := 8) (v := ?_) rfl (by kernel_rfl) (by kernel_rfl) (by kernel_rfl) (by first | exact fun _ _ _ h => h | exact fun c a w h => HQP.out c _ a w h) S0 (Or.inl ⟨by kernel_rfl, ?_⟩) ?_
  rotate_left
  · intro w hSw
    obtain ⟨s0, s1⟩ := hSw
    go_simp
    try with_reducible rfl
  try simp only [Act.put, List.setIfInBounds_toArray, List.set_cons_zero, List.set_cons_succ]
  refine wpV_one (i := 9) (by kernel_rfl) rfl (fun K hK => ?_)
  go_simp
  refine (HC.out.call _ _ _ ((Chg.refl _ _).drew) V1 V2).mono ?_; rintro e w1 ⟨⟨z, rfl, hz⟩, hc1⟩; have HZ := Lib.hid hz; have HC1 : Hid (Chg Nil w w1) := Lib.hid ((Chg.refl Nil w).drew.trans hc1 (fun _ _ h => h)); obtain ⟨rb, hrb⟩ : ∃ rb : Bool, rb = decide (z < 0) := ⟨_, rfl⟩; have HRB := Lib.hid hrb; have hd : decide (z < 0) = rb := hrb.symm; skip; have S1 : w1.cell? ⟨g, o + (h), none⟩ = some (.int .i64 (xs (h))) ∧ w1.cell? ⟨g, o + (a), none⟩ = some (.int .i64 (xs (a))) := ⟨hc1.cell (fun h => h) S0.1, hc1.cell (fun h => h) S0.2⟩; clear hz hc1 hrb
  refine hK.out _ _ S1 ?_
  clear hK K
  try simp only [Act.put, List.setIfInBounds_toArray, List.set_cons_zero, List.set_cons_succ]
  refine wpV_take (i := 10) (v := ?_) rfl (by kernel_rfl) (by kernel_rfl) (by kernel_rfl) (by first | exact fun _ _ _ h => h | exact fun c a w h => HQP.out c _ a w h) S1 (Or.inl ⟨by kernel_rfl, ?_⟩) ?_
  rotate_left
  · intro w hSw
    go_simp
    try with_reducible rfl
  try simp only [Act.put, List.setIfInBounds_toArray, List.set_cons_zero, List.set_cons_succ]
  refine wpV_done (by kernel_rfl) ?_ _
  exact HEX.out _ _ _ _ _ _ _ _ _ _ _ w1 (by have h1 := HZ.out; have h2 := HRB.out; subst h2; simp [h1]) HC1.out
noncomputable def cmWC : Code := codeOr (Try.f57.body.bind (regionAt 17))
set_option maxRecDepth 100000 in
set_option maxHeartbeats 4000000 in
theorem cmW_piece (g o n c : Nat) (pl : Addr) (κ : Int → Int) (V : Int → Prop) (xs : Nat → Int) (m h : Nat) (w : World) {u1 u3 u5 u6 u7 u8 u9 u10 u11 u12 u13 u14 u15 u17 u18 u19 u20 u21 u22 u23 u24 u25 u26 u27 u28 u29 u30 u31 u32 u33 u34 u35 u36 u37 u38 u39 u40 u41 u42 u43 u44 u45 u46 u47 u48 u49 u50 u51 u52 u53 u54 u55 u56 u57 u58 u59 u60 u61 u62 u63 u64 u65 u66 u67 u68 u69 u70 u71 u72 u73 u74 u75 u76 u77 u78 u79 u80 u81 u82 u83 u84 u85 u86 u87 u88 u89 u90 u91 u92 u93 u94 u95 u96 u97 u98 u99 u100 u101 u102 u103 u104 u105 u106 u107 u108 u109 u110 u111 u112 u113 u114 u115 u116 u117 u118 u119 u120 u121 u122 u123 u124 u125 u126 u127 u128 u129 u130 u131 u132 u133 u134 u135 u136 u137 u138 u139 u140 u141 u142 u143 u144 u145 u146 u147 u148 u149 u150 u151 u152 u153 u154 u155 u156 u157 u158 u159 u160 u161 u162 u163 u164 u165 u166 u167 u168 u169 u170 u171 u172 u173 u174 u175 u176 u177 u178 u179 u180 u181 u182 u183 u184 u185 u186 u187 u188 u189 u190 u191 u192 u193 u194 u195 u196 u197 u198 u199 u200 u201 u202 u203 u204 u205 u206 u207 u208 u209 u210 u211 u212 u213 u214 u215 u216 u217 u218 u219 : Value} (Q : Exit → Act → World → Prop) (HQP : Hid (∀ c t (a : Act) w, Q (.panic c) ⟨t, a.defers⟩ w → Q (.panic c) a w))
    (hp : m < n) (hq : h < n) (hn : n ≤ 1152921504606) 
    (HC : Hid (Cmp w g pl κ V)) (HR : RowI w g o n xs) (HV : Vs V n xs)
    (hexit : ∀ (v92 v93 v94 v95 v96 v97 v98 v99 v100 v101 v102 : Value) (rb : Bool) (w' : World), (rb = true ↔ κ (xs m) < κ (xs h)) → Chg Nil w w' → Q .normal ⟨(.slice (some ⟨g, o, none⟩) n c :: u1 :: .int .i64 m :: u3 :: .func (.func 18) #[] #[.pointer (some pl)] :: u5 :: u6 :: u7 :: u8 :: u9 :: u10 :: u11 :: u12 :: u13 :: u14 :: u15 :: .int .i64 h :: u17 :: u18 :: u19 :: u20 :: u21 :: u22 :: u23 :: u24 :: u25 :: u26 :: u27 :: u28 :: u29 :: u30 :: u31 :: u32 :: u33 :: u34 :: u35 :: u36 :: u37 :: u38 :: u39 :: u40 :: u41 :: u42 :: u43 :: u44 :: u45 :: u46 :: u47 :: u48 :: u49 :: u50 :: u51 :: u52 :: u53 :: u54 :: u55 :: u56 :: u57 :: u58 :: u59 :: u60 :: u61 :: u62 :: u63 :: u64 :: u65 :: u66 :: u67 :: u68 :: u69 :: u70 :: u71 :: u72 :: u73 :: u74 :: u75 :: u76 :: u77 :: u78 :: u79 :: u80 :: u81 :: u82 :: u83 :: u84 :: u85 :: u86 :: u87 :: u88 :: u89 :: u90 :: u91 :: v92 :: v93 :: v94 :: v95 :: v96 :: v97 :: v98 :: v99 :: v100 :: v101 :: v102 :: .bool (!rb) :: u104 :: u105 :: u106 :: u107 :: u108 :: u109 :: u110 :: u111 :: u112 :: u113 :: u114 :: u115 :: u116 :: u117 :: u118 :: u119 :: u120 :: u121 :: u122 :: u123 :: u124 :: u125 :: u126 :: u127 :: u128 :: u129 :: u130 :: u131 :: u132 :: u133 :: u134 :: u135 :: u136 :: u137 :: u138 :: u139 :: u140 :: u141 :: u142 :: u143 :: u144 :: u145 :: u146 :: u147 :: u148 :: u149 :: u150 :: u151 :: u152 :: u153 :: u154 :: u155 :: u156 :: u157 :: u158 :: u159 :: u160 :: u161 :: u162 :: u163 :: u164 :: u165 :: u166 :: u167 :: u168 :: u169 :: u170 :: u171 :: u172 :: u173 :: u174 :: u175 :: u176 :: u177 :: u178 :: u179 :: u180 :: u181 :: u182 :: u183 :: u184 :: u185 :: u186 :: u187 :: u188 :: u189 :: u190 :: u191 :: u192 :: u193 :: u194 :: u195 :: u196 :: u197 :: u198 :: u199 :: u200 :: u201 :: u202 :: u203 :: u204 :: u205 :: u206 :: u207 :: u208 :: u209 :: u210 :: u211 :: u212 :: u213 :: u214 :: u215 :: u216 :: u217 :: u218 :: u219 :: []).toArray, []⟩ w') :
    Code.wp Try.prog cmWC Q ⟨(.slice (some ⟨g, o, none⟩) n c :: u1 :: .int .i64 m :: u3 :: .func (.func 18) #[] #[.pointer (some pl)] :: u5 :: u6 :: u7 :: u8 :: u9 :: u10 :: u11 :: u12 :: u13 :: u14 :: u15 :: .int .i64 h :: u17 :: u18 :: u19 :: u20 :: u21 :: u22 :: u23 :: u24 :: u25 :: u26 :: u27 :: u28 :: u29 :: u30 :: u31 :: u32 :: u33 :: u34 :: u35 :: u36 :: u37 :: u38 :: u39 :: u40 :: u41 :: u42 :: u43 :: u44 :: u45 :: u46 :: u47 :: u48 :: u49 :: u50 :: u51 :: u52 :: u53 :: u54 :: u55 :: u56 :: u57 :: u58 :: u59 :: u60 :: u61 :: u62 :: u63 :: u64 :: u65 :: u66 :: u67 :: u68 :: u69 :: u70 :: u71 :: u72 :: u73 :: u74 :: u75 :: u76 :: u77 :: u78 :: u79 :: u80 :: u81 :: u82 :: u83 :: u84 :: u85 :: u86 :: u87 :: u88 :: u89 :: u90 :: u91 :: u92 :: u93 :: u94 :: u95 :: u96 :: u97 :: u98 :: u99 :: u100 :: u101 :: u102 :: u103 :: u104 :: u105 :: u106 :: u107 :: u108 :: u109 :: u110 :: u111 :: u112 :: u113 :: u114 :: u115 :: u116 :: u117 :: u118 :: u119 :: u120 :: u121 :: u122 :: u123 :: u124 :: u125 :: u126 :: u127 :: u128 :: u129 :: u130 :: u131 :: u132 :: u133 :: u134 :: u135 :: u136 :: u137 :: u138 :: u139 :: u140 :: u141 :: u142 :: u143 :: u144 :: u145 :: u146 :: u147 :: u148 :: u149 :: u150 :: u151 :: u152 :: u153 :: u154 :: u155 :: u156 :: u157 :: u158 :: u159 :: u160 :: u161 :: u162 :: u163 :: u164 :: u165 :: u166 :: u167 :: u168 :: u169 :: u170 :: u171 :: u172 :: u173 :: u174 :: u175 :: u176 :: u177 :: u178 :: u179 :: u180 :: u181 :: u182 :: u183 :: u184 :: u185 :: u186 :: u187 :: u188 :: u189 :: u190 :: u191 :: u192 :: u193 :: u194 :: u195 :: u196 :: u197 :: u198 :: u199 :: u200 :: u201 :: u202 :: u203 :: u204 :: u205 :: u206 :: u207 :: u208 :: u209 :: u210 :: u211 :: u212 :: u213 :: u214 :: u215 :: u216 :: u217 :: u218 :: u219 :: []).toArray, []⟩ w := by
  have HEX := Lib.hid hexit
  have w5 : (h : Int) < n := (by omega); have w6 : (m : Int) < n := (by omega)
  have S0 : w.drew.cell? ⟨g, o + (m), none⟩ = some (.int .i64 (xs (m))) ∧ w.drew.cell? ⟨g, o + (h), none⟩ = some (.int .i64 (xs (h))) := ⟨(HR _ hp).1, (HR _ hq).1⟩
  have V1 := HV _ hp
  have V2 := HV _ hq
  clear hexit HR HV
  conv => arg 2; whnf
  refine wp_region_V (fun w' => w'.cell? ⟨g, o + (m), none⟩ = some (.int .i64 (xs (m))) ∧ w'.cell? ⟨g, o + (h), none⟩ = some (.int .i64 (xs (h)))) (by kernel_rfl) ?_
  refine wpV_take (i := 0) (v := ?_) rfl (by kernel_rfl) (by kernel_rfl) (by kernel_rfl) (by first | exact fun _ _ _ h => h | exact fun c a w h => HQP.out c _ a w h) S0 (Or.inl ⟨by kernel_rfl, ?_⟩) ?_
  rotate_left
  · intro w hSw
    go_simp
    try with_reducible rfl
  try simp only [Act.put, List.setIfInBounds_toArray, List.set_cons_zero, List.set_cons_succ]
  refine wpV_take (i := 1) (v := ?_) rfl (by kernel_rfl) (by kernel_rfl) (by kernel_rfl) (by first | exact fun _ _ _ h => h | exact fun c a w h => HQP.out c _ a w h) S0 (Or.inl ⟨by kernel_rfl, ?_⟩) ?_
  rotate_left
  · intro w hSw
    go_simp
    try with_reducible rfl
  try simp only [Act.put, List.setIfInBounds_toArray, List.set_cons_zero, List.set_cons_succ]
  refine wpV_take (i := 2) (v := ?_) rfl (by kernel_rfl) (by kernel_rfl) (by kernel_rfl) (by first | exact fun _ _ _ h => h | exact fun c a w h => HQP.out c _ a w h) S0 (Or.inl ⟨by kernel_rfl, ?_⟩) ?_
  rotate_left
  · intro w hSw
    go_simp
    try with_reducible rfl
  try simp only [Act.put, List.setIfInBounds_toArray, List.set_cons_zero, List.set_cons_succ]
  refine wpV_take (i := 3) (v := ?_) rfl (by kernel_rfl) (by kernel_rfl) (by kernel_rfl) (by first | exact fun _ _ _ h => h | exact fun c a w h => HQP.out c _ a w h) S0 (Or.inl ⟨by kernel_rfl, ?_⟩) ?_
  rotate_left
  · intro w hSw
    go_simp
    try with_reducible rfl
  try simp only [Act.put, List.setIfInBounds_toArray, List.set_cons_zero, List.set_cons_succ]
  refine wpV_take (i := 5) (v := ?_) rfl (by kernel_rfl) (by kernel_rfl) (by kernel_rfl) (by first | exact fun _ _ _ h => h | exact fun c a w h => HQP.out c _ a w h) S0 (Or.inl ⟨by kernel_rfl, ?_⟩) ?_
  rotate_left
  · intro w hSw
    go_simp
    try with_reducible rfl
  try simp only [Act.put, List.setIfInBounds_toArray, List.set_cons_zero, List.set_cons_succ]
  refine wpV_take (i := 6) (v := ?_) rfl (by kernel_rfl) (by kernel_rfl) (by kernel_rfl) (by first | exact fun _ _ _ h => h | exact fun c a w h => HQP.out c _ a w h) S0 (Or.inl ⟨by kernel_rfl, ?_⟩) ?_
  rotate_left
  · intro w hSw
    go_simp
    try with_reducible rfl
  try simp only [Act.put, List.setIfInBounds_toArray, List.set_cons_zero, List.set_cons_succ]
  refine wpV_take (i := 7) (v := ?_) rfl (by kernel_rfl) (by kernel_rfl) (by kernel_rfl) (by first | exact fun _ _ _ h => h | exact fun c a w h => HQP.out c _ a w h) S0 (Or.inl ⟨by kernel_rfl, ?_⟩) ?_
  rotate_left
  · intro w hSw
    go_simp
    try with_reducible rfl
  try simp only [Act.put, List.setIfInBounds_toArray, List.set_cons_zero, List.set_cons_succ]
  refine wpV_take (i := 4) (v := ?_) rfl (by kernel_rfl) (by kernel_rfl) (by kernel_rfl) (by first | exact fun _ _ _ h => h | exact fun c a w h => HQP.out c _ a w h) S0 (Or.inl ⟨by kernel_rfl, ?_⟩) ?_
  rotate_left
  · intro w hSw
    obtain ⟨s0, s1⟩ := hSw
    go_simp
    try with_reducible rfl
  try simp only [Act.put, List.setIfInBounds_toArray, List.set_cons_zero, List.set_cons_succ]
  refine wpV_take (i := 8) (v := ?_) rfl (by kernel_rfl) (by kernel_rfl) (by kernel_rfl) (by first | exact fun _ _ _ h => h | exact fun c a w h => HQP.out c _ a w h) S0 (Or.inl ⟨by kernel_rfl, ?_⟩) ?_
  rotate_left
  · intro w hSw
    obtain ⟨s0, s1⟩ := hSw
    go_simp
    try with_reducible rfl
  try simp only [Act.put, List.setIfInBounds_toArray, List.set_cons_zero, List.set_cons_succ]
  refine wpV_one (i := 9) (by kernel_rfl) rfl (fun K hK => ?_)
  go_simp
  refine (HC.out.call _ _ _ ((Chg.refl _ _).drew) V1 V2).mono ?_; rintro e w1 ⟨⟨z, rfl, hz⟩, hc1⟩; have HZ := Lib.hid hz; have HC1 : Hid (Chg Nil w w1) := Lib.hid ((Chg.refl Nil w).drew.trans hc1 (fun _ _ h => h)); obtain ⟨rb, hrb⟩ : ∃ rb : Bool, rb = decide (z < 0) := ⟨_, rfl⟩; have HRB := Lib.hid hrb; have hd : decide (z < 0) = rb := hrb.symm; skip; have S1 : w1.cell? ⟨g, o + (m), none⟩ = some (.int .i64 (xs (m))) ∧ w1.cell? ⟨g, o + (h), none⟩ = some (.int .i64 (xs (h))) := ⟨hc1.cell (fun h => h) S0.1, hc1.cell (fun h => h) S0.2⟩; clear hz hc1 hrb
  refine hK.out _ _ S1 ?_
  clear hK K
  try simp only [Act.put, List.setIfInBounds_toArray, List.set_cons_zero, List.set_cons_succ]
  refine wpV_take (i := 10) (v := ?_) rfl (by kernel_rfl) (by kernel_rfl) (by kernel_rfl) (by first | exact fun _ _ _ h => h | exact fun c a w h => HQP.out c _ a w h) S1 (Or.inl ⟨by kernel_rfl, ?_⟩) ?_
  rotate_left
  · intro w hSw
    go_simp
    try with_reducible rfl
  try simp only [Act.put, List.setIfInBounds_toArray, List.set_cons_zero, List.set_cons_succ]
  refine wpV_take (i := 11) (v := ?_) rfl (by kernel_rfl) (by kernel_rfl) (by kernel_rfl) (by first | exact fun _ _ _ h => h | exact fun c a w h => HQP.out c _ a w h) S1 (Or.inl ⟨by kernel_rfl, ?_⟩) ?_
  rotate_left
  · intro w hSw
    go_simp
    try with_reducible rfl
  try simp only [Act.put, List.setIfInBounds_toArray, List.set_cons_zero, List.set_cons_succ]
  refine wpV_done (by kernel_rfl) ?_ _
  exact HEX.out _ _ _ _ _ _ _ _ _ _ _ _ w1 (by have h1 := HZ.out; have h2 := HRB.out; subst h2; simp [h1]) HC1.out
noncomputable def cmSC : Code := codeOr (Try.f57.body.bind (regionAt 35))
set_option maxRecDepth 100000 in
set_option maxHeartbeats 4000000 in
theorem cmS_piece (g o n c : Nat) (pl : Addr) (κ : Int → Int) (V : Int → Prop) (xs : Nat → Int) (p h : Nat) (w : World) {u1 u2 u3 u5 u6 u7 u8 u9 u10 u11 u12 u13 u14 u15 u16 u17 u18 u19 u20 u21 u24 u25 u26 u27 u28 u29 u30 u31 u32 u33 u34 u35 u36 u37 u38 u39 u40 u41 u42 u43 u44 u45 u46 u47 u48 u49 u50 u51 u52 u53 u54 u55 u56 u57 u58 u59 u60 u61 u62 u63 u64 u65 u66 u67 u68 u69 u70 u71 u72 u73 u74 u75 u76 u77 u78 u79 u80 u81 u82 u83 u84 u85 u86 u87 u88 u89 u90 u91 u92 u93 u94 u95 u96 u97 u98 u99 u100 u101 u102 u103 u104 u105 u106 u107 u108 u109 u110 u111 u112 u113 u114 u115 u116 u117 u118 u119 u120 u121 u122 u123 u124 u125 u126 u127 u128 u129 u130 u131 u132 u133 u134 u135 u136 u137 u138 u139 u140 u141 u142 u143 u144 u145 u146 u147 u148 u149 u150 u151 u152 u153 u154 u155 u156 u157 u158 u159 u160 u161 u162 u163 u164 u165 u166 u167 u168 u169 u170 u171 u172 u173 u174 u175 u176 u177 u178 u179 u180 u181 u182 u183 u184 u185 u186 u187 u188 u189 u190 u191 u192 u193 u194 u195 u196 u197 u198 u199 u200 u201 u202 u203 u204 u205 u206 u207 u208 u209 u210 u211 u212 u213 u214 u215 u216 u217 u218 u219 : Value} (Q : Exit → Act → World → Prop) (HQP : Hid (∀ c t (a : Act) w, Q (.panic c) ⟨t, a.defers⟩ w → Q (.panic c) a w))
    (hp : p - h < n) (hq : h < n) (hn : n ≤ 1152921504606) (hph : h ≤ p) (hpn : p ≤ 4611686018427)
    (HC : Hid (Cmp w g pl κ V)) (HR : RowI w g o n xs) (HV : Vs V n xs)
    (hexit : ∀ (v158 v159 v160 v161 v162 v163 v164 v165 v166 v167 v168 v169 v170 : Value) (rb : Bool) (w' : World), (rb = true ↔ κ (xs (p - h)) < κ (xs h)) → Chg Nil w w' → Q .normal ⟨(.slice (some ⟨g, o, none⟩) n c :: u1 :: u2 :: u3 :: .func (.func 18) #[] #[.pointer (some pl)] :: u5 :: u6 :: u7 :: u8 :: u9 :: u10 :: u11 :: u12 :: u13 :: u14 :: u15 :: u16 :: u17 :: u18 :: u19 :: u20 :: u21 :: .int .i64 p :: .int .i64 h :: u24 :: u25 :: u26 :: u27 :: u28 :: u29 :: u30 :: u31 :: u32 :: u33 :: u34 :: u35 :: u36 :: u37 :: u38 :: u39 :: u40 :: u41 :: u42 :: u43 :: u44 :: u45 :: u46 :: u47 :: u48 :: u49 :: u50 :: u51 :: u52 :: u53 :: u54 :: u55 :: u56 :: u57 :: u58 :: u59 :: u60 :: u61 :: u62 :: u63 :: u64 :: u65 :: u66 :: u67 :: u68 :: u69 :: u70 :: u71 :: u72 :: u73 :: u74 :: u75 :: u76 :: u77 :: u78 :: u79 :: u80 :: u81 :: u82 :: u83 :: u84 :: u85 :: u86 :: u87 :: u88 :: u89 :: u90 :: u91 :: u92 :: u93 :: u94 :: u95 :: u96 :: u97 :: u98 :: u99 :: u100 :: u101 :: u102 :: u103 :: u104 :: u105 :: u106 :: u107 :: u108 :: u109 :: u110 :: u111 :: u112 :: u113 :: u114 :: u115 :: u116 :: u117 :: u118 :: u119 :: u120 :: u121 :: u122 :: u123 :: u124 :: u125 :: u126 :: u127 :: u128 :: u129 :: u130 :: u131 :: u132 :: u133 :: u134 :: u135 :: u136 :: u137 :: u138 :: u139 :: u140 :: u141 :: u142 :: u143 :: u144 :: u145 :: u146 :: u147 :: u148 :: u149 :: u150 :: u151 :: u152 :: u153 :: u154 :: u155 :: u156 :: u157 :: v158 :: v159 :: v160 :: v161 :: v162 :: v163 :: v164 :: v165 :: v166 :: v167 :: v168 :: v169 :: v170 :: .bool (!rb) :: u172 :: u173 :: u174 :: u175 :: u176 :: u177 :: u178 :: u179 :: u180 :: u181 :: u182 :: u183 :: u184 :: u185 :: u186 :: u187 :: u188 :: u189 :: u190 :: u191 :: u192 :: u193 :: u194 :: u195 :: u196 :: u197 :: u198 :: u199 :: u200 :: u201 :: u202 :: u203 :: u204 :: u205 :: u206 :: u207 :: u208 :: u209 :: u210 :: u211 :: u212 :: u213 :: u214 :: u215 :: u216 :: u217 :: u218 :: u219 :: []).toArray, []⟩ w') :
    Code.wp Try.prog cmSC Q ⟨(.slice (some ⟨g, o, none⟩) n c :: u1 :: u2 :: u3 :: .func (.func 18) #[] #[.pointer (some pl)] :: u5 :: u6 :: u7 :: u8 :: u9 :: u10 :: u11 :: u12 :: u13 :: u14 :: u15 :: u16 :: u17 :: u18 :: u19 :: u20 :: u21 :: .int .i64 p :: .int .i64 h :: u24 :: u25 :: u26 :: u27 :: u28 :: u29 :: u30 :: u31 :: u32 :: u33 :: u34 :: u35 :: u36 :: u37 :: u38 :: u39 :: u40 :: u41 :: u42 :: u43 :: u44 :: u45 :: u46 :: u47 :: u48 :: u49 :: u50 :: u51 :: u52 :: u53 :: u54 :: u55 :: u56 :: u57 :: u58 :: u59 :: u60 :: u61 :: u62 :: u63 :: u64 :: u65 :: u66 :: u67 :: u68 :: u69 :: u70 :: u71 :: u72 :: u73 :: u74 :: u75 :: u76 :: u77 :: u78 :: u79 :: u80 :: u81 :: u82 :: u83 :: u84 :: u85 :: u86 :: u87 :: u88 :: u89 :: u90 :: u91 :: u92 :: u93 :: u94 :: u95 :: u96 :: u97 :: u98 :: u99 :: u100 :: u101 :: u102 :: u103 :: u104 :: u105 :: u106 :: u107 :: u108 :: u109 :: u110 :: u111 :: u112 :: u113 :: u114 :: u115 :: u116 :: u117 :: u118 :: u119 :: u120 :: u121 :: u122 :: u123 :: u124 :: u125 :: u126 :: u127 :: u128 :: u129 :: u130 :: u131 :: u132 :: u133 :: u134 :: u135 :: u136 :: u137 :: u138 :: u139 :: u140 :: u141 :: u142 :: u143 :: u144 :: u145 :: u146 :: u147 :: u148 :: u149 :: u150 :: u151 :: u152 :: u153 :: u154 :: u155 :: u156 :: u157 :: u158 :: u159 :: u160 :: u161 :: u162 :: u163 :: u164 :: u165 :: u166 :: u167 :: u168 :: u169 :: u170 :: u171 :: u172 :: u173 :: u174 :: u175 :: u176 :: u177 :: u178 :: u179 :: u180 :: u181 :: u182 :: u183 :: u184 :: u185 :: u186 :: u187 :: u188 :: u189 :: u190 :: u191 :: u192 :: u193 :: u194 :: u195 :: u196 :: u197 :: u198 :: u199 :: u200 :: u201 :: u202 :: u203 :: u204 :: u205 :: u206 :: u207 :: u208 :: u209 :: u210 :: u211 :: u212 :: u213 :: u214 :: u215 :: u216 :: u217 :: u218 :: u219 :: []).toArray, []⟩ w := by
  have HEX := Lib.hid hexit
  have w5 : (h : Int) < n := (by omega); have w1 := IntWalk.i64_in ((p : Int) - (h : Int)) (by omega); have w6 : (p : Int) - (h : Int) < n := (by omega); have w7 : ((p : Int) - (h : Int)).toNat = p - h := (by omega); have w8 : (0 : Int) ≤ (p : Int) - (h : Int) := (by omega); have w9 : (h : Int) ≤ (p : Int) := (by omega)
  have S0 : w.drew.cell? ⟨g, o + (p - h), none⟩ = some (.int .i64 (xs (p - h))) ∧ w.drew.cell? ⟨g, o + (h), none⟩ = some (.int .i64 (xs (h))) := ⟨(HR _ hp).1, (HR _ hq).1⟩
  have V1 := HV _ hp
  have V2 := HV _ hq
  clear hexit HR HV
  conv => arg 2; whnf
  refine wp_region_V (fun w' => w'.cell? ⟨g, o + (p - h), none⟩ = some (.int .i64 (xs (p - h))) ∧ w'.cell? ⟨g, o + (h), none⟩ = some (.int .i64 (xs (h)))) (by kernel_rfl) ?_
  refine wpV_take (i := 0) (v := ?_) rfl (by kernel_rfl) (by kernel_rfl) (by kernel_rfl) (by first | exact fun _ _ _ h => h | exact fun c a w h => HQP.out c _ a w h) S0 (Or.inl ⟨by kernel_rfl, ?_⟩) ?_
  rotate_left
  · intro w hSw
    go_simp
    try with_reducible rfl
  try simp only [Act.put, List.setIfInBounds_toArray, List.set_cons_zero, List.set_cons_succ]
  refine wpV_take (i := 1) (v := ?_) rfl (by kernel_rfl) (by kernel_rfl) (by kernel_rfl) (by first | exact fun _ _ _ h => h | exact fun c a w h => HQP.out c _ a w h) S0 (Or.inl ⟨by kernel_rfl, ?_⟩) ?_
  rotate_left
  · intro w hSw
    go_simp
    try with_reducible rfl
  try simp only [Act.put, List.setIfInBounds_toArray, List.set_cons_zero, List.set_cons_succ]
  refine wpV_take (i := 2) (v := ?_) rfl (by kernel_rfl) (by kernel_rfl) (by kernel_rfl) (by first | exact fun _ _ _ h => h | exact fun c a w h => HQP.out c _ a w h) S0 (Or.inl ⟨by kernel_rfl, ?_⟩) ?_
  rotate_left
  · intro w hSw
    go_simp
    try with_reducible rfl
  try simp only [Act.put, List.setIfInBounds_toArray, List.set_cons_zero, List.set_cons_succ]
  refine wpV_take (i := 3) (v := ?_) rfl (by kernel_rfl) (by kernel_rfl) (by kernel_rfl) (by first | exact fun _ _ _ h => h | exact fun c a w h => HQP.out c _ a w h) S0 (Or.inl ⟨by kernel_rfl, ?_⟩) ?_
  rotate_left
  · intro w hSw
    go_simp
    try with_reducible rfl
  try simp only [Act.put, List.setIfInBounds_toArray, List.set_cons_zero, List.set_cons_succ]
  refine wpV_take (i := 4) (v := ?_) rfl (by kernel_rfl) (by kernel_rfl) (by kernel_rfl) (by first | exact fun _ _ _ h => h | exact fun c a w h => HQP.out c _ a w h) S0 (Or.inl ⟨by kernel_rfl, ?_⟩) ?_
  rotate_left
  · intro w hSw
    go_simp
    try with_reducible rfl
  try simp only [Act.put, List.setIfInBounds_toArray, List.set_cons_zero, List.set_cons_succ]
  refine wpV_take (i := 5) (v := ?_) rfl (by kernel_rfl) (by kernel_rfl) (by kernel_rfl) (by first | exact fun _ _ _ h => h | exact fun c a w h => HQP.out c _ a w h) S0 (Or.inl ⟨by kernel_rfl, ?_⟩) ?_
  rotate_left
  · intro w hSw
    go_simp
    try with_reducible rfl
  try simp only [Act.put, List.setIfInBounds_toArray, List.set_cons_zero, List.set_cons_succ]
  refine wpV_take (i := 7) (v := ?_) rfl (by kernel_rfl) (by kernel_rfl) (by kernel_rfl) (by first | exact fun _ _ _ h => h | exact fun c a w h => HQP.out c _ a w h) S0 (Or.inl ⟨by kernel_rfl, ?_⟩) ?_
  rotate_left
  · intro w hSw
    go_simp
    try with_reducible rfl
  try simp only [Act.put, List.setIfInBounds_toArray, List.set_cons_zero, List.set_cons_succ]
  refine wpV_take (i := 8) (v := ?_) rfl (by kernel_rfl) (by kernel_rfl) (by kernel_rfl) (by first | exact fun _ _ _ h => h | exact fun c a w h => HQP.out c _ a w h) S0 (Or.inl ⟨by kernel_rfl, ?_⟩) ?_
  rotate_left
  · intro w hSw
    go_simp
    try with_reducible rfl
  try simp only [Act.put, List.setIfInBounds_toArray, List.set_cons_zero, List.set_cons_succ]
  refine wpV_take (i := 9) (v := ?_) rfl (by kernel_rfl) (by kernel_rfl) (by kernel_rfl) (by first | exact fun _ _ _ h => h | exact fun c a w h => HQP.out c _ a w h) S0 (Or.inl ⟨by kernel_rfl, ?_⟩) ?_
  rotate_left
  · intro w hSw
    go_simp
    try with_reducible rfl
  try simp only [Act.put, List.setIfInBounds_toArray, List.set_cons_zero, List.set_cons_succ]
  refine wpV_take (i := 6) (v := ?_) rfl (by kernel_rfl) (by kernel_rfl) (by kernel_rfl) (by first | exact fun _ _ _ h => h | exact fun c a w h => HQP.out c _ a w h) S0 (Or.inl ⟨by kernel_rfl, ?_⟩) ?_
  rotate_left
  · intro w hSw
    obtain ⟨s0, s1⟩ := hSw
    go_simp
    try with_reducible rfl
  try simp only [Act.put, List.setIfInBounds_toArray, List.set_cons_zero, List.set_cons_succ]
  refine wpV_take (i := 10) (v := ?_) rfl (by kernel_rfl) (by kernel_rfl) (by kernel_rfl) (by first | exact fun _ _ _ h => h | exact fun c a w h => HQP.out c _ a w h) S0 (Or.inl ⟨by kernel_rfl, ?_⟩) ?_
  rotate_left
  · intro w hSw
    obtain ⟨s0, s1⟩ := hSw
    go_simp
    try with_reducible rfl
  try simp only [Act.put, List.setIfInBounds_toArray, List.set_cons_zero, List.set_cons_succ]
  refine wpV_one (i := 11) (by kernel_rfl) rfl (fun K hK => ?_)
  go_simp
  refine (HC.out.call _ _ _ ((Chg.refl _ _).drew) V1 V2).mono ?_; rintro e w1 ⟨⟨z, rfl, hz⟩, hc1⟩; have HZ := Lib.hid hz; have HC1 : Hid (Chg Nil w w1) := Lib.hid ((Chg.refl Nil w).drew.trans hc1 (fun _ _ h => h)); obtain ⟨rb, hrb⟩ : ∃ rb : Bool, rb = decide (z < 0) := ⟨_, rfl⟩; have HRB := Lib.hid hrb; have hd : decide (z < 0) = rb := hrb.symm; skip; have S1 : w1.cell? ⟨g, o + (p - h), none⟩ = some (.int .i64 (xs (p - h))) ∧ w1.cell? ⟨g, o + (h), none⟩ = some (.int .i64 (xs (h))) := ⟨hc1.cell (fun h => h) S0.1, hc1.cell (fun h => h) S0.2⟩; clear hz hc1 hrb
  refine hK.out _ _ S1 ?_
  clear hK K
  try simp only [Act.put, List.setIfInBounds_toArray, List.set_cons_zero, List.set_cons_succ]
  refine wpV_take (i := 12) (v := ?_) rfl (by kernel_rfl) (by kernel_rfl) (by kernel_rfl) (by first | exact fun _ _ _ h => h | exact fun c a w h => HQP.out c _ a w h) S1 (Or.inl ⟨by kernel_rfl, ?_⟩) ?_
  rotate_left
  · intro w hSw
    go_simp
    try with_reducible rfl
  try simp only [Act.put, List.setIfInBounds_toArray, List.set_cons_zero, List.set_cons_succ]
  refine wpV_take (i := 13) (v := ?_) rfl (by kernel_rfl) (by kernel_rfl) (by kernel_rfl) (by first | exact fun _ _ _ h => h | exact fun c a w h => HQP.out c _ a w h) S1 (Or.inl ⟨by kernel_rfl, ?_⟩) ?_
  rotate_left
  · intro w hSw
    go_simp
    try with_reducible rfl
  try simp only [Act.put, List.setIfInBounds_toArray, List.set_cons_zero, List.set_cons_succ]
  refine wpV_done (by kernel_rfl) ?_ _
  exact HEX.out _ _ _ _ _ _ _ _ _ _ _ _ _ _ w1 (by have h1 := HZ.out; have h2 := HRB.out; subst h2; simp [h1]) HC1.out
end Go.Proofs.Ytpbnngfiinihmaa

namespace Go.Proofs.Ytpbnngfiinihmaa
open Go.RowKit
/-- a flag that is told as a decision -/
theorem ret_bool {b : Bool} {P : Prop} [Decidable P] (h : b = true ↔ P) : Ending.returned (.bool b) = .returned (.bool (decide P)) := by
  cases b <;> simp_all
set_option maxRecDepth 100000 in
theorem isNaN_any (a : Int) (w : World) : Calls Try.prog 42 #[.int .i64 a] w fun e w' => e = .returned (.bool false) ∧ w = w' := by
  go_enter Try.func42, Try.ntmps42
  go_wp2
  go_ret
  exact ⟨rfl, rfl⟩
set_option maxRecDepth 100000 in
theorem cmp_any (a b : Int) (w : World) : Calls Try.prog 19 #[.int .i64 a, .int .i64 b] w fun e w' => (∃ z : Int, e = .returned (.int .i64 z) ∧ (z < 0 ↔ a < b)) ∧ w = w' := by
  go_enter Try.func19, Try.ntmps19
  go_wp2_with (go_at_call 42; refine (isNaN_any _ _).mono ?_; rintro e w1 ⟨rfl, rfl⟩)
  all_goals go_ret
  · exact ⟨⟨-1, rfl, by omega⟩, rfl⟩
  · exact ⟨⟨1, rfl, by omega⟩, rfl⟩
  · exact ⟨⟨0, rfl, by omega⟩, rfl⟩
set_option maxRecDepth 100000 in
theorem write_any (k : Int) (w : World) : Calls Try.prog 35 #[.int .i64 k] w fun e w' => e = .returned (.bool (decide (k = 2 ∨ k = 3))) ∧ w = w' := by
  go_enter Try.func35, Try.ntmps35
  go_wp2
  all_goals (go_ret; exact ⟨ret_bool (by simp <;> omega), rfl⟩)
set_option maxRecDepth 100000 in
theorem single_any (k : Int) (w : World) : Calls Try.prog 43 #[.int .i64 k] w fun e w' => e = .returned (.bool (decide (k = 1 ∨ k = 2 ∨ k = 3))) ∧ w = w' := by
  go_enter Try.func43, Try.ntmps43
  go_wp2_with (go_at_call 35; refine (write_any _ _).mono ?_; rintro e w1 ⟨rfl, rfl⟩)
  all_goals (go_ret; exact ⟨ret_bool (by simp <;> omega), rfl⟩)
set_option maxRecDepth 100000 in
theorem good_any (F : Nat → Prop) (c : CallD) (x : CallX) (w : World) (h : CallW w F c x) : Calls Try.prog 46 #[opV c x] w fun e w' => e = .returned (.bool (decide (goodE c))) ∧ Below w.heap.size w w' := by
  have H := Lib.hid h
  clear h
  go_enter Try.func46, Try.ntmps46
  have hk := Lib.hid H.out.kq
  have hv := Lib.hid H.out.vq
  go_wp2
  all_goals (go_ret; refine ⟨ret_bool ?_, (Below.refl _ _).alloc (Nat.le_refl _) _⟩; have h1 := hk.out; have h2 := hv.out; simp only [goodE, ← h1, ← h2]; simp <;> omega)
end Go.Proofs.Ytpbnngfiinihmaa
