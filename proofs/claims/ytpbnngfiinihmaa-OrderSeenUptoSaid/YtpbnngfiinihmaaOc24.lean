/- WALKS: the statement OrderSeen. -/
import Derived.Test.YtpbnngfiinihmaaOc22
import Derived.Test.YtpbnngfiinihmaaOc23
set_option linter.unusedVariables false
set_option linter.unusedSimpArgs false
namespace Go.Proofs.Ytpbnngfiinihmaa
open Go.RowKit
noncomputable def lw2C : Code := codeOr (Try.f6.body.bind (regionAt 2))
/-- the cells of a look -/
def LkC (w : World) (q : Nat) (a b c d e f g i j k m : Value) : Prop :=
  w.cell? ⟨q, 0, none⟩ = some a ∧ w.cell? ⟨q, 1, none⟩ = some b ∧ w.cell? ⟨q, 2, none⟩ = some c ∧ w.cell? ⟨q, 3, none⟩ = some d ∧ w.cell? ⟨q, 4, none⟩ = some e ∧ w.cell? ⟨q, 5, none⟩ = some f ∧ w.cell? ⟨q, 6, none⟩ = some g ∧ w.cell? ⟨q, 7, none⟩ = some i ∧ w.cell? ⟨q, 8, none⟩ = some j ∧ w.cell? ⟨q, 9, none⟩ = some k ∧ w.cell? ⟨q, 10, none⟩ = some m
theorem LkC.of {w : World} {q : Nat} {T : TypeId} {a b c d e f g i j k m : Value} (h : Blk w q T #[a, b, c, d, e, f, g, i, j, k, m]) : LkC w q a b c d e f g i j k m := ⟨h.cell 0, h.cell 1, h.cell 2, h.cell 3, h.cell 4, h.cell 5, h.cell 6, h.cell 7, h.cell 8, h.cell 9, h.cell 10⟩
theorem LkC.below {w w' : World} {q : Nat} {a b c d e f g i j k m : Value} (h : LkC w q a b c d e f g i j k m) (hb : Below w.heap.size w w') : LkC w' q a b c d e f g i j k m := by
  obtain ⟨h0, h1, h2, h3, h4, h5, h6, h7, h8, h9, h10⟩ := h
  exact ⟨bkeep hb h0, bkeep hb h1, bkeep hb h2, bkeep hb h3, bkeep hb h4, bkeep hb h5, bkeep hb h6, bkeep hb h7, bkeep hb h8, bkeep hb h9, bkeep hb h10⟩
theorem LookW.below {w w' : World} {sA cA lA aA hA : Option Addr} {sn cn ln an hn ac hc : Nat} {a b : Int} {start l : List Ent} {cs : List CallD} {lo hi : List UInt8} (h : LookW w sA cA lA aA hA sn cn ln an hn ac hc a b start l cs lo hi) (hb : Below w.heap.size w w') : LookW w' sA cA lA aA hA sn cn ln an hn ac hc a b start l cs lo hi :=
  { h with hS := h.hS.below hb, hL := h.hL.below hb, hE := h.hE.below hb, hlo := h.hlo.below hb, hhi := h.hhi.below hb }
set_option maxRecDepth 100000 in
set_option maxHeartbeats 8000000 in
theorem lw2_any (q : Nat) (sA cA lA aA hA : Option Addr) (sn sc cn cc ln lc an ac hn hc : Nat) (h2 h3 h4 h5 : Value) (a b : Int) (start l : List Ent) (cs : List CallD) (lo hi : List UInt8) (w : World) {u0 u4 u5 u6 u7 u8 u9 u10 u11 u12 u13 u14 u15 u16 u17 u18 u19 u20 u21 u22 u23 u24 u25 u26 u27 u28 u29 u30 u31 u32 u33 u34 : Value} (Q : Exit → Act → World → Prop) (HQP : Hid (∀ c t (a : Act) w, Q (.panic c) ⟨t, a.defers⟩ w → Q (.panic c) a w))
    (HW : Hid (LookW w sA cA lA aA hA sn cn ln an hn ac hc a b start l cs lo hi)) (S0 : LkC w q (.slice sA sn sc) (.slice cA cn cc) h2 h3 h4 h5 (.slice lA ln lc) (.slice aA an ac) (.slice hA hn hc) (.int .i64 a) (.int .i64 b))
    (hexit : ∀ (v5 v6 v7 v8 v9 v10 v11 v12 v13 v14 v15 v16 v17 v18 v19 v20 v21 v22 v23 v24 v25 v26 v27 v28 v29 v30 v31 v32 v33 v34 : Value) (w' : World), Below w.heap.size w w' → Q .normal ⟨(u0 :: .pointer (some ⟨q, 0, none⟩) :: .bool true :: .bool true :: u4 :: v5 :: v6 :: v7 :: v8 :: v9 :: v10 :: v11 :: v12 :: v13 :: v14 :: v15 :: v16 :: v17 :: v18 :: v19 :: v20 :: v21 :: v22 :: v23 :: v24 :: v25 :: v26 :: v27 :: v28 :: v29 :: v30 :: v31 :: v32 :: v33 :: v34 :: []).toArray, []⟩ w') :
    Code.wp Try.prog lw2C Q ⟨(u0 :: .pointer (some ⟨q, 0, none⟩) :: .bool false :: .bool true :: u4 :: u5 :: u6 :: u7 :: u8 :: u9 :: u10 :: u11 :: u12 :: u13 :: u14 :: u15 :: u16 :: u17 :: u18 :: u19 :: u20 :: u21 :: u22 :: u23 :: u24 :: u25 :: u26 :: u27 :: u28 :: u29 :: u30 :: u31 :: u32 :: u33 :: u34 :: []).toArray, []⟩ w := by
  have HEX := Lib.hid hexit
  have hd : Below w.heap.size w w.drew := (Below.refl _ _).drew
  have HD := Lib.hid hd
  have S1 := S0.below hd
  have HWD := Lib.hid (HW.out.below hd)
  clear hexit hd S0
  conv => arg 2; whnf
  refine wp_region_V (fun w' => LkC w' q (.slice sA sn sc) (.slice cA cn cc) h2 h3 h4 h5 (.slice lA ln lc) (.slice aA an ac) (.slice hA hn hc) (.int .i64 a) (.int .i64 b)) (by kernel_rfl) ?_
  refine wpV_take (i := 0) (v := ?_) rfl (by kernel_rfl) (by kernel_rfl) (by kernel_rfl) (by first | exact fun _ _ _ h => h | exact fun c a w h => HQP.out c _ a w h) S1 (Or.inl ⟨by kernel_rfl, ?_⟩) ?_
  rotate_left
  · intro w hSw
    go_simp
    try with_reducible rfl
  try simp only [Act.put, List.setIfInBounds_toArray, List.set_cons_zero, List.set_cons_succ]
  refine wpV_take (i := 1) (v := ?_) rfl (by kernel_rfl) (by kernel_rfl) (by kernel_rfl) (by first | exact fun _ _ _ h => h | exact fun c a w h => HQP.out c _ a w h) S1 (Or.inl ⟨by kernel_rfl, ?_⟩) ?_
  rotate_left
  · intro w hSw
    go_simp
    try with_reducible rfl
  try simp only [Act.put, List.setIfInBounds_toArray, List.set_cons_zero, List.set_cons_succ]
  refine wpV_take (i := 2) (v := ?_) rfl (by kernel_rfl) (by kernel_rfl) (by kernel_rfl) (by first | exact fun _ _ _ h => h | exact fun c a w h => HQP.out c _ a w h) S1 (Or.inl ⟨by kernel_rfl, ?_⟩) ?_
  rotate_left
  · intro w hSw
    go_simp
    try with_reducible rfl
  try simp only [Act.put, List.setIfInBounds_toArray, List.set_cons_zero, List.set_cons_succ]
  refine wpV_take (i := 4) (v := ?_) rfl (by kernel_rfl) (by kernel_rfl) (by kernel_rfl) (by first | exact fun _ _ _ h => h | exact fun c a w h => HQP.out c _ a w h) S1 (Or.inl ⟨by kernel_rfl, ?_⟩) ?_
  rotate_left
  · intro w hSw
    go_simp
    try with_reducible rfl
  try simp only [Act.put, List.setIfInBounds_toArray, List.set_cons_zero, List.set_cons_succ]
  refine wpV_take (i := 6) (v := ?_) rfl (by kernel_rfl) (by kernel_rfl) (by kernel_rfl) (by first | exact fun _ _ _ h => h | exact fun c a w h => HQP.out c _ a w h) S1 (Or.inl ⟨by kernel_rfl, ?_⟩) ?_
  rotate_left
  · intro w hSw
    go_simp
    try with_reducible rfl
  try simp only [Act.put, List.setIfInBounds_toArray, List.set_cons_zero, List.set_cons_succ]
  refine wpV_take (i := 8) (v := ?_) rfl (by kernel_rfl) (by kernel_rfl) (by kernel_rfl) (by first | exact fun _ _ _ h => h | exact fun c a w h => HQP.out c _ a w h) S1 (Or.inl ⟨by kernel_rfl, ?_⟩) ?_
  rotate_left
  · intro w hSw
    go_simp
    try with_reducible rfl
  try simp only [Act.put, List.setIfInBounds_toArray, List.set_cons_zero, List.set_cons_succ]
  refine wpV_take (i := 10) (v := ?_) rfl (by kernel_rfl) (by kernel_rfl) (by kernel_rfl) (by first | exact fun _ _ _ h => h | exact fun c a w h => HQP.out c _ a w h) S1 (Or.inl ⟨by kernel_rfl, ?_⟩) ?_
  rotate_left
  · intro w hSw
    go_simp
    try with_reducible rfl
  try simp only [Act.put, List.setIfInBounds_toArray, List.set_cons_zero, List.set_cons_succ]
  refine wpV_take (i := 12) (v := ?_) rfl (by kernel_rfl) (by kernel_rfl) (by kernel_rfl) (by first | exact fun _ _ _ h => h | exact fun c a w h => HQP.out c _ a w h) S1 (Or.inl ⟨by kernel_rfl, ?_⟩) ?_
  rotate_left
  · intro w hSw
    go_simp
    try with_reducible rfl
  try simp only [Act.put, List.setIfInBounds_toArray, List.set_cons_zero, List.set_cons_succ]
  refine wpV_take (i := 15) (v := ?_) rfl (by kernel_rfl) (by kernel_rfl) (by kernel_rfl) (by first | exact fun _ _ _ h => h | exact fun c a w h => HQP.out c _ a w h) S1 (Or.inl ⟨by kernel_rfl, ?_⟩) ?_
  rotate_left
  · intro w hSw
    go_simp
    try with_reducible rfl
  try simp only [Act.put, List.setIfInBounds_toArray, List.set_cons_zero, List.set_cons_succ]
  refine wpV_take (i := 17) (v := ?_) rfl (by kernel_rfl) (by kernel_rfl) (by kernel_rfl) (by first | exact fun _ _ _ h => h | exact fun c a w h => HQP.out c _ a w h) S1 (Or.inl ⟨by kernel_rfl, ?_⟩) ?_
  rotate_left
  · intro w hSw
    go_simp
    try with_reducible rfl
  try simp only [Act.put, List.setIfInBounds_toArray, List.set_cons_zero, List.set_cons_succ]
  refine wpV_take (i := 19) (v := ?_) rfl (by kernel_rfl) (by kernel_rfl) (by kernel_rfl) (by first | exact fun _ _ _ h => h | exact fun c a w h => HQP.out c _ a w h) S1 (Or.inl ⟨by kernel_rfl, ?_⟩) ?_
  rotate_left
  · intro w hSw
    go_simp
    try with_reducible rfl
  try simp only [Act.put, List.setIfInBounds_toArray, List.set_cons_zero, List.set_cons_succ]
  refine wpV_take (i := 21) (v := ?_) rfl (by kernel_rfl) (by kernel_rfl) (by kernel_rfl) (by first | exact fun _ _ _ h => h | exact fun c a w h => HQP.out c _ a w h) S1 (Or.inl ⟨by kernel_rfl, ?_⟩) ?_
  rotate_left
  · intro w hSw
    go_simp
    try with_reducible rfl
  try simp only [Act.put, List.setIfInBounds_toArray, List.set_cons_zero, List.set_cons_succ]
  refine wpV_take (i := 23) (v := ?_) rfl (by kernel_rfl) (by kernel_rfl) (by kernel_rfl) (by first | exact fun _ _ _ h => h | exact fun c a w h => HQP.out c _ a w h) S1 (Or.inl ⟨by kernel_rfl, ?_⟩) ?_
  rotate_left
  · intro w hSw
    go_simp
    try with_reducible rfl
  try simp only [Act.put, List.setIfInBounds_toArray, List.set_cons_zero, List.set_cons_succ]
  refine wpV_take (i := 25) (v := ?_) rfl (by kernel_rfl) (by kernel_rfl) (by kernel_rfl) (by first | exact fun _ _ _ h => h | exact fun c a w h => HQP.out c _ a w h) S1 (Or.inl ⟨by kernel_rfl, ?_⟩) ?_
  rotate_left
  · intro w hSw
    go_simp
    try with_reducible rfl
  try simp only [Act.put, List.setIfInBounds_toArray, List.set_cons_zero, List.set_cons_succ]
  refine wpV_take (i := 3) (v := ?_) rfl (by kernel_rfl) (by kernel_rfl) (by kernel_rfl) (by first | exact fun _ _ _ h => h | exact fun c a w h => HQP.out c _ a w h) S1 (Or.inl ⟨by kernel_rfl, ?_⟩) ?_
  rotate_left
  · intro w hSw
    obtain ⟨s0, s1, s2, s3, s4, s5, s6, s7, s8, s9, s10⟩ := hSw
    go_simp
    try with_reducible rfl
  try simp only [Act.put, List.setIfInBounds_toArray, List.set_cons_zero, List.set_cons_succ]
  refine wpV_take (i := 5) (v := ?_) rfl (by kernel_rfl) (by kernel_rfl) (by kernel_rfl) (by first | exact fun _ _ _ h => h | exact fun c a w h => HQP.out c _ a w h) S1 (Or.inl ⟨by kernel_rfl, ?_⟩) ?_
  rotate_left
  · intro w hSw
    obtain ⟨s0, s1, s2, s3, s4, s5, s6, s7, s8, s9, s10⟩ := hSw
    go_simp
    try with_reducible rfl
  try simp only [Act.put, List.setIfInBounds_toArray, List.set_cons_zero, List.set_cons_succ]
  refine wpV_take (i := 7) (v := ?_) rfl (by kernel_rfl) (by kernel_rfl) (by kernel_rfl) (by first | exact fun _ _ _ h => h | exact fun c a w h => HQP.out c _ a w h) S1 (Or.inl ⟨by kernel_rfl, ?_⟩) ?_
  rotate_left
  · intro w hSw
    obtain ⟨s0, s1, s2, s3, s4, s5, s6, s7, s8, s9, s10⟩ := hSw
    go_simp
    try with_reducible rfl
  try simp only [Act.put, List.setIfInBounds_toArray, List.set_cons_zero, List.set_cons_succ]
  refine wpV_take (i := 9) (v := ?_) rfl (by kernel_rfl) (by kernel_rfl) (by kernel_rfl) (by first | exact fun _ _ _ h => h | exact fun c a w h => HQP.out c _ a w h) S1 (Or.inl ⟨by kernel_rfl, ?_⟩) ?_
  rotate_left
  · intro w hSw
    obtain ⟨s0, s1, s2, s3, s4, s5, s6, s7, s8, s9, s10⟩ := hSw
    go_simp
    try with_reducible rfl
  try simp only [Act.put, List.setIfInBounds_toArray, List.set_cons_zero, List.set_cons_succ]
  refine wpV_take (i := 11) (v := ?_) rfl (by kernel_rfl) (by kernel_rfl) (by kernel_rfl) (by first | exact fun _ _ _ h => h | exact fun c a w h => HQP.out c _ a w h) S1 (Or.inl ⟨by kernel_rfl, ?_⟩) ?_
  rotate_left
  · intro w hSw
    obtain ⟨s0, s1, s2, s3, s4, s5, s6, s7, s8, s9, s10⟩ := hSw
    go_simp
    try with_reducible rfl
  try simp only [Act.put, List.setIfInBounds_toArray, List.set_cons_zero, List.set_cons_succ]
  refine wpV_take (i := 13) (v := ?_) rfl (by kernel_rfl) (by kernel_rfl) (by kernel_rfl) (by first | exact fun _ _ _ h => h | exact fun c a w h => HQP.out c _ a w h) S1 (Or.inl ⟨by kernel_rfl, ?_⟩) ?_
  rotate_left
  · intro w hSw
    obtain ⟨s0, s1, s2, s3, s4, s5, s6, s7, s8, s9, s10⟩ := hSw
    go_simp
    try with_reducible rfl
  try simp only [Act.put, List.setIfInBounds_toArray, List.set_cons_zero, List.set_cons_succ]
  refine wpV_take (i := 16) (v := ?_) rfl (by kernel_rfl) (by kernel_rfl) (by kernel_rfl) (by first | exact fun _ _ _ h => h | exact fun c a w h => HQP.out c _ a w h) S1 (Or.inl ⟨by kernel_rfl, ?_⟩) ?_
  rotate_left
  · intro w hSw
    obtain ⟨s0, s1, s2, s3, s4, s5, s6, s7, s8, s9, s10⟩ := hSw
    go_simp
    try with_reducible rfl
  try simp only [Act.put, List.setIfInBounds_toArray, List.set_cons_zero, List.set_cons_succ]
  refine wpV_take (i := 18) (v := ?_) rfl (by kernel_rfl) (by kernel_rfl) (by kernel_rfl) (by first | exact fun _ _ _ h => h | exact fun c a w h => HQP.out c _ a w h) S1 (Or.inl ⟨by kernel_rfl, ?_⟩) ?_
  rotate_left
  · intro w hSw
    obtain ⟨s0, s1, s2, s3, s4, s5, s6, s7, s8, s9, s10⟩ := hSw
    go_simp
    try with_reducible rfl
  try simp only [Act.put, List.setIfInBounds_toArray, List.set_cons_zero, List.set_cons_succ]
  refine wpV_take (i := 20) (v := ?_) rfl (by kernel_rfl) (by kernel_rfl) (by kernel_rfl) (by first | exact fun _ _ _ h => h | exact fun c a w h => HQP.out c _ a w h) S1 (Or.inl ⟨by kernel_rfl, ?_⟩) ?_
  rotate_left
  · intro w hSw
    obtain ⟨s0, s1, s2, s3, s4, s5, s6, s7, s8, s9, s10⟩ := hSw
    go_simp
    try with_reducible rfl
  try simp only [Act.put, List.setIfInBounds_toArray, List.set_cons_zero, List.set_cons_succ]
  refine wpV_take (i := 22) (v := ?_) rfl (by kernel_rfl) (by kernel_rfl) (by kernel_rfl) (by first | exact fun _ _ _ h => h | exact fun c a w h => HQP.out c _ a w h) S1 (Or.inl ⟨by kernel_rfl, ?_⟩) ?_
  rotate_left
  · intro w hSw
    obtain ⟨s0, s1, s2, s3, s4, s5, s6, s7, s8, s9, s10⟩ := hSw
    go_simp
    try with_reducible rfl
  try simp only [Act.put, List.setIfInBounds_toArray, List.set_cons_zero, List.set_cons_succ]
  refine wpV_take (i := 24) (v := ?_) rfl (by kernel_rfl) (by kernel_rfl) (by kernel_rfl) (by first | exact fun _ _ _ h => h | exact fun c a w h => HQP.out c _ a w h) S1 (Or.inl ⟨by kernel_rfl, ?_⟩) ?_
  rotate_left
  · intro w hSw
    obtain ⟨s0, s1, s2, s3, s4, s5, s6, s7, s8, s9, s10⟩ := hSw
    go_simp
    try with_reducible rfl
  try simp only [Act.put, List.setIfInBounds_toArray, List.set_cons_zero, List.set_cons_succ]
  refine wpV_take (i := 26) (v := ?_) rfl (by kernel_rfl) (by kernel_rfl) (by kernel_rfl) (by first | exact fun _ _ _ h => h | exact fun c a w h => HQP.out c _ a w h) S1 (Or.inl ⟨by kernel_rfl, ?_⟩) ?_
  rotate_left
  · intro w hSw
    obtain ⟨s0, s1, s2, s3, s4, s5, s6, s7, s8, s9, s10⟩ := hSw
    go_simp
    try with_reducible rfl
  try simp only [Act.put, List.setIfInBounds_toArray, List.set_cons_zero, List.set_cons_succ]
  refine wpV_one (i := 14) (by kernel_rfl) rfl (fun K hK => ?_)
  go_simp
  go_loud (refine (seen_any sA cA lA aA hA sn sc cn cc ln lc an ac hn hc h2 h3 h4 h5 a b start l cs lo hi _ HWD.out.hS HWD.out.hL HWD.out.hE HWD.out.hlo HWD.out.hhi HWD.out.b1 HWD.out.b2 HWD.out.b3 HWD.out.hsh HWD.out.hsl HWD.out.hks HWD.out.hbm HWD.out.ham).mono ?_); rintro e w3 ⟨rb1, rfl, hrb1, hb3⟩; have HR1 := Lib.hid hrb1; have HB3 := Lib.hid hb3; have HW3 := Lib.hid (HWD.out.below hb3); clear hrb1 hb3
  refine hK.out _ _ (S1.below HB3.out) ?_
  clear hK K
  try simp only [Act.put, List.setIfInBounds_toArray, List.set_cons_zero, List.set_cons_succ]
  refine wpV_one (i := 27) (by kernel_rfl) rfl (fun K hK => ?_)
  go_simp
  go_loud (refine (rseen_any sA cA lA aA hA sn sc cn cc ln lc an ac hn hc h2 h3 h4 h5 a b start l cs lo hi _ HW3.out.hS HW3.out.hL HW3.out.hE HW3.out.hlo HW3.out.hhi HW3.out.b1 HW3.out.b2 HW3.out.b3 HW3.out.hsh HW3.out.hsl HW3.out.hks HW3.out.hbm HW3.out.ham HW3.out.han HW3.out.hhn).mono ?_); rintro e w4 ⟨rb2, rfl, hrb2, hb4⟩; have HRR : rb2 = rb1 := (by have h1 := HR1.out; rw [← hrb2] at h1; revert h1; cases rb1 <;> cases rb2 <;> simp); subst HRR; have HB4 := Lib.hid hb4; clear hrb2 hb4
  refine hK.out _ _ ((S1.below HB3.out).below HB4.out) ?_
  clear hK K
  try simp only [Act.put, List.setIfInBounds_toArray, List.set_cons_zero, List.set_cons_succ]
  refine wpV_take (i := 28) (v := ?_) rfl (by kernel_rfl) (by kernel_rfl) (by kernel_rfl) (by first | exact fun _ _ _ h => h | exact fun c a w h => HQP.out c _ a w h) ((S1.below HB3.out).below HB4.out) (Or.inl ⟨by kernel_rfl, ?_⟩) ?_
  rotate_left
  · intro w hSw
    go_simp
    try with_reducible rfl
  try simp only [Act.put, List.setIfInBounds_toArray, List.set_cons_zero, List.set_cons_succ]
  refine wpV_take (i := 29) (v := ?_) rfl (by kernel_rfl) (by kernel_rfl) (by kernel_rfl) (by first | exact fun _ _ _ h => h | exact fun c a w h => HQP.out c _ a w h) ((S1.below HB3.out).below HB4.out) (Or.inl ⟨by kernel_rfl, ?_⟩) ?_
  rotate_left
  · intro w hSw
    go_simp
    try with_reducible rfl
  try simp only [Act.put, List.setIfInBounds_toArray, List.set_cons_zero, List.set_cons_succ]
  refine wpV_take (i := 30) (v := ?_) rfl (by kernel_rfl) (by kernel_rfl) (by kernel_rfl) (by first | exact fun _ _ _ h => h | exact fun c a w h => HQP.out c _ a w h) ((S1.below HB3.out).below HB4.out) (Or.inl ⟨by kernel_rfl, ?_⟩) ?_
  rotate_left
  · intro w hSw
    go_simp
    try with_reducible rfl
  try simp only [Act.put, List.setIfInBounds_toArray, List.set_cons_zero, List.set_cons_succ]
  refine wpV_done (by kernel_rfl) ?_ _
  go_simp
  exact HEX.out _ _ _ _ _ _ _ _ _ _ _ _ _ _ _ _ _ _ _ _ _ _ _ _ _ _ _ _ _ _ _ ((HD.out.trans (HB3.out.mono HD.out.size)).trans (HB4.out.mono (HD.out.trans (HB3.out.mono HD.out.size)).size))
set_option maxRecDepth 100000 in
set_option maxHeartbeats 8000000 in
theorem seens_all (sA cA lA aA hA : Option Addr) (sn sc cn cc ln lc an ac hn hc : Nat) (h2 h3 h4 h5 : Value) (a b : Int) (start l : List Ent) (cs : List CallD) (lo hi : List UInt8) (w : World) (h : LookW w sA cA lA aA hA sn cn ln an hn ac hc a b start l cs lo hi) :
    Calls Try.prog 6 #[.agg #[.slice sA sn sc, .slice cA cn cc, h2, h3, h4, h5, .slice lA ln lc, .slice aA an ac, .slice hA hn hc, .int .i64 a, .int .i64 b]] w fun e w' => e = .returned (.bool true) ∧ Below w.heap.size w w' := by
  have HW := Lib.hid h
  clear h
  go_enter Try.func6, Try.ntmps6
  go_upto_region 1 with fail
  obtain ⟨w1, hw1⟩ : ∃ W, W = w.alloc (.cells #[.slice sA sn sc, .slice cA cn cc, h2, h3, h4, h5, .slice lA ln lc, .slice aA an ac, .slice hA hn hc, .int .i64 a, .int .i64 b] 41) := ⟨_, rfl⟩
  rw [← hw1]
  have HB : Hid (Below w.heap.size w w1) := Lib.hid (by rw [hw1]; exact (Below.refl _ _).alloc (Nat.le_refl _) _)
  have HK : Hid (Blk w1 w.heap.size 41 #[.slice sA sn sc, .slice cA cn cc, h2, h3, h4, h5, .slice lA ln lc, .slice aA an ac, .slice hA hn hc, .int .i64 a, .int .i64 b]) := Lib.hid (by rw [hw1]; exact Blk.new _ _ _)
  clear hw1
  go_upto_region 2 with (go_at_call 7; go_loud (refine (head_any w1).mono ?_); rintro e w2 ⟨rfl, hb2⟩; have HK2 := Lib.hid (HK.out.below hb2); have HB2 := Lib.hid (HB.out.trans (hb2.mono HB.out.size)); clear hb2)
  refine lw2_any w.heap.size sA cA lA aA hA sn sc cn cc ln lc an ac hn hc h2 h3 h4 h5 a b start l cs lo hi w2 _ (by exact Lib.hid (fun _ _ _ _ h => h)) (Lib.hid (HW.out.below HB2.out)) (LkC.of HK2.out) ?_
  intro v5 v6 v7 v8 v9 v10 v11 v12 v13 v14 v15 v16 v17 v18 v19 v20 v21 v22 v23 v24 v25 v26 v27 v28 v29 v30 v31 v32 v33 v34 w3 hb3
  go_wp2
  exact ⟨rfl, _, by kernel_rfl, rfl, HB2.out.trans (hb3.mono HB2.out.size)⟩
end Go.Proofs.Ytpbnngfiinihmaa
