/- WALKS: order.right. WALKS: order.right, whole. DERIVED: THE SHELF's CONTRACTS AT THIS DUMP, IN PLAIN WORDS (tools/lay-plain.mjs out of 'YtpbnngfiinihmaaIterL.lean', which tools/lay-shelf.mjs wrote): THE SAME DECLARATIONS UNDER THE SAME NAMES: 'import', 'namespace', 'open', 'def', 'theorem' AND NOTHING ELSE: no command of the shelf's: FOR A HAND-IN. Each laying: the table of numbers ('.._ren') and one theorem, a field a fact of the dump's own or the kernel's comparison; each contract: ONE APPLICATION. WALKS: the keys of a table, sorted (slices.Sorted of maps.Keys); what order they are in. -/
import Derived.Test.YtpbnngfiinihmaaOc09
import Derived.Laws.StructEq
import Derived.Shelf.SlIter.Nil
import Derived.Shelf.SortM.Plain
import Derived.Shelf.SortM.SortNone
import Derived.Ground.GgzProg
import Derived.Ground.SlgmProg
import Derived.Test.YtpbnngfiinihmaaProg
import Derived.Test.YtpbnngfiinihmaaOc07
set_option linter.unusedVariables false
set_option linter.unusedSimpArgs false
namespace Go.Proofs.Ytpbnngfiinihmaa
open Go.RowKit Go.Maps
noncomputable def valC : Code := codeOr (Try.f22.body.bind (regionAt 5))
/-- what is asked throughout -/
structure ValAt (p : Nat) (a v : Value) (s1 s2 : List UInt8) (w : World) : Prop where
  c : w.cell? ⟨p, 15, none⟩ = some a
  q1 : (convert 36 9 a).run Try.prog w = .ok (.string (sOf s1)) w
  q2 : (convert 36 9 v).run Try.prog w = .ok (.string (sOf s2)) w
theorem ValAt.of {w w' : World} {G S : Nat → Prop} {p an ac vn vc : Nat} {aA vA : Option Addr} {s1 s2 : List UInt8} (hc : w.cell? ⟨p, 15, none⟩ = some (.slice aA an ac)) (h1 : SB w G (.slice aA an ac) s1) (h2 : SB w G (.slice vA vn vc) s2) (hw : Chg S w w') (hp : ¬ S p) (hG : ∀ b, G b → ¬ S b) :
    ValAt p (.slice aA an ac) (.slice vA vn vc) s1 s2 w' :=
  ⟨hw.cell hp hc, conv_any _ G _ _ _ _ (h1.chg hw hG).parts.2.2.2 h1.parts.2.2.1, conv_any _ G _ _ _ _ (h2.chg hw hG).parts.2.2.2 h2.parts.2.2.1⟩
set_option maxRecDepth 100000 in
set_option maxHeartbeats 4000000 in
theorem right_vals (G : Nat → Prop) (p q r vn vc an ac : Nat) (vA aA : Option Addr) (s1 s2 : List UInt8) (i1 i2 j1 j2 : Value) (e1 e2 : ByteArray) (w : World) {u0 u1 u2 u4 u6 u9 u10 u11 u12 u13 u14 u15 u16 u17 u18 u19 u20 u21 u22 u23 u24 u25 u26 u27 u28 u29 u30 u31 u32 u33 u34 u35 u36 u37 u38 u39 u40 u41 u42 u43 u44 u45 u46 u47 u48 u49 u50 u51 u52 u53 u54 u55 u56 u57 u58 u59 u60 u61 u62 u63 u64 u65 : Value} (Q : Exit → Act → World → Prop) (HQP : Hid (∀ c t (a : Act) w, Q (.panic c) ⟨t, a.defers⟩ w → Q (.panic c) a w))
    (hc : w.cell? ⟨p, 15, none⟩ = some (.slice aA an ac)) (h1 : SB w G (.slice aA an ac) s1) (h2 : SB w G (.slice vA vn vc) s2) (hG : ∀ b, G b → b ≠ q ∧ b ≠ r) (hpq : p ≠ q) (hpr : p ≠ r)
    (HQ : Hid (Blk w q 82 #[i1, i2, .string e1])) (HR : Hid (Blk w r 82 #[j1, j2, .string e2])) (hqr : q ≠ r)
    (hexit : ∀ (v30 v31 v32 v33 v34 v35 v36 : Value) (w' : World), Blk w' q 82 #[i1, i2, .string (sOf s1)] → Blk w' r 82 #[j1, j2, .string (sOf s2)] → Chg (fun b => b = q ∨ b = r) w w' → Q .normal ⟨(u0 :: u1 :: u2 :: .pointer (some ⟨p, 0, none⟩) :: u4 :: .slice vA vn vc :: u6 :: .pointer (some ⟨q, 0, none⟩) :: .pointer (some ⟨r, 0, none⟩) :: u9 :: u10 :: u11 :: u12 :: u13 :: u14 :: u15 :: u16 :: u17 :: u18 :: u19 :: u20 :: u21 :: u22 :: u23 :: u24 :: u25 :: u26 :: u27 :: u28 :: u29 :: v30 :: v31 :: v32 :: v33 :: v34 :: v35 :: v36 :: u37 :: u38 :: u39 :: u40 :: u41 :: u42 :: u43 :: u44 :: u45 :: u46 :: u47 :: u48 :: u49 :: u50 :: u51 :: u52 :: u53 :: u54 :: u55 :: u56 :: u57 :: u58 :: u59 :: u60 :: u61 :: u62 :: u63 :: u64 :: u65 :: []).toArray, []⟩ w') :
    Code.wp Try.prog valC Q ⟨(u0 :: u1 :: u2 :: .pointer (some ⟨p, 0, none⟩) :: u4 :: .slice vA vn vc :: u6 :: .pointer (some ⟨q, 0, none⟩) :: .pointer (some ⟨r, 0, none⟩) :: u9 :: u10 :: u11 :: u12 :: u13 :: u14 :: u15 :: u16 :: u17 :: u18 :: u19 :: u20 :: u21 :: u22 :: u23 :: u24 :: u25 :: u26 :: u27 :: u28 :: u29 :: u30 :: u31 :: u32 :: u33 :: u34 :: u35 :: u36 :: u37 :: u38 :: u39 :: u40 :: u41 :: u42 :: u43 :: u44 :: u45 :: u46 :: u47 :: u48 :: u49 :: u50 :: u51 :: u52 :: u53 :: u54 :: u55 :: u56 :: u57 :: u58 :: u59 :: u60 :: u61 :: u62 :: u63 :: u64 :: u65 :: []).toArray, []⟩ w := by
  have HEX := Lib.hid hexit
  have H1 := Lib.hid h1
  have H2 := Lib.hid h2
  have HC := Lib.hid hc
  have HG := Lib.hid hG
  have S0 : ValAt p (.slice aA an ac) (.slice vA vn vc) s1 s2 w.drew := ValAt.of (S := Nil) hc h1 h2 (Chg.refl _ _).drew (fun h => h) (fun _ _ h => h)
  have S1 : ValAt p (.slice aA an ac) (.slice vA vn vc) s1 s2 (w.drew.setCell ⟨q, 2, none⟩ (.string (sOf s1))) := ValAt.of (S := One q) hc h1 h2 ((Chg.refl (One q) w).drew.setCell (p := ⟨q, 2, none⟩) (fun _ => rfl) _) hpq (fun b hb e => (hG b hb).1 e)
  have C2 : Chg (fun b => b = q ∨ b = r) w ((w.drew.setCell ⟨q, 2, none⟩ (.string (sOf s1))).setCell ⟨r, 2, none⟩ (.string (sOf s2))) := ((Chg.refl _ _).drew.setCell (p := ⟨q, 2, none⟩) (fun _ => .inl rfl) _).setCell (p := ⟨r, 2, none⟩) (fun _ => .inr rfl) _
  have S2 : ValAt p (.slice aA an ac) (.slice vA vn vc) s1 s2 ((w.drew.setCell ⟨q, 2, none⟩ (.string (sOf s1))).setCell ⟨r, 2, none⟩ (.string (sOf s2))) := ValAt.of hc h1 h2 C2 (fun h => h.elim hpq hpr) (fun b hb e => e.elim (hG b hb).1 (hG b hb).2)
  have HC2 := Lib.hid C2
  have B1 : Blk (w.drew.setCell ⟨q, 2, none⟩ (.string (sOf s1))) q 82 #[i1, i2, .string (sOf s1)] := HQ.out.set_ 2 _
  have B2 : Blk (w.drew.setCell ⟨q, 2, none⟩ (.string (sOf s1))) r 82 #[j1, j2, .string e2] := Blk.far (w := w.drew) HR.out (p := ⟨q, 2, none⟩) (fun e => hqr e.symm) _
  have HB1 := Lib.hid (Blk.far B1 (p := ⟨r, 2, none⟩) hqr (.string (sOf s2)))
  have HB2 := Lib.hid (B2.set_ 2 (.string (sOf s2)))
  have z0 : w.cell? ⟨q, 2, none⟩ = some (.string e1) := HQ.out.cell 2
  have f0 : w.frozen? ⟨q, 2, none⟩ = false := HQ.out.frozen 2
  have z1 : w.cell? ⟨r, 2, none⟩ = some (.string e2) := HR.out.cell 2
  have f1 : w.frozen? ⟨r, 2, none⟩ = false := HR.out.frozen 2
  clear hexit C2 B1 B2 hc h1 h2 hG
  conv => arg 2; whnf
  refine wp_region_V (fun w' => ValAt p (.slice aA an ac) (.slice vA vn vc) s1 s2 w') (by kernel_rfl) ?_
  refine wpV_take (i := 0) (v := ?_) rfl (by kernel_rfl) (by kernel_rfl) (by kernel_rfl) (by first | exact fun _ _ _ h => h | exact fun c a w h => HQP.out c _ a w h) S0 (Or.inl ⟨by kernel_rfl, ?_⟩) ?_
  rotate_left
  · intro w hSw
    go_simp
    try with_reducible rfl
  try simp only [Act.put, List.setIfInBounds_toArray, List.set_cons_zero, List.set_cons_succ]
  refine wpV_take (i := 3) (v := ?_) rfl (by kernel_rfl) (by kernel_rfl) (by kernel_rfl) (by first | exact fun _ _ _ h => h | exact fun c a w h => HQP.out c _ a w h) S0 (Or.inl ⟨by kernel_rfl, ?_⟩) ?_
  rotate_left
  · intro w hSw
    go_simp
    try with_reducible rfl
  try simp only [Act.put, List.setIfInBounds_toArray, List.set_cons_zero, List.set_cons_succ]
  refine wpV_take (i := 1) (v := ?_) rfl (by kernel_rfl) (by kernel_rfl) (by kernel_rfl) (by first | exact fun _ _ _ h => h | exact fun c a w h => HQP.out c _ a w h) S0 (Or.inl ⟨by kernel_rfl, ?_⟩) ?_
  rotate_left
  · intro w hSw
    obtain ⟨s0, q1, q2⟩ := hSw
    go_simp
    try with_reducible rfl
  try simp only [Act.put, List.setIfInBounds_toArray, List.set_cons_zero, List.set_cons_succ]
  refine wpV_take (i := 2) (v := ?_) rfl (by kernel_rfl) (by kernel_rfl) (by kernel_rfl) (by first | exact fun _ _ _ h => h | exact fun c a w h => HQP.out c _ a w h) S0 (Or.inl ⟨by kernel_rfl, ?_⟩) ?_
  rotate_left
  · intro w hSw
    obtain ⟨s0, q1, q2⟩ := hSw
    go_simp
    try with_reducible rfl
  try simp only [Act.put, List.setIfInBounds_toArray, List.set_cons_zero, List.set_cons_succ]
  refine wpV_take (i := 5) (v := ?_) rfl (by kernel_rfl) (by kernel_rfl) (by kernel_rfl) (by first | exact fun _ _ _ h => h | exact fun c a w h => HQP.out c _ a w h) S0 (Or.inl ⟨by kernel_rfl, ?_⟩) ?_
  rotate_left
  · intro w hSw
    go_simp
    try with_reducible rfl
  try simp only [Act.put, List.setIfInBounds_toArray, List.set_cons_zero, List.set_cons_succ]
  refine wpV_take (i := 4) (v := ?_) rfl (by kernel_rfl) (by kernel_rfl) (by kernel_rfl) (by first | exact fun _ _ _ h => h | exact fun c a w h => HQP.out c _ a w h) S0 (Or.inl ⟨by kernel_rfl, ?_⟩) ?_
  rotate_left
  · intro w hSw
    obtain ⟨s0, q1, q2⟩ := hSw
    go_simp
    try with_reducible rfl
  try simp only [Act.put, List.setIfInBounds_toArray, List.set_cons_zero, List.set_cons_succ]
  refine wpV_one (i := 6) (by kernel_rfl) rfl (fun K hK => ?_)
  go_simp
  skip
  refine hK.out _ _ S1 ?_
  clear hK K
  try simp only [Act.put, List.setIfInBounds_toArray, List.set_cons_zero, List.set_cons_succ]
  refine wpV_take (i := 7) (v := ?_) rfl (by kernel_rfl) (by kernel_rfl) (by kernel_rfl) (by first | exact fun _ _ _ h => h | exact fun c a w h => HQP.out c _ a w h) S1 (Or.inl ⟨by kernel_rfl, ?_⟩) ?_
  rotate_left
  · intro w hSw
    go_simp
    try with_reducible rfl
  try simp only [Act.put, List.setIfInBounds_toArray, List.set_cons_zero, List.set_cons_succ]
  refine wpV_one (i := 8) (by kernel_rfl) rfl (fun K hK => ?_)
  go_simp
  skip
  refine hK.out _ _ S2 ?_
  clear hK K
  try simp only [Act.put, List.setIfInBounds_toArray, List.set_cons_zero, List.set_cons_succ]
  refine wpV_done (by kernel_rfl) ?_ _
  go_simp
  exact HEX.out _ _ _ _ _ _ _ _ HB1.out HB2.out HC2.out
end Go.Proofs.Ytpbnngfiinihmaa

namespace Go.Proofs.Ytpbnngfiinihmaa
open Go.RowKit Go.Maps
theorem ans_put2 {m : List Ent} {c : CallD} (hg : goodE c) (hk : c.kd = 2) : answerE m c ↔ ((c.er = 2 ∧ c.th = false ∧ (hasE m c.key).isSome = false) ∨ (c.er = 0 ∧ c.th = (hasE m c.key).isSome)) := by
  by_cases he : c.er = 2
  · rw [ans_full hg hk he]
    constructor
    · rintro ⟨a, b⟩; exact .inl ⟨he, a, b⟩
    · rintro (⟨_, a, b⟩ | ⟨a, _⟩)
      · exact ⟨a, b⟩
      · omega
  · rw [ans_else hg (by omega) (fun h => he h.2)]
    constructor
    · intro h; exact .inr h
    · rintro (⟨a, _⟩ | h)
      · exact absurd a he
      · exact h
set_option maxRecDepth 100000 in
set_option maxHeartbeats 8000000 in
theorem right_any (F : Nat → Prop) (b n : Nat) (m : List Ent) (c : CallD) (x : CallX) (w : World) (h : CallW w F c x) (hT : TabM w b n F m) (hkl : c.key.length ≤ 1152921504606) (hF : ∀ g, F g → g < w.heap.size ∧ g ≠ b) :
    Calls Try.prog 22 #[.map (some b), callV c x] w fun e w' => e = .returned (.bool (decide (answerE m c))) ∧ Below w.heap.size w w' := by
  have HW := Lib.hid h
  have HT := Lib.hid hT
  have HF := Lib.hid hF
  have HKL := Lib.hid hkl
  clear h hT hF hkl
  obtain ⟨gb, hgb⟩ : ∃ gb, gb = decide (goodE c) := ⟨_, rfl⟩
  have HGB := Lib.hid hgb
  obtain ⟨tb, htb⟩ : ∃ tb, tb = (hasE m c.key).isSome := ⟨_, rfl⟩
  have HTB := Lib.hid htb
  obtain ⟨vv, hvv⟩ : ∃ vv, vv = (hasE m c.key).getD [] := ⟨_, rfl⟩
  have HVV := Lib.hid hvv
  clear hgb htb hvv
  go_enter Try.func22, Try.ntmps22
  go_upto_region 1 with fail
  obtain ⟨w1, hw1⟩ : ∃ W, W = w.alloc (.cells (callCs c x) 48) := ⟨_, rfl⟩
  rw [← hw1]
  have HB : Hid (Below w.heap.size w w1) := Lib.hid (by rw [hw1]; exact (Below.refl _ _).alloc (Nat.le_refl _) _)
  have HK : Hid (Blk w1 w.heap.size 48 (callCs c x)) := Lib.hid (by rw [hw1]; exact Blk.new _ _ _)
  have HS1 : Hid (w1.heap.size = w.heap.size + 1) := Lib.hid (by rw [hw1]; simp)
  have HW1 := Lib.hid (HW.out.below HB.out)
  have HT1 := Lib.hid (HT.out.below HB.out)
  clear hw1
  have y3 : w1.cell? ⟨w.heap.size, 3, none⟩ = some (.slice x.kA x.kn x.kc) := HK.out.cell 3
  have q1 := conv_any w1 _ x.kA x.kn x.kc c.key HW1.out.kr HW1.out.kq
  obtain ⟨vA, vn, vc, hlk, _, hsv⟩ := HT1.out.look (k := c.key) (by have := HKL.out; simp only [maxLen]; omega)
  rw [← HTB.out] at hlk
  rw [← HVV.out] at hsv
  have HSV := Lib.hid hsv
  have y13 : w1.cell? ⟨w.heap.size, 13, none⟩ = some (.int .i64 c.er) := HK.out.cell 13
  have y14 : w1.cell? ⟨w.heap.size, 14, none⟩ = some (.bool c.th) := HK.out.cell 14
  clear hsv
  go_upto_region 4 with fail
  obtain ⟨q, hq⟩ : ∃ q, q = w1.heap.size := ⟨_, rfl⟩
  obtain ⟨r, hr⟩ : ∃ r, r = w1.heap.size + 1 := ⟨_, rfl⟩
  obtain ⟨w3, hw3⟩ : ∃ W, W = (w1.alloc (.cells #[.int .i64 c.er, .bool c.th, .string (sOf [])] 82)).alloc (.cells #[.int .i64 0, .bool tb, .string (sOf [])] 82) := ⟨_, rfl⟩
  have hw3' : (w1.alloc (.cells #[.int .i64 c.er, .bool c.th, .string { data := #[] }] 82)).alloc (.cells #[.int .i64 0, .bool tb, .string { data := #[] }] 82) = w3 := hw3.symm
  rw [hw3', ← hr, ← hq]
  have HB2 : Hid (Below w1.heap.size w1 w3) := Lib.hid (by rw [hw3]; exact ((Below.refl _ _).alloc (Nat.le_refl _) _).alloc (by simp) _)
  have HQ3 : Hid (Blk w3 q 82 #[.int .i64 c.er, .bool c.th, .string (sOf [])]) := Lib.hid (by rw [hw3, hq]; exact (Blk.new w1 _ _).alloc _)
  have HR3 : Hid (Blk w3 r 82 #[.int .i64 0, .bool tb, .string (sOf [])]) := Lib.hid (by
    rw [hw3, hr]
    have := Blk.new (w1.alloc (.cells #[.int .i64 c.er, .bool c.th, .string (sOf [])] 82)) 82 #[.int .i64 0, .bool tb, .string (sOf [])]
    simpa using this)
  have HK3 := Lib.hid (HK.out.below HB2.out)
  have HW3 := Lib.hid (HW1.out.below HB2.out)
  have HB3 := Lib.hid (HB.out.trans (HB2.out.mono HB.out.size))
  have HSV3 := Lib.hid (HSV.out.below HB2.out)
  have HQN : Hid (q = w.heap.size + 1 ∧ r = w.heap.size + 2) := Lib.hid (by have := HS1.out; omega)
  have hqr : q ≠ r := by omega
  have hpq : w.heap.size ≠ q := by have := HQN.out; omega
  have hpr : w.heap.size ≠ r := by have := HQN.out; omega
  clear hw3 hw3' hq hr y3 q1 hlk y13 y14
  have z2 : w3.cell? ⟨w.heap.size, 2, none⟩ = some (.int .i64 c.kd) := HK3.out.cell 2
  by_cases hk1 : c.kd = 1
  · have HK1 := Lib.hid hk1
    rw [hk1] at z2
    have z15 : w3.cell? ⟨w.heap.size, 15, none⟩ = some (.slice x.aA x.an x.ac) := HK3.out.cell 15
    clear hk1
    go_upto_region 5 with fail
    refine right_vals F w.heap.size q r vn vc x.an x.ac vA x.aA c.ans vv _ _ _ _ _ _ w3 _ (by exact Lib.hid (fun _ _ _ _ h => h)) z15 (SB.mk HW3.out.ak HW3.out.al HW3.out.aq HW3.out.ar) HSV3.out (fun g hg => by have := (HF.out g hg).1; have := HQN.out; omega) hpq hpr HQ3 HR3 hqr ?_
    intro v30 v31 v32 v33 v34 v35 v36 w4 hq4 hr4 hc4
    have HQ4 := Lib.hid hq4
    have HR4 := Lib.hid hr4
    have HK4 := Lib.hid (HK3.out.chg hc4 (fun h => h.elim hpq hpr))
    have HW4 := Lib.hid (HW3.out.chg hc4 (fun g hg h => by have := (HF.out g hg).1; have := HQN.out; omega))
    have HB4 := Lib.hid (HB3.out.trans (hc4.below_of HB3.out.size (fun g hg h => by have := HQN.out; omega)))
    clear hq4 hr4 hc4 z2 z15
    have HAT4 := Lib.hid (CallAt.of_blk HK4.out)
    have v0 : w4.cell? ⟨r, 0, none⟩ = some (.int .i64 0) := HR4.out.cell 0
    have v1 : w4.cell? ⟨r, 1, none⟩ = some (.bool tb) := HR4.out.cell 1
    have v2 : w4.cell? ⟨r, 2, none⟩ = some (.string (sOf vv)) := HR4.out.cell 2
    cases gb with
    | false =>
      have HNG : Hid (¬ goodE c) := Lib.hid (of_decide_eq_false HGB.out.symm)
      go_upto_region 7 with (first | (refine wpList_load_op rfl (.tmp 37) rfl rfl HAT4.out ?_) | (go_at_call 46; go_loud (refine (good_any F c x w4 HW4.out).mono ?_); rintro e w5 ⟨rfl, hb5⟩; rw [← HGB.out]; have HB5 := Lib.hid hb5; clear hb5))
      have HK5 := Lib.hid (HK4.out.below HB5.out)
      have HQ5 := Lib.hid (HQ4.out.below HB5.out)
      have HR5 := Lib.hid (HR4.out.below HB5.out)
      have HW5 := Lib.hid (HW4.out.below HB5.out)
      have u0 : w5.cell? ⟨r, 0, none⟩ = some (.int .i64 0) := HR5.out.cell 0
      have u1 : w5.cell? ⟨r, 1, none⟩ = some (.bool tb) := HR5.out.cell 1
      have u2 : w5.cell? ⟨r, 2, none⟩ = some (.string (sOf vv)) := HR5.out.cell 2
      have uf := HR5.out.frozen
      clear v0 v1 v2
      go_upto_region 8 with fail
      obtain ⟨w6, hw6⟩ : ∃ W, W = ((w5.setCell ⟨r, 0, none⟩ (.int .i64 3)).setCell ⟨r, 1, none⟩ (.bool false)).setCell ⟨r, 2, none⟩ (.string (sOf [])) := ⟨_, rfl⟩
      have hw6' : ((w5.setCell ⟨r, 0, none⟩ (.int .i64 3)).setCell ⟨r, 1, none⟩ (.bool false)).setCell ⟨r, 2, none⟩ (.string { data := #[] }) = w6 := hw6.symm
      rw [hw6']
      have hc6 : Chg (One r) w5 w6 := by rw [hw6]; exact (((Chg.refl (One r) w5).setCell (p := ⟨r, 0, none⟩) (fun _ => rfl) _).setCell (p := ⟨r, 1, none⟩) (fun _ => rfl) _).setCell (p := ⟨r, 2, none⟩) (fun _ => rfl) _
      have HR6 : Hid (Blk w6 r 82 #[.int .i64 3, .bool false, .string (sOf [])]) := Lib.hid (by rw [hw6]; exact ((HR5.out.set_ 0 (.int .i64 3)).set_ 1 (.bool false)).set_ 2 (.string (sOf [])))
      have HQ6 := Lib.hid (HQ5.out.chg hc6 (fun h => hqr h))
      have HK6 := Lib.hid (HK5.out.chg hc6 (fun h => hpr h))
      have HW6 := Lib.hid (HW5.out.chg hc6 (fun g hg h => by have h : g = r := h; have := (HF.out g hg).1; have := HQN.out; omega))
      have HB6 := Lib.hid ((HB4.out.trans (HB5.out.mono HB4.out.size)).trans (hc6.below_of (Nat.le_trans HB4.out.size HB5.out.size) (fun g hg h => by have h : g = r := h; have := HQN.out; omega)))
      have HP := Lib.hid (ans_bad (m := m) HNG.out)
      have HAT6 := Lib.hid (CallAt.of_blk HK6.out)
      have t0 : w6.cell? ⟨r, 0, none⟩ = some (.int .i64 3) := HR6.out.cell 0
      have t1 : w6.cell? ⟨r, 1, none⟩ = some (.bool false) := HR6.out.cell 1
      have t2 : w6.cell? ⟨r, 2, none⟩ = some (.string (sOf [])) := HR6.out.cell 2
      have s0 : w6.cell? ⟨q, 0, none⟩ = some (.int .i64 c.er) := HQ6.out.cell 0
      have s1 : w6.cell? ⟨q, 1, none⟩ = some (.bool c.th) := HQ6.out.cell 1
      have s2 : w6.cell? ⟨q, 2, none⟩ = some (.string (sOf c.ans)) := HQ6.out.cell 2
      have k2 : w6.cell? ⟨w.heap.size, 2, none⟩ = some (.int .i64 c.kd) := HK6.out.cell 2
      have q3 : ((sOf c.ans).toList == (sOf []).toList) = decide (c.ans = []) := sOf_eq
      have HEQ : Hid ((c.ans = []) ↔ (c.kd ≠ 1 ∨ c.ans.length = 0)) := Lib.hid (⟨fun h => .inr (by rw [h]; rfl), fun h => h.elim (fun h => absurd HK1.out h) List.eq_nil_of_length_eq_zero⟩)
      clear u0 u1 u2 uf hc6 hw6 hw6'
      rw [HK1.out] at k2
      go_wp2
      all_goals (go_ret; refine ⟨ret_bool ?_, HB6.out⟩; rw [HP.out, ← HEQ.out]; clear t0 t1 t2 s0 s1 s2 k2 q3; first | done | (simp; done) | (simp_all; done) | (simp_all [sOf_list]; done))
    | true =>
      have HGD : Hid (goodE c) := Lib.hid (of_decide_eq_true HGB.out.symm)
      go_upto_region 8 with (first | (refine wpList_load_op rfl (.tmp 37) rfl rfl HAT4.out ?_) | (go_at_call 46; go_loud (refine (good_any F c x w4 HW4.out).mono ?_); rintro e w5 ⟨rfl, hb5⟩; rw [← HGB.out]; have HB5 := Lib.hid hb5; clear hb5))
      have HK5 := Lib.hid (HK4.out.below HB5.out)
      have HQ5 := Lib.hid (HQ4.out.below HB5.out)
      have HR5 := Lib.hid (HR4.out.below HB5.out)
      have HW5 := Lib.hid (HW4.out.below HB5.out)
      have HB6 := Lib.hid (HB4.out.trans (HB5.out.mono HB4.out.size))
      have HAT5 := Lib.hid (CallAt.of_blk HK5.out)
      have t0 : w5.cell? ⟨r, 0, none⟩ = some (.int .i64 0) := HR5.out.cell 0
      have t1 : w5.cell? ⟨r, 1, none⟩ = some (.bool tb) := HR5.out.cell 1
      have t2 : w5.cell? ⟨r, 2, none⟩ = some (.string (sOf vv)) := HR5.out.cell 2
      have s0 : w5.cell? ⟨q, 0, none⟩ = some (.int .i64 c.er) := HQ5.out.cell 0
      have s1 : w5.cell? ⟨q, 1, none⟩ = some (.bool c.th) := HQ5.out.cell 1
      have s2 : w5.cell? ⟨q, 2, none⟩ = some (.string (sOf c.ans)) := HQ5.out.cell 2
      have k2 : w5.cell? ⟨w.heap.size, 2, none⟩ = some (.int .i64 c.kd) := HK5.out.cell 2
      have q3 : ((sOf c.ans).toList == (sOf vv).toList) = decide (c.ans = vv) := sOf_eq
      have HP := Lib.hid (ans_get (m := m) HGD.out HK1.out)
      clear v0 v1 v2
      rw [HK1.out] at k2
      go_wp2
      all_goals (go_ret; refine ⟨ret_bool ?_, HB6.out⟩; rw [HP.out, ← HTB.out, ← HVV.out]; clear t0 t1 t2 s0 s1 s2 k2 q3; first | done | (simp; done) | (simp_all; done) | (simp_all [sOf_list]; done))
  · have HN1 := Lib.hid hk1
    have hk1' : (c.kd == 1) = false := by simpa using hk1
    have HQ4 := HQ3
    have HR4 := HR3
    have HK4 := HK3
    have HW4 := HW3
    have HB4 := HB3
    obtain ⟨w4, hw4⟩ : ∃ W, W = w3 := ⟨_, rfl⟩
    rw [← hw4] at HQ4 HR4 HK4 HW4 HB4 z2 ⊢
    clear hk1 hw4
    go_upto_region 6 with fail
    clear hk1'
    clear z2
    by_cases hk2 : c.kd = 2
    · have HKD := Lib.hid hk2
      have hq5 : ((sOf []).toList == ({ data := #[] } : ByteArray).toList) = true := by rw [show ({ data := #[] } : ByteArray) = sOf [] from rfl, sOf_eq]; simp
      clear hk2
      have HAT4 := Lib.hid (CallAt.of_blk HK4.out)
      have v0 : w4.cell? ⟨r, 0, none⟩ = some (.int .i64 0) := HR4.out.cell 0
      have v1 : w4.cell? ⟨r, 1, none⟩ = some (.bool tb) := HR4.out.cell 1
      have v2 : w4.cell? ⟨r, 2, none⟩ = some (.string (sOf ([] : List UInt8))) := HR4.out.cell 2
      cases gb with
      | false =>
        have HNG : Hid (¬ goodE c) := Lib.hid (of_decide_eq_false HGB.out.symm)
        go_upto_region 7 with (first | (refine wpList_load_op rfl (.tmp 37) rfl rfl HAT4.out ?_) | (go_at_call 46; go_loud (refine (good_any F c x w4 HW4.out).mono ?_); rintro e w5 ⟨rfl, hb5⟩; rw [← HGB.out]; have HB5 := Lib.hid hb5; clear hb5))
        have HK5 := Lib.hid (HK4.out.below HB5.out)
        have HQ5 := Lib.hid (HQ4.out.below HB5.out)
        have HR5 := Lib.hid (HR4.out.below HB5.out)
        have HW5 := Lib.hid (HW4.out.below HB5.out)
        have u0 : w5.cell? ⟨r, 0, none⟩ = some (.int .i64 0) := HR5.out.cell 0
        have u1 : w5.cell? ⟨r, 1, none⟩ = some (.bool tb) := HR5.out.cell 1
        have u2 : w5.cell? ⟨r, 2, none⟩ = some (.string (sOf ([] : List UInt8))) := HR5.out.cell 2
        have uf := HR5.out.frozen
        clear v0 v1 v2
        go_upto_region 8 with fail
        obtain ⟨w6, hw6⟩ : ∃ W, W = ((w5.setCell ⟨r, 0, none⟩ (.int .i64 3)).setCell ⟨r, 1, none⟩ (.bool false)).setCell ⟨r, 2, none⟩ (.string (sOf [])) := ⟨_, rfl⟩
        have hw6' : ((w5.setCell ⟨r, 0, none⟩ (.int .i64 3)).setCell ⟨r, 1, none⟩ (.bool false)).setCell ⟨r, 2, none⟩ (.string { data := #[] }) = w6 := hw6.symm
        rw [hw6']
        have hc6 : Chg (One r) w5 w6 := by rw [hw6]; exact (((Chg.refl (One r) w5).setCell (p := ⟨r, 0, none⟩) (fun _ => rfl) _).setCell (p := ⟨r, 1, none⟩) (fun _ => rfl) _).setCell (p := ⟨r, 2, none⟩) (fun _ => rfl) _
        have HR6 : Hid (Blk w6 r 82 #[.int .i64 3, .bool false, .string (sOf [])]) := Lib.hid (by rw [hw6]; exact ((HR5.out.set_ 0 (.int .i64 3)).set_ 1 (.bool false)).set_ 2 (.string (sOf [])))
        have HQ6 := Lib.hid (HQ5.out.chg hc6 (fun h => hqr h))
        have HK6 := Lib.hid (HK5.out.chg hc6 (fun h => hpr h))
        have HW6 := Lib.hid (HW5.out.chg hc6 (fun g hg h => by have h : g = r := h; have := (HF.out g hg).1; have := HQN.out; omega))
        have HB6 := Lib.hid ((HB4.out.trans (HB5.out.mono HB4.out.size)).trans (hc6.below_of (Nat.le_trans HB4.out.size HB5.out.size) (fun g hg h => by have h : g = r := h; have := HQN.out; omega)))
        have HP := Lib.hid (ans_bad (m := m) HNG.out)
        have HAT6 := Lib.hid (CallAt.of_blk HK6.out)
        have t0 : w6.cell? ⟨r, 0, none⟩ = some (.int .i64 3) := HR6.out.cell 0
        have t1 : w6.cell? ⟨r, 1, none⟩ = some (.bool false) := HR6.out.cell 1
        have t2 : w6.cell? ⟨r, 2, none⟩ = some (.string (sOf [])) := HR6.out.cell 2
        have s0 : w6.cell? ⟨q, 0, none⟩ = some (.int .i64 c.er) := HQ6.out.cell 0
        have s1 : w6.cell? ⟨q, 1, none⟩ = some (.bool c.th) := HQ6.out.cell 1
        have s2 : w6.cell? ⟨q, 2, none⟩ = some (.string (sOf ([] : List UInt8))) := HQ6.out.cell 2
        have k2 : w6.cell? ⟨w.heap.size, 2, none⟩ = some (.int .i64 c.kd) := HK6.out.cell 2
        have q3 : ((sOf ([] : List UInt8)).toList == (sOf []).toList) = decide (([] : List UInt8) = []) := sOf_eq
        have HEQ : Hid ((([] : List UInt8) = []) ↔ (c.kd ≠ 1 ∨ c.ans.length = 0)) := Lib.hid (⟨fun _ => .inl (by rw [HKD.out]; simp), fun _ => rfl⟩)
        clear u0 u1 u2 uf hc6 hw6 hw6'
        rw [HKD.out] at k2
        go_wp2_with (first | (refine wpList_load_opw (by kernel_rfl) (.tmp 47) rfl rfl HAT6.out ?_) | (go_at_call 46; go_loud (refine (good_any F c x w6 HW6.out).mono ?_); rintro e w7 ⟨rfl, hb7⟩; rw [← HGB.out]; have HB7 := Lib.hid (HB6.out.trans (hb7.mono HB6.out.size)); have s0 := bkeep hb7 s0; have s1 := bkeep hb7 s1; have s2 := bkeep hb7 s2; have t0 := bkeep hb7 t0; have t1 := bkeep hb7 t1; have t2 := bkeep hb7 t2; clear hb7))
        all_goals (go_ret; refine ⟨ret_bool ?_, HB7.out⟩; rw [HP.out, ← HEQ.out]; clear t0 t1 t2 s0 s1 s2 k2 q3; first | done | (simp; done) | (simp_all; done) | (simp_all [sOf_list]; done))
      | true =>
        have HGD : Hid (goodE c) := Lib.hid (of_decide_eq_true HGB.out.symm)
        go_upto_region 8 with (first | (refine wpList_load_op rfl (.tmp 37) rfl rfl HAT4.out ?_) | (go_at_call 46; go_loud (refine (good_any F c x w4 HW4.out).mono ?_); rintro e w5 ⟨rfl, hb5⟩; rw [← HGB.out]; have HB5 := Lib.hid hb5; clear hb5))
        have HK5 := Lib.hid (HK4.out.below HB5.out)
        have HQ5 := Lib.hid (HQ4.out.below HB5.out)
        have HR5 := Lib.hid (HR4.out.below HB5.out)
        have HW5 := Lib.hid (HW4.out.below HB5.out)
        have HB6 := Lib.hid (HB4.out.trans (HB5.out.mono HB4.out.size))
        have HAT5 := Lib.hid (CallAt.of_blk HK5.out)
        have t0 : w5.cell? ⟨r, 0, none⟩ = some (.int .i64 0) := HR5.out.cell 0
        have t1 : w5.cell? ⟨r, 1, none⟩ = some (.bool tb) := HR5.out.cell 1
        have t2 : w5.cell? ⟨r, 2, none⟩ = some (.string (sOf ([] : List UInt8))) := HR5.out.cell 2
        have s0 : w5.cell? ⟨q, 0, none⟩ = some (.int .i64 c.er) := HQ5.out.cell 0
        have s1 : w5.cell? ⟨q, 1, none⟩ = some (.bool c.th) := HQ5.out.cell 1
        have s2 : w5.cell? ⟨q, 2, none⟩ = some (.string (sOf ([] : List UInt8))) := HQ5.out.cell 2
        have k2 : w5.cell? ⟨w.heap.size, 2, none⟩ = some (.int .i64 c.kd) := HK5.out.cell 2
        have q3 : ((sOf ([] : List UInt8)).toList == (sOf ([] : List UInt8)).toList) = decide (([] : List UInt8) = ([] : List UInt8)) := sOf_eq
        have HP := Lib.hid (ans_put2 (m := m) HGD.out HKD.out)
        clear v0 v1 v2
        rw [HKD.out] at k2
        go_wp2_with (first | (refine wpList_load_opw (by kernel_rfl) (.tmp 47) rfl rfl HAT5.out ?_) | (go_at_call 46; go_loud (refine (good_any F c x w5 HW5.out).mono ?_); rintro e w7 ⟨rfl, hb7⟩; rw [← HGB.out]; have HB7 := Lib.hid (HB6.out.trans (hb7.mono HB6.out.size)); have s0 := bkeep hb7 s0; have s1 := bkeep hb7 s1; have s2 := bkeep hb7 s2; have t0 := bkeep hb7 t0; have t1 := bkeep hb7 t1; have t2 := bkeep hb7 t2; clear hb7))
        all_goals (go_ret; refine ⟨ret_bool ?_, HB7.out⟩; rw [HP.out, ← HTB.out]; clear t0 t1 t2 s0 s1 s2 k2 q3 hq5; first | done | (simp; done) | (simp_all; done) | (simp_all [sOf_list]; done))
    · have HN2 := Lib.hid hk2
      have hk2' : (c.kd == 2) = false := by simpa using hk2
      clear hk2
      have HAT4 := Lib.hid (CallAt.of_blk HK4.out)
      have v0 : w4.cell? ⟨r, 0, none⟩ = some (.int .i64 0) := HR4.out.cell 0
      have v1 : w4.cell? ⟨r, 1, none⟩ = some (.bool tb) := HR4.out.cell 1
      have v2 : w4.cell? ⟨r, 2, none⟩ = some (.string (sOf ([] : List UInt8))) := HR4.out.cell 2
      cases gb with
      | false =>
        have HNG : Hid (¬ goodE c) := Lib.hid (of_decide_eq_false HGB.out.symm)
        go_upto_region 7 with (first | (refine wpList_load_op rfl (.tmp 37) rfl rfl HAT4.out ?_) | (go_at_call 46; go_loud (refine (good_any F c x w4 HW4.out).mono ?_); rintro e w5 ⟨rfl, hb5⟩; rw [← HGB.out]; have HB5 := Lib.hid hb5; clear hb5))
        have HK5 := Lib.hid (HK4.out.below HB5.out)
        have HQ5 := Lib.hid (HQ4.out.below HB5.out)
        have HR5 := Lib.hid (HR4.out.below HB5.out)
        have HW5 := Lib.hid (HW4.out.below HB5.out)
        have u0 : w5.cell? ⟨r, 0, none⟩ = some (.int .i64 0) := HR5.out.cell 0
        have u1 : w5.cell? ⟨r, 1, none⟩ = some (.bool tb) := HR5.out.cell 1
        have u2 : w5.cell? ⟨r, 2, none⟩ = some (.string (sOf ([] : List UInt8))) := HR5.out.cell 2
        have uf := HR5.out.frozen
        clear v0 v1 v2
        go_upto_region 8 with fail
        obtain ⟨w6, hw6⟩ : ∃ W, W = ((w5.setCell ⟨r, 0, none⟩ (.int .i64 3)).setCell ⟨r, 1, none⟩ (.bool false)).setCell ⟨r, 2, none⟩ (.string (sOf [])) := ⟨_, rfl⟩
        have hw6' : ((w5.setCell ⟨r, 0, none⟩ (.int .i64 3)).setCell ⟨r, 1, none⟩ (.bool false)).setCell ⟨r, 2, none⟩ (.string { data := #[] }) = w6 := hw6.symm
        rw [hw6']
        have hc6 : Chg (One r) w5 w6 := by rw [hw6]; exact (((Chg.refl (One r) w5).setCell (p := ⟨r, 0, none⟩) (fun _ => rfl) _).setCell (p := ⟨r, 1, none⟩) (fun _ => rfl) _).setCell (p := ⟨r, 2, none⟩) (fun _ => rfl) _
        have HR6 : Hid (Blk w6 r 82 #[.int .i64 3, .bool false, .string (sOf [])]) := Lib.hid (by rw [hw6]; exact ((HR5.out.set_ 0 (.int .i64 3)).set_ 1 (.bool false)).set_ 2 (.string (sOf [])))
        have HQ6 := Lib.hid (HQ5.out.chg hc6 (fun h => hqr h))
        have HK6 := Lib.hid (HK5.out.chg hc6 (fun h => hpr h))
        have HW6 := Lib.hid (HW5.out.chg hc6 (fun g hg h => by have h : g = r := h; have := (HF.out g hg).1; have := HQN.out; omega))
        have HB6 := Lib.hid ((HB4.out.trans (HB5.out.mono HB4.out.size)).trans (hc6.below_of (Nat.le_trans HB4.out.size HB5.out.size) (fun g hg h => by have h : g = r := h; have := HQN.out; omega)))
        have HP := Lib.hid (ans_bad (m := m) HNG.out)
        have HAT6 := Lib.hid (CallAt.of_blk HK6.out)
        have t0 : w6.cell? ⟨r, 0, none⟩ = some (.int .i64 3) := HR6.out.cell 0
        have t1 : w6.cell? ⟨r, 1, none⟩ = some (.bool false) := HR6.out.cell 1
        have t2 : w6.cell? ⟨r, 2, none⟩ = some (.string (sOf [])) := HR6.out.cell 2
        have s0 : w6.cell? ⟨q, 0, none⟩ = some (.int .i64 c.er) := HQ6.out.cell 0
        have s1 : w6.cell? ⟨q, 1, none⟩ = some (.bool c.th) := HQ6.out.cell 1
        have s2 : w6.cell? ⟨q, 2, none⟩ = some (.string (sOf ([] : List UInt8))) := HQ6.out.cell 2
        have k2 : w6.cell? ⟨w.heap.size, 2, none⟩ = some (.int .i64 c.kd) := HK6.out.cell 2
        have q3 : ((sOf ([] : List UInt8)).toList == (sOf []).toList) = decide (([] : List UInt8) = []) := sOf_eq
        have HEQ : Hid ((([] : List UInt8) = []) ↔ (c.kd ≠ 1 ∨ c.ans.length = 0)) := Lib.hid (⟨fun _ => .inl HN1.out, fun _ => rfl⟩)
        clear u0 u1 u2 uf hc6 hw6 hw6'
        skip
        go_wp2
        all_goals (go_ret; refine ⟨ret_bool ?_, HB6.out⟩; rw [HP.out, ← HEQ.out]; clear t0 t1 t2 s0 s1 s2 k2 q3; first | done | (simp; done) | (simp_all; done) | (simp_all [sOf_list]; done))
      | true =>
        have HGD : Hid (goodE c) := Lib.hid (of_decide_eq_true HGB.out.symm)
        go_upto_region 8 with (first | (refine wpList_load_op rfl (.tmp 37) rfl rfl HAT4.out ?_) | (go_at_call 46; go_loud (refine (good_any F c x w4 HW4.out).mono ?_); rintro e w5 ⟨rfl, hb5⟩; rw [← HGB.out]; have HB5 := Lib.hid hb5; clear hb5))
        have HK5 := Lib.hid (HK4.out.below HB5.out)
        have HQ5 := Lib.hid (HQ4.out.below HB5.out)
        have HR5 := Lib.hid (HR4.out.below HB5.out)
        have HW5 := Lib.hid (HW4.out.below HB5.out)
        have HB6 := Lib.hid (HB4.out.trans (HB5.out.mono HB4.out.size))
        have HAT5 := Lib.hid (CallAt.of_blk HK5.out)
        have t0 : w5.cell? ⟨r, 0, none⟩ = some (.int .i64 0) := HR5.out.cell 0
        have t1 : w5.cell? ⟨r, 1, none⟩ = some (.bool tb) := HR5.out.cell 1
        have t2 : w5.cell? ⟨r, 2, none⟩ = some (.string (sOf ([] : List UInt8))) := HR5.out.cell 2
        have s0 : w5.cell? ⟨q, 0, none⟩ = some (.int .i64 c.er) := HQ5.out.cell 0
        have s1 : w5.cell? ⟨q, 1, none⟩ = some (.bool c.th) := HQ5.out.cell 1
        have s2 : w5.cell? ⟨q, 2, none⟩ = some (.string (sOf ([] : List UInt8))) := HQ5.out.cell 2
        have k2 : w5.cell? ⟨w.heap.size, 2, none⟩ = some (.int .i64 c.kd) := HK5.out.cell 2
        have q3 : ((sOf ([] : List UInt8)).toList == (sOf ([] : List UInt8)).toList) = decide (([] : List UInt8) = ([] : List UInt8)) := sOf_eq
        have HP := Lib.hid (ans_else (m := m) HGD.out HN1.out (fun h => HN2.out h.1))
        clear v0 v1 v2
        skip
        go_wp2
        all_goals (go_ret; refine ⟨ret_bool ?_, HB6.out⟩; rw [HP.out, ← HTB.out]; clear t0 t1 t2 s0 s1 s2 k2 q3; first | done | (simp; done) | (simp_all; done) | (simp_all [sOf_list]; done))
end Go.Proofs.Ytpbnngfiinihmaa

namespace Go.Proofs
open Go.Shelf
def Try.keys48_ren : Go.Shelf.Ren := ⟨fun | 7 => 48 | 10 => 61 | n => n, fun | 23 => 53 | 26 => 9 | 3 => 36 | 28 => 87 | 0 => 0 | 27 => 86 | 33 => 97 | 4 => 4 | n => n, fun | n => n⟩
theorem Try.keys48 : Go.Proofs.SlLaysZ.n7 Try.prog Try.keys48_ren := {
  mixed := by kernel_rfl
  f7 := ⟨Try.f48.name, by decide, Try.func48.trans (congrArg some (by kernel_rfl))⟩
  f10 := ⟨Try.f61.name, by decide, Try.func61.trans (congrArg some (by kernel_rfl))⟩
  t0 := Try.underlying0
  a0 := Try.isAgg0
  z0 := Try.sizeOf0
  v0 := Try.zeroValue0
  t4 := Try.underlying4
  a4 := Try.isAgg4
  z4 := Try.sizeOf4
  v4 := Try.zeroValue4
  t23 := Try.underlying53
  a23 := Try.isAgg53
  z23 := Try.sizeOf53
  v23 := Try.zeroValue53
  t26 := Try.underlying9
  a26 := Try.isAgg9
  z26 := Try.sizeOf9
  v26 := Try.zeroValue9
  t27 := Try.underlying86
  a27 := Try.isAgg86
  z27 := Try.sizeOf86
  v27 := Try.zeroValue86
  t28 := Try.underlying87
  a28 := Try.isAgg87
  z28 := Try.sizeOf87
  v28 := Try.zeroValue87
  t33 := Try.underlying97
  a33 := Try.isAgg97
  z33 := Try.sizeOf97
  v33 := Try.zeroValue97 }
def Try.sorted47_ren : Go.Shelf.Ren := ⟨fun | 6 => 47 | 8 => 59 | 9 => 60 | 11 => 65 | 13 => 67 | 12 => 66 | 23 => 78 | 24 => 79 | 14 => 69 | 15 => 70 | 16 => 71 | 17 => 72 | 18 => 73 | 19 => 74 | 20 => 75 | 21 => 76 | 22 => 77 | 25 => 80 | 26 => 81 | 27 => 82 | 28 => 83 | 29 => 84 | 30 => 85 | 31 => 86 | n => n, fun | 26 => 9 | 28 => 87 | 24 => 84 | 0 => 0 | 3 => 3 | 37 => 98 | 48 => 112 | 50 => 114 | 4 => 4 | 40 => 104 | 39 => 103 | 45 => 109 | 5 => 5 | 9 => 9 | 51 => 115 | 55 => 119 | 57 => 121 | 58 => 122 | 33 => 97 | n => n, fun | n => n⟩
theorem Try.sorted47 : Go.Proofs.SlLaysZ.n6 Try.prog Try.sorted47_ren := {
  mixed := by kernel_rfl
  f6 := ⟨Try.f47.name, by decide, Try.func47.trans (congrArg some (by kernel_rfl))⟩
  f8 := ⟨Try.f59.name, by decide, Try.func59.trans (congrArg some (by kernel_rfl))⟩
  f11 := ⟨Try.f65.name, by decide, Try.func65.trans (congrArg some (by kernel_rfl))⟩
  t0 := Try.underlying0
  a0 := Try.isAgg0
  z0 := Try.sizeOf0
  v0 := Try.zeroValue0
  t24 := Try.underlying84
  a24 := Try.isAgg84
  z24 := Try.sizeOf84
  v24 := Try.zeroValue84
  t26 := Try.underlying9
  a26 := Try.isAgg9
  z26 := Try.sizeOf9
  v26 := Try.zeroValue9
  t28 := Try.underlying87
  a28 := Try.isAgg87
  z28 := Try.sizeOf87
  v28 := Try.zeroValue87
  i26 := by kernel_rfl }
def Try.sort60_ren : Go.Shelf.Ren := ⟨fun | 6 => 60 | 8 => 67 | 9 => 66 | 19 => 78 | 20 => 79 | 21 => 69 | 22 => 70 | 23 => 71 | 24 => 72 | 25 => 73 | 26 => 74 | 27 => 75 | 28 => 76 | 29 => 77 | 36 => 80 | 31 => 81 | 32 => 82 | 37 => 83 | 38 => 84 | 39 => 85 | 41 => 86 | n => n, fun | 27 => 84 | 29 => 9 | 3 => 3 | 32 => 98 | 26 => 84 | 0 => 0 | 44 => 112 | 46 => 114 | 4 => 4 | 36 => 104 | 35 => 103 | 41 => 109 | 5 => 5 | 9 => 9 | 53 => 115 | 57 => 119 | 63 => 121 | 64 => 122 | n => n, fun | n => n⟩
theorem Try.sort60 : Go.Proofs.SlLaysM.n6 Try.prog Try.sort60_ren := {
  mixed := by kernel_rfl
  f6 := ⟨Try.f60.name, by decide, Try.func60.trans (congrArg some (by kernel_rfl))⟩
  f8 := Try.func67.trans (congrArg some (by kernel_rfl))
  f9 := ⟨Try.f66.name, by decide, Try.func66.trans (congrArg some (by kernel_rfl))⟩
  f19 := Try.func78.trans (congrArg some (by kernel_rfl))
  f20 := Try.func79.trans (congrArg some (by kernel_rfl))
  f21 := ⟨Try.f69.name, by decide, Try.func69.trans (congrArg some (by kernel_rfl))⟩
  f22 := ⟨Try.f70.name, by decide, Try.func70.trans (congrArg some (by kernel_rfl))⟩
  f23 := ⟨Try.f71.name, by decide, Try.func71.trans (congrArg some (by kernel_rfl))⟩
  f24 := ⟨Try.f72.name, by decide, Try.func72.trans (congrArg some (by kernel_rfl))⟩
  f25 := ⟨Try.f73.name, by decide, Try.func73.trans (congrArg some (by kernel_rfl))⟩
  f26 := ⟨Try.f74.name, by decide, Try.func74.trans (congrArg some (by kernel_rfl))⟩
  f27 := ⟨Try.f75.name, by decide, Try.func75.trans (congrArg some (by kernel_rfl))⟩
  f28 := ⟨Try.f76.name, by decide, Try.func76.trans (congrArg some (by kernel_rfl))⟩
  f29 := ⟨Try.f77.name, by decide, Try.func77.trans (congrArg some (by kernel_rfl))⟩
  f31 := Try.func81.trans (congrArg some (by kernel_rfl))
  f32 := Try.func82.trans (congrArg some (by kernel_rfl))
  f36 := ⟨Try.f80.name, by decide, Try.func80.trans (congrArg some (by kernel_rfl))⟩
  f37 := ⟨Try.f83.name, by decide, Try.func83.trans (congrArg some (by kernel_rfl))⟩
  f38 := ⟨Try.f84.name, by decide, Try.func84.trans (congrArg some (by kernel_rfl))⟩
  f39 := ⟨Try.f85.name, by decide, Try.func85.trans (congrArg some (by kernel_rfl))⟩
  f41 := ⟨Try.f86.name, by decide, Try.func86.trans (congrArg some (by kernel_rfl))⟩
  t0 := Try.underlying0
  a0 := Try.isAgg0
  z0 := Try.sizeOf0
  v0 := Try.zeroValue0
  t3 := Try.underlying3
  a3 := Try.isAgg3
  z3 := Try.sizeOf3
  v3 := Try.zeroValue3
  t4 := Try.underlying4
  a4 := Try.isAgg4
  z4 := Try.sizeOf4
  v4 := Try.zeroValue4
  t5 := Try.underlying5
  a5 := Try.isAgg5
  z5 := Try.sizeOf5
  v5 := Try.zeroValue5
  t9 := Try.underlying9
  a9 := Try.isAgg9
  z9 := Try.sizeOf9
  v9 := Try.zeroValue9
  t26 := Try.underlying84
  a26 := Try.isAgg84
  z26 := Try.sizeOf84
  v26 := Try.zeroValue84
  t27 := Try.underlying84
  a27 := Try.isAgg84
  z27 := Try.sizeOf84
  v27 := Try.zeroValue84
  t29 := Try.underlying9
  a29 := Try.isAgg9
  z29 := Try.sizeOf9
  v29 := Try.zeroValue9
  t32 := Try.underlying98
  a32 := Try.isAgg98
  z32 := Try.sizeOf98
  v32 := Try.zeroValue98
  t35 := Try.underlying103
  a35 := Try.isAgg103
  z35 := Try.sizeOf103
  v35 := Try.zeroValue103
  t36 := Try.underlying104
  a36 := Try.isAgg104
  z36 := Try.sizeOf104
  v36 := Try.zeroValue104
  t41 := Try.underlying109
  a41 := Try.isAgg109
  z41 := Try.sizeOf109
  v41 := Try.zeroValue109
  t44 := Try.underlying112
  a44 := Try.isAgg112
  z44 := Try.sizeOf112
  v44 := Try.zeroValue112
  t46 := Try.underlying114
  a46 := Try.isAgg114
  z46 := Try.sizeOf114
  v46 := Try.zeroValue114
  t53 := Try.underlying115
  a53 := Try.isAgg115
  z53 := Try.sizeOf115
  v53 := Try.zeroValue115
  t57 := Try.underlying119
  a57 := Try.isAgg119
  z57 := Try.sizeOf119
  v57 := Try.zeroValue119
  t63 := Try.underlying121
  a63 := Try.isAgg121
  z63 := Try.sizeOf121
  v63 := Try.zeroValue121
  t64 := Try.underlying122
  a64 := Try.isAgg122
  z64 := Try.sizeOf122
  v64 := Try.zeroValue122 }
end Go.Proofs

namespace Go.Proofs.Ytpbnngfiinihmaa
open Go.RowKit Go.Maps Go.Sort Go.Shelf
open Go.Lib (compareBytes)
theorem sorts_in (m : Nat) : AnyZ.SortsIn Try.prog Try.sorted47_ren Fence.wide m :=
  ⟨fun blk off cap ss W hH hblk hsz => callsIn_wide.2 (AnyM.slices_Sort_string Try.sort60 blk off cap ss W hH hblk hsz),
   fun p cap W => callsIn_wide.2 (AnyM.slices_Sort_string_none Try.sort60 p cap W)⟩
theorem keys_call (mb : Option Nat) (W : World) : Calls Try.prog 48 #[.map mb] W fun e w' => e = .returned (.func (.func 61) #[] #[.pointer (some ⟨W.heap.size, 0, none⟩)]) ∧ w' = W.alloc (.cells #[.map mb] 53) :=
  (callsIn_wide (n := 5)).1 (AnyZ.keys_in Try.keys48 Fence.wide 5 trivial rfl mb W)
set_option maxHeartbeats 1000000 in
theorem sorted_call {H : Type} (b nn : Nat) (D0 : DataW H) (R : Value → Option (DataW H × List MemPlace)) (w : World) (hown : w.ownsMap Try.prog 9 R b nn D0) (hmax : Maps.size D0 ≤ maxLen) (hbytes : Maps.size D0 * 16 ≤ 140737488355328) :
    Calls Try.prog 47 #[.func (.func 61) #[] #[.pointer (some ⟨w.heap.size, 0, none⟩)]] (w.alloc (.cells #[.map (some b)] 53)) fun e w' => ∃ (v : Value) (ss : List (List UInt8)), e = .returned v ∧ ss.Perm (strKeys D0) ∧
      w'.ownsRow (w.alloc (.cells #[.map (some b)] 53)).heap.size 9 1 v ss.length ((ss.mergeSort (fun x y => decide (x ≤ y))).map encStr) ∧ (v = .slice none 0 0 ↔ ss = []) ∧ Below (w.alloc (.cells #[.map (some b)] 53)).heap.size (w.alloc (.cells #[.map (some b)] 53)) w' := by
  refine (callsIn_wide (n := 5)).1 ?_
  have hbl := hown.lt
  have hseq : SeqGives Fence.wide 2 Try.prog 61 #[.pointer (some ⟨w.heap.size, 0, none⟩)] encStr (fun ss => ss.Perm (strKeys D0)) (Maps.size D0) (w.alloc (.cells #[.map (some b)] 53)) :=
    AnyZ.keys_gives (ρ := Try.keys48_ren) { Try.keys48 with } Fence.wide _ trivial rfl (by omega) w.heap.size b nn D0 _ (by simp) (by simp) (by
      obtain ⟨es, clock, hb, Ft, hs, hD⟩ := hown
      exact ⟨es, clock, (Below.heap_alloc _ _ b hbl).trans hb, Ft, hs, hD⟩)
  exact AnyZ.sorted_in Try.sorted47 Fence.wide 5 trivial trivial trivial trivial rfl (by omega) (sorts_in _) (enters_of Try.func60 (by kernel_rfl) rfl) 61 #[.pointer (some ⟨w.heap.size, 0, none⟩)] trivial (enters_of Try.func61 (by kernel_rfl) rfl) _ _ hmax hbytes _ hseq
theorem le_of_cb : ∀ (a b : List UInt8), compareBytes a b < 0 → a ≤ b
  | [], _, _ => List.nil_le _
  | _ :: _, [], h => by simp [compareBytes] at h
  | x :: a, y :: b, h => by
    unfold compareBytes at h
    rw [List.cons_le_cons_iff]
    by_cases h1 : x < y
    · exact .inl h1
    · rw [if_neg h1] at h
      by_cases h2 : y < x
      · rw [if_pos h2] at h; omega
      · rw [if_neg h2] at h
        refine .inr ⟨?_, le_of_cb a b h⟩
        have n1 : ¬ x.toNat < y.toNat := fun h => h1 (UInt8.lt_iff_toNat_lt.2 h)
        have n2 : ¬ y.toNat < x.toNat := fun h => h2 (UInt8.lt_iff_toNat_lt.2 h)
        exact UInt8.toNat.inj (by omega)
/-- the keys of a table are those of its list; sorted, they stand as there -/
theorem TabM.keys {w : World} {b n : Nat} {F : Nat → Prop} {m : List Ent} (hu : Up m) {D : DataW Value} (hD : w.ownsMap Try.prog 9 rawE b n D) (hc : ∀ k, has D (kl k) = (hasE m k).isSome) {ss : List (List UInt8)} (hp : ss.Perm (strKeys D)) :
    ss.mergeSort (fun x y => decide (x ≤ y)) = m.map (·.1) ∧ ss.length = m.length := by
  obtain ⟨es, rfl, hne, hkl⟩ := hD.entries strKeyed
  obtain ⟨es', e', hko⟩ := hD.keysOf
  injection e' with e'
  subst e'
  have hstr : ∀ p ∈ es, ∃ x, p.1 = .string x := fun p hp => by
    obtain ⟨v, hv⟩ := hko p hp
    obtain ⟨x, _, hx, _⟩ := Maps.keyOf_str Try.underlying9 hv
    exact ⟨x, hx⟩
  have hnd : (m.map (·.1)).Nodup := by
    have : (m.map (·.1)).Pairwise TLt := List.pairwise_map.2 hu
    exact this.imp (fun h => h.ne)
  have hm : (m.map (·.1)).Perm (strKeys (.map es)) := perm_strKeys hne hstr hnd (fun x => by
    have h1 := hc x
    unfold kl at h1
    rw [h1, List.mem_map]
    constructor
    · rintro ⟨e, he, rfl⟩
      rw [hu.has (k := e.1) (v := e.2) he]; rfl
    · intro h
      cases hh : hasE m x with
      | none => rw [hh] at h; cases h
      | some v => exact ⟨(x, v), hasE_mem hh, rfl⟩)
  have hperm : ss.Perm (m.map (·.1)) := hp.trans hm.symm
  refine ⟨?_, by rw [hperm.length_eq, List.length_map]⟩
  have h1 : ss.mergeSort (fun x y => decide (x ≤ y)) = (m.map (·.1)).mergeSort (fun x y => decide (x ≤ y)) := mergeSort_of_perm hperm
  rw [h1]
  refine List.mergeSort_of_pairwise ?_
  have : (m.map (·.1)).Pairwise TLt := List.pairwise_map.2 hu
  exact this.imp (fun h => by simpa using le_of_cb _ _ h)
end Go.Proofs.Ytpbnngfiinihmaa
