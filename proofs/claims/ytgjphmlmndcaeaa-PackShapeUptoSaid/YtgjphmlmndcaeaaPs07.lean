/- WALKS: a node is laid into a slot of its own (pack). WALKS: the maker's state; nodes laid one by one (pack). WALKS: a list is cut into parts of so many (pack). A slice of entries that reads as a list of pairs of texts. No program in sight. -/
import Derived.Test.YtgjphmlmndcaeaaPs06
import Derived.Test.YtgjphmlmndcaeaaPs05
import Derived.Test.YtgjphmlmndcaeaaPs01
import Derived.Test.YtgjphmlmndcaeaaPs02
set_option linter.unusedVariables false
set_option linter.unusedSimpArgs false
namespace Go.Proofs.Ytgjphmlmndcaeaa
open Go.RowKit
theorem size_of_alloc {S : Nat → Prop} {w w2 : World} {o : Obj} (h : Chg S (w.alloc o) w2) : w.heap.size + 1 ≤ w2.heap.size := by have := h.size; simpa using this
set_option maxRecDepth 100000 in
set_option maxHeartbeats 4000000 in
theorem layAlloc (more : Bool) (F G : Nat → Prop) (p mm : Nat) (nodes root : Int) (sl : List Slt) (nd : Nd) (hA kA vA dA : Option Addr) (hn hc kn kc vn vc dn dc : Nat) (w : World)
    (hx : ArX w F p nodes sl root) (hf : (sl.length : Int) < nodes) (hnn : nodes ≤ 65536) (hm : Blk w mm 132 #[.pointer (some ⟨p, 0, none⟩), .bool false]) (hmF : ¬ F mm)
    (h1 : Bt w G hA hn hc nd.high) (h2 : Tx w G kA kn kc nd.keys) (h3 : Tx w G vA vn vc nd.vals) (h4 : It w G dA dn dc nd.kids) (hG : ∀ b, G b → ¬ F b ∧ b ≠ mm) (hs : Small nd) (rt : Int) (hrt : rt = if more then (sl.length : Int) + 1 + 1 else nd.right) :
    Calls Try.prog 92 #[.pointer (some ⟨mm, 0, none⟩), .agg #[.int .i64 nd.lev, .slice hA hn hc, .int .i64 nd.right, .slice kA kn kc, .slice vA vn vc, .slice dA dn dc], .bool more] w
      (LaidNode w F p mm nodes root (sl ++ [(2, ⟨nd.lev, nd.high, rt, nd.keys, nd.vals, nd.kids⟩)]) ((sl.length : Int) + 1)) := by
  have b1 : Below w.heap.size w (w.alloc (.cells #[.int .i64 nd.lev, .slice hA hn hc, .int .i64 nd.right, .slice kA kn kc, .slice vA vn vc, .slice dA dn dc] 93)) := (Below.refl _ _).alloc (Nat.le_refl _) _
  have HX := Lib.hid ((show ArX w (Soft0 F w) p nodes _ root from hx.lt).below b1)
  have HM := Lib.hid (hm.below b1)
  have HB := Lib.hid (Blk.new w 93 #[.int .i64 nd.lev, .slice hA hn hc, .int .i64 nd.right, .slice kA kn kc, .slice vA vn vc, .slice dA dn dc])
  obtain ⟨m0, m1, mf⟩ : (w.alloc (.cells #[.int .i64 nd.lev, .slice hA hn hc, .int .i64 nd.right, .slice kA kn kc, .slice vA vn vc, .slice dA dn dc] 93)).cell? ⟨mm, 0, none⟩ = some (.pointer (some ⟨p, 0, none⟩)) ∧ (w.alloc (.cells #[.int .i64 nd.lev, .slice hA hn hc, .int .i64 nd.right, .slice kA kn kc, .slice vA vn vc, .slice dA dn dc] 93)).cell? ⟨mm, 1, none⟩ = some (.bool false) ∧ SoftAt w mm :=
    ⟨by rw [HM.out.cell]; rfl, by rw [HM.out.cell]; rfl, hm.soft⟩
  have hml := hm.lt
  have H1 := Lib.hid (show Bt w (Soft0 G w) hA hn hc nd.high from h1.lt)
  have H2 := Lib.hid (show Tx w (Soft0 G w) kA kn kc nd.keys from h2.lt)
  have H3 := Lib.hid (show Tx w (Soft0 G w) vA vn vc nd.vals from h3.lt)
  have H4 := Lib.hid (show It w (Soft0 G w) dA dn dc nd.kids from h4.lt)
  have HS := Lib.hid hs
  clear hx hm h1 h2 h3 h4 hs
  have AL := Lib.hid (alloc_ok (Soft0 F w) p nodes root sl _ HX.out hf hnn)
  cases more
  · go_enter Try.func92, Try.ntmps92
    go_wp2_with (first | (go_at_call 105; go_loud (refine AL.out.mono ?_; rintro e w2 ⟨rfl, hx2, hc2⟩; have HX2 := Lib.hid hx2.grown; have HC2 := Lib.hid hc2; have HM2 := Lib.hid (HM.out.chg hc2 (fun h => hmF h.1)); have HB2 := Lib.hid (HB.out.chg hc2 (fun h => by have := h.2; omega)); have z2 : w.heap.size + 1 ≤ w2.heap.size := size_of_alloc hc2; have n2 : w2.cell? ⟨w.heap.size, 2, none⟩ = some (.int .i64 nd.right) := (HB2.out.cell _).trans rfl; have nf2 : ∀ o, w2.frozen? ⟨w.heap.size, o, none⟩ = false := HB2.out.frozen; have e1 := IntWalk.i64_in ((sl.length : Int) + 1 + 1) (by omega); clear hx2 hc2)))
    have HMV := HM2
    have HBV := HB2
    have HXV := HX2
    have HCV : Hid (Chg (fun b => (Soft0 F w b ∨ b = mm) ∨ w.heap.size ≤ b) w w2) := Lib.hid ((Chg.of_below b1).trans HC2.out (fun b _ h => .inl (.inl h)))
    have hI1 : (1 : Int) ≤ (sl.length : Int) + 1 := by omega
    have hI2 : ((sl.length : Int) + 1) ≤ ((sl ++ [(1, Nd.zero)] : List Slt).length : Int) := by simp
    have hI3 : (sl ++ [(1, Nd.zero)] : List Slt).length ≤ 65536 := by simp; omega
    have hS0 : ((sl.length : Int) + 1).toNat - 1 = sl.length := by omega
    have hS1 : (sl ++ [(1, Nd.zero)] : List Slt)[((sl.length : Int) + 1).toNat - 1]? = some (1, Nd.zero) := by rw [hS0]; simp
    have hfin : (sl ++ [(1, Nd.zero)] : List Slt).set (((sl.length : Int) + 1).toNat - 1) (2, ⟨nd.lev, nd.high, nd.right, nd.keys, nd.vals, nd.kids⟩) = sl ++ [(2, ⟨nd.lev, nd.high, rt, nd.keys, nd.vals, nd.kids⟩)] := by rw [hrt, hS0]; simp
    have fv : ∀ b, Grown (Soft0 F w) (w.alloc (.cells #[.int .i64 nd.lev, .slice hA hn hc, .int .i64 nd.right, .slice kA kn kc, .slice vA vn vc, .slice dA dn dc] 93)) w2 b → Soft0 F w b ∨ (w.heap.size < b ∧ b < (w2).heap.size) := fun b h => h.elim .inl (fun h => by have h1 := h.1; have h2 := h.2; simp at h1; exact .inr ⟨by omega, by exact h2⟩)
    clear b1 HX HM HB HX2 HC2 HM2 HB2 n2 nf2 m0 m1 mf AL
    obtain ⟨FV, hFV⟩ : ∃ FV, FV = Grown (Soft0 F w) (w.alloc (.cells #[.int .i64 nd.lev, .slice hA hn hc, .int .i64 nd.right, .slice kA kn kc, .slice vA vn vc, .slice dA dn dc] 93)) w2 := ⟨_, rfl⟩
    rw [← hFV] at HXV fv
    clear hFV
    -- the slot is held: the head, the body, the latch
    have b0 : (w2).cell? ⟨mm, 0, none⟩ = some (.pointer (some ⟨p, 0, none⟩)) := by rw [HMV.out.cell]; rfl
    have x0 : (w2).cell? ⟨w.heap.size, 0, none⟩ = some (.int .i64 nd.lev) := by rw [HBV.out.cell]; rfl
    have x1 : (w2).cell? ⟨w.heap.size, 1, none⟩ = some (.slice hA hn hc) := by rw [HBV.out.cell]; rfl
    have x2 : (w2).cell? ⟨w.heap.size, 2, none⟩ = some (.int .i64 nd.right) := by rw [HBV.out.cell]; rfl
    have x3 : (w2).cell? ⟨w.heap.size, 3, none⟩ = some (.slice kA kn kc) := by rw [HBV.out.cell]; rfl
    have x4 : (w2).cell? ⟨w.heap.size, 4, none⟩ = some (.slice vA vn vc) := by rw [HBV.out.cell]; rfl
    have x5 : (w2).cell? ⟨w.heap.size, 5, none⟩ = some (.slice dA dn dc) := by rw [HBV.out.cell]; rfl
    obtain ⟨V, hV⟩ : ∃ V, V = w2 := ⟨_, rfl⟩
    rw [← hV] at fv b0 x0 x1 x2 x3 x4 x5 HMV HBV HXV HCV ⊢
    clear hV
    have zV := HCV.out.size
    have gV : ∀ b, Soft0 G w b → ¬ ((Soft0 F w b ∨ b = mm) ∨ w.heap.size ≤ b) := fun b hb h => h.elim (fun h => h.elim (fun h => (hG b hb.1).1 h.1) (hG b hb.1).2) (fun h => by have := hb.2; omega)
    have T1 := Lib.hid ((H1.out.chg HCV.out gV).below (Below.refl _ _).drew)
    have T2 := Lib.hid ((H2.out.chg HCV.out gV).below (Below.refl _ _).drew)
    have T3 := Lib.hid ((H3.out.chg HCV.out gV).below (Below.refl _ _).drew)
    have T4 := Lib.hid ((H4.out.chg HCV.out gV).below (Below.refl _ _).drew)
    have gF : ∀ b, Soft0 G w b → ¬ FV b := fun b hb h => (fv b h).elim (fun h => (hG b hb.1).1 h.1) (fun h => by have := hb.2; omega)
    have nm : ¬ FV mm := fun h => (fv _ h).elim (fun h => hmF h.1) (fun h => by omega)
    have nb : ¬ FV w.heap.size := fun h => (fv _ h).elim (fun h => by have := h.2; omega) (fun h => by omega)
    refine wp_region_U (fun w' => w'.cell? ⟨mm, 0, none⟩ = some (.pointer (some ⟨p, 0, none⟩)) ∧ w'.cell? ⟨w.heap.size, 0, none⟩ = some (.int .i64 nd.lev) ∧ w'.cell? ⟨w.heap.size, 1, none⟩ = some (.slice hA hn hc) ∧ w'.cell? ⟨w.heap.size, 2, none⟩ = some (.int .i64 nd.right)) 7 (by kernel_rfl) ?_
    have S0 : V.drew.cell? ⟨mm, 0, none⟩ = some (.pointer (some ⟨p, 0, none⟩)) ∧ V.drew.cell? ⟨w.heap.size, 0, none⟩ = some (.int .i64 nd.lev) ∧ V.drew.cell? ⟨w.heap.size, 1, none⟩ = some (.slice hA hn hc) ∧ V.drew.cell? ⟨w.heap.size, 2, none⟩ = some (.int .i64 nd.right) := ⟨b0, x0, x1, x2⟩
    refine wpU_free (i := 0) (v := ?_) rfl (by kernel_rfl) (by kernel_rfl) (by kernel_rfl) (by kernel_rfl) (by first | exact fun _ _ _ h => h | exact fun c a w h => HQP.out c _ a w h) (fun _ => S0) (Or.inl ⟨by kernel_rfl, ?_⟩) ?_
    rotate_left
    · intro w hSw
      go_simp
      try with_reducible rfl
    try simp only [Act.put, List.setIfInBounds_toArray, List.set_cons_zero, List.set_cons_succ]
    refine wpU_free (i := 1) (v := ?_) rfl (by kernel_rfl) (by kernel_rfl) (by kernel_rfl) (by kernel_rfl) (by first | exact fun _ _ _ h => h | exact fun c a w h => HQP.out c _ a w h) (fun _ => S0) (Or.inl ⟨by kernel_rfl, ?_⟩) ?_
    rotate_left
    · intro w hSw
      go_simp
      try with_reducible rfl
    try simp only [Act.put, List.setIfInBounds_toArray, List.set_cons_zero, List.set_cons_succ]
    refine wpU_free (i := 2) (v := ?_) rfl (by kernel_rfl) (by kernel_rfl) (by kernel_rfl) (by kernel_rfl) (by first | exact fun _ _ _ h => h | exact fun c a w h => HQP.out c _ a w h) (fun _ => S0) (Or.inl ⟨by kernel_rfl, ?_⟩) ?_
    rotate_left
    · intro w hSw
      go_simp
      try with_reducible rfl
    try simp only [Act.put, List.setIfInBounds_toArray, List.set_cons_zero, List.set_cons_succ]
    refine wpU_free (i := 4) (v := ?_) rfl (by kernel_rfl) (by kernel_rfl) (by kernel_rfl) (by kernel_rfl) (by first | exact fun _ _ _ h => h | exact fun c a w h => HQP.out c _ a w h) (fun _ => S0) (Or.inl ⟨by kernel_rfl, ?_⟩) ?_
    rotate_left
    · intro w hSw
      go_simp
      try with_reducible rfl
    try simp only [Act.put, List.setIfInBounds_toArray, List.set_cons_zero, List.set_cons_succ]
    refine wpU_free (i := 5) (v := ?_) rfl (by kernel_rfl) (by kernel_rfl) (by kernel_rfl) (by kernel_rfl) (by first | exact fun _ _ _ h => h | exact fun c a w h => HQP.out c _ a w h) (fun _ => S0) (Or.inl ⟨by kernel_rfl, ?_⟩) ?_
    rotate_left
    · intro w hSw
      go_simp
      try with_reducible rfl
    try simp only [Act.put, List.setIfInBounds_toArray, List.set_cons_zero, List.set_cons_succ]
    refine wpU_take (i := 3) (v := ?_) rfl (by kernel_rfl) (by kernel_rfl) (by kernel_rfl) (by kernel_rfl) (by first | exact fun _ _ _ h => h | exact fun c a w h => HQP.out c _ a w h) S0 (Or.inl ⟨by kernel_rfl, ?_⟩) ?_
    rotate_left
    · intro w hSw
      obtain ⟨s0, s1, s2, s3⟩ := hSw
      go_simp
      try with_reducible rfl
    try simp only [Act.put, List.setIfInBounds_toArray, List.set_cons_zero, List.set_cons_succ]
    refine wpU_take (i := 6) (v := ?_) rfl (by kernel_rfl) (by kernel_rfl) (by kernel_rfl) (by kernel_rfl) (by first | exact fun _ _ _ h => h | exact fun c a w h => HQP.out c _ a w h) S0 (Or.inl ⟨by kernel_rfl, ?_⟩) ?_
    rotate_left
    · intro w hSw
      obtain ⟨s0, s1, s2, s3⟩ := hSw
      go_simp
      try with_reducible rfl
    try simp only [Act.put, List.setIfInBounds_toArray, List.set_cons_zero, List.set_cons_succ]
    refine wpU_one (i := 7) (by kernel_rfl) rfl (fun K hK => ?_)
    go_simp
    refine (setHead_ok FV p nodes root (sl ++ [(1, Nd.zero)]) ((sl.length : Int) + 1) (1, Nd.zero) V.drew HXV.out.drew hI1 hI2 hI3 hS1 (by simp) (by simp) (by simp) (Soft0 G w) hA hn hc nd.lev nd.right nd.high T1.out HS.out.1).mono ?_; rintro e w4 ⟨rfl, hx4, hc4⟩
    refine hK.out _ _ (fun h => absurd h (by decide)) ?_
    clear hK K
    try simp only [Act.put, List.setIfInBounds_toArray, List.set_cons_zero, List.set_cons_succ]
    refine wpU_done (by kernel_rfl) ?_ _
    have HX4 := Lib.hid hx4.grown
    have HC4 := Lib.hid hc4
    have U0 := hc4.cell nm b0
    have U3 := hc4.cell nb x3
    have U4 := hc4.cell nb x4
    have U5 := hc4.cell nb x5
    have V2 := Lib.hid ((T2.out.chg hc4 gF).below (Below.refl _ _).drew)
    have V3 := Lib.hid ((T3.out.chg hc4 gF).below (Below.refl _ _).drew)
    have V4 := Lib.hid ((T4.out.chg hc4 gF).below (Below.refl _ _).drew)
    have z4 : V.heap.size ≤ w4.heap.size := hc4.size
    have HM4 := Lib.hid (HMV.out.drew.chg hc4 nm)
    clear hx4 hc4 S0 b0 x0 x1 x2 x3 x4 x5
    go_wp2_with fail
    refine wp_region_U (fun w' => w'.cell? ⟨mm, 0, none⟩ = some (.pointer (some ⟨p, 0, none⟩)) ∧ w'.cell? ⟨w.heap.size, 3, none⟩ = some (.slice kA kn kc) ∧ w'.cell? ⟨w.heap.size, 4, none⟩ = some (.slice vA vn vc) ∧ w'.cell? ⟨w.heap.size, 5, none⟩ = some (.slice dA dn dc)) 7 (by kernel_rfl) ?_
    have S9 : w4.drew.cell? ⟨mm, 0, none⟩ = some (.pointer (some ⟨p, 0, none⟩)) ∧ w4.drew.cell? ⟨w.heap.size, 3, none⟩ = some (.slice kA kn kc) ∧ w4.drew.cell? ⟨w.heap.size, 4, none⟩ = some (.slice vA vn vc) ∧ w4.drew.cell? ⟨w.heap.size, 5, none⟩ = some (.slice dA dn dc) := ⟨U0, U3, U4, U5⟩
    refine wpU_free (i := 0) (v := ?_) rfl (by kernel_rfl) (by kernel_rfl) (by kernel_rfl) (by kernel_rfl) (by first | exact fun _ _ _ h => h | exact fun c a w h => HQP.out c _ a w h) (fun _ => S9) (Or.inl ⟨by kernel_rfl, ?_⟩) ?_
    rotate_left
    · intro w hSw
      go_simp
      try with_reducible rfl
    try simp only [Act.put, List.setIfInBounds_toArray, List.set_cons_zero, List.set_cons_succ]
    refine wpU_free (i := 1) (v := ?_) rfl (by kernel_rfl) (by kernel_rfl) (by kernel_rfl) (by kernel_rfl) (by first | exact fun _ _ _ h => h | exact fun c a w h => HQP.out c _ a w h) (fun _ => S9) (Or.inl ⟨by kernel_rfl, ?_⟩) ?_
    rotate_left
    · intro w hSw
      go_simp
      try with_reducible rfl
    try simp only [Act.put, List.setIfInBounds_toArray, List.set_cons_zero, List.set_cons_succ]
    refine wpU_free (i := 2) (v := ?_) rfl (by kernel_rfl) (by kernel_rfl) (by kernel_rfl) (by kernel_rfl) (by first | exact fun _ _ _ h => h | exact fun c a w h => HQP.out c _ a w h) (fun _ => S9) (Or.inl ⟨by kernel_rfl, ?_⟩) ?_
    rotate_left
    · intro w hSw
      go_simp
      try with_reducible rfl
    try simp only [Act.put, List.setIfInBounds_toArray, List.set_cons_zero, List.set_cons_succ]
    refine wpU_free (i := 4) (v := ?_) rfl (by kernel_rfl) (by kernel_rfl) (by kernel_rfl) (by kernel_rfl) (by first | exact fun _ _ _ h => h | exact fun c a w h => HQP.out c _ a w h) (fun _ => S9) (Or.inl ⟨by kernel_rfl, ?_⟩) ?_
    rotate_left
    · intro w hSw
      go_simp
      try with_reducible rfl
    try simp only [Act.put, List.setIfInBounds_toArray, List.set_cons_zero, List.set_cons_succ]
    refine wpU_free (i := 5) (v := ?_) rfl (by kernel_rfl) (by kernel_rfl) (by kernel_rfl) (by kernel_rfl) (by first | exact fun _ _ _ h => h | exact fun c a w h => HQP.out c _ a w h) (fun _ => S9) (Or.inl ⟨by kernel_rfl, ?_⟩) ?_
    rotate_left
    · intro w hSw
      go_simp
      try with_reducible rfl
    try simp only [Act.put, List.setIfInBounds_toArray, List.set_cons_zero, List.set_cons_succ]
    refine wpU_take (i := 3) (v := ?_) rfl (by kernel_rfl) (by kernel_rfl) (by kernel_rfl) (by kernel_rfl) (by first | exact fun _ _ _ h => h | exact fun c a w h => HQP.out c _ a w h) S9 (Or.inl ⟨by kernel_rfl, ?_⟩) ?_
    rotate_left
    · intro w hSw
      obtain ⟨s0, s1, s2, s3⟩ := hSw
      go_simp
      try with_reducible rfl
    try simp only [Act.put, List.setIfInBounds_toArray, List.set_cons_zero, List.set_cons_succ]
    refine wpU_take (i := 6) (v := ?_) rfl (by kernel_rfl) (by kernel_rfl) (by kernel_rfl) (by kernel_rfl) (by first | exact fun _ _ _ h => h | exact fun c a w h => HQP.out c _ a w h) S9 (Or.inl ⟨by kernel_rfl, ?_⟩) ?_
    rotate_left
    · intro w hSw
      obtain ⟨s0, s1, s2, s3⟩ := hSw
      go_simp
      try with_reducible rfl
    try simp only [Act.put, List.setIfInBounds_toArray, List.set_cons_zero, List.set_cons_succ]
    refine wpU_one (i := 7) (by kernel_rfl) rfl (fun K hK => ?_)
    go_simp
    refine (setBody_ok (Grown FV V.drew w4) p nodes root _ ((sl.length : Int) + 1) (1, ⟨nd.lev, nd.high, nd.right, [], [], []⟩) w4.drew HX4.out.drew hI1 (by rw [List.length_set]; exact hI2) (by rw [List.length_set]; exact hI3) (by rw [List.getElem?_set_self (List.getElem?_eq_some_iff.1 hS1).1]; rfl) (by simp) (by simp) (by simp) (Soft0 G w) kA vA dA kn kc vn vc dn dc nd.keys nd.vals nd.kids V2.out V3.out V4.out ⟨by simp, HS.out.2.1, HS.out.2.2.1, HS.out.2.2.2.1, HS.out.2.2.2.2.1, HS.out.2.2.2.2.2⟩).mono ?_; rintro e w5 ⟨rfl, hx5, hc5⟩
    refine hK.out _ _ (fun h => absurd h (by decide)) ?_
    clear hK K
    try simp only [Act.put, List.setIfInBounds_toArray, List.set_cons_zero, List.set_cons_succ]
    refine wpU_done (by kernel_rfl) ?_ _
    have nm5 : ¬ Grown FV V.drew w4 mm := fun h => h.elim nm (fun h => by have h1 : V.heap.size ≤ mm := h.1; omega)
    have HX5 := Lib.hid hx5.grown
    have HC5 := Lib.hid hc5
    have W0 := hc5.cell nm5 U0
    have HM5 := Lib.hid (HM4.out.drew.chg hc5 nm5)
    have z5 : w4.heap.size ≤ w5.heap.size := hc5.size
    clear hx5 hc5 S9 U0 U3 U4 U5
    have UL := Lib.hid (unlock_true (Grown (Grown FV V.drew w4) w4.drew w5) p nodes root _ ((sl.length : Int) + 1) (1, ⟨nd.lev, nd.high, nd.right, nd.keys, nd.vals, nd.kids⟩) _ HX5.out hI1 (by rw [List.length_set, List.length_set]; exact hI2) (by rw [List.length_set, List.length_set]; exact hI3) (by rw [List.set_set, List.getElem?_set_self (List.getElem?_eq_some_iff.1 hS1).1]) (by simp) (by simp) (by simp))
    go_wp2_with (go_at_call 108; refine UL.out.mono ?_; rintro e w6 ⟨rfl, hx6, hc6⟩; have HX6 := Lib.hid hx6; have HC6 := Lib.hid hc6; clear hx6 hc6)
    go_ret
    have z6 := HC6.out.size
    refine ⟨rfl, ?_, HM5.out.chg HC6.out (fun h => h.elim nm5 (fun h => by have h1 : w4.heap.size ≤ mm := h.1; omega)), ?_⟩
    · have h := HX6.out
      rw [List.set_set, List.set_set] at h
      rw [← hfin]
      exact h.weak (fun b hb => hb.elim (fun h => h.elim (fun h => (fv b h).elim (fun h => .inl h.1) (fun h => .inr ⟨by omega, by omega⟩)) (fun h => by have h1 : V.heap.size ≤ b := h.1; exact .inr ⟨by omega, by omega⟩)) (fun h => by have h1 : w4.heap.size ≤ b := h.1; exact .inr ⟨by omega, by omega⟩))
    · refine (((HCV.out.mono (T := fun b => F b ∨ b = mm) (fun b hb h => h.elim (fun h => h.elim (fun h => .inl h.1) .inr) (fun h => absurd h (by omega)))).drew.trans HC4.out (fun b hb h => (fv b h).elim (fun h => .inl h.1) (fun h => by omega))).drew.trans HC5.out (fun b hb h => h.elim (fun h => (fv b h).elim (fun h => .inl h.1) (fun h => by omega)) (fun h => by have h1 : V.heap.size ≤ b := h.1; omega))).trans HC6.out (fun b hb h => h.elim (fun h => h.elim (fun h => (fv b h).elim (fun h => .inl h.1) (fun h => by omega)) (fun h => by have h1 : V.heap.size ≤ b := h.1; omega)) (fun h => by have h1 : w4.heap.size ≤ b := h.1; omega))
  · go_enter Try.func92, Try.ntmps92
    go_wp2_with (first | (go_at_call 105; go_loud (refine AL.out.mono ?_; rintro e w2 ⟨rfl, hx2, hc2⟩; have HX2 := Lib.hid hx2.grown; have HC2 := Lib.hid hc2; have HM2 := Lib.hid (HM.out.chg hc2 (fun h => hmF h.1)); have HB2 := Lib.hid (HB.out.chg hc2 (fun h => by have := h.2; omega)); have z2 : w.heap.size + 1 ≤ w2.heap.size := size_of_alloc hc2; have n2 : w2.cell? ⟨w.heap.size, 2, none⟩ = some (.int .i64 nd.right) := (HB2.out.cell _).trans rfl; have nf2 : ∀ o, w2.frozen? ⟨w.heap.size, o, none⟩ = false := HB2.out.frozen; have e1 := IntWalk.i64_in ((sl.length : Int) + 1 + 1) (by omega); clear hx2 hc2)))
    have HMV : Hid (Blk (w2.setCell ⟨w.heap.size, 2, none⟩ (.int .i64 ((sl.length : Int) + 1 + 1))) mm 132 #[.pointer (some ⟨p, 0, none⟩), .bool false]) := Lib.hid (Blk.far HM2.out (p := ⟨w.heap.size, 2, none⟩) (Nat.ne_of_lt hml) _)
    have HBV : Hid (Blk (w2.setCell ⟨w.heap.size, 2, none⟩ (.int .i64 ((sl.length : Int) + 1 + 1))) w.heap.size 93 #[.int .i64 nd.lev, .slice hA hn hc, .int .i64 ((sl.length : Int) + 1 + 1), .slice kA kn kc, .slice vA vn vc, .slice dA dn dc]) := Lib.hid (HB2.out.set_ 2 _)
    have HXV : Hid (ArX (w2.setCell ⟨w.heap.size, 2, none⟩ (.int .i64 ((sl.length : Int) + 1 + 1))) (Grown (Soft0 F w) (w.alloc (.cells #[.int .i64 nd.lev, .slice hA hn hc, .int .i64 nd.right, .slice kA kn kc, .slice vA vn vc, .slice dA dn dc] 93)) w2) p nodes (sl ++ [(1, Nd.zero)]) root) := Lib.hid (HX2.out.chg (Chg.set1 _ w.heap.size 2 _) (fun b hb e => by have e : b = w.heap.size := e; exact hb.elim (fun h => by have := h.2; omega) (fun h => by have h1 := h.1; simp at h1; omega)))
    have HCV : Hid (Chg (fun b => (Soft0 F w b ∨ b = mm) ∨ w.heap.size ≤ b) w (w2.setCell ⟨w.heap.size, 2, none⟩ (.int .i64 ((sl.length : Int) + 1 + 1)))) := Lib.hid (((Chg.of_below b1).trans HC2.out (fun b _ h => .inl (.inl h))).setCell (p := ⟨w.heap.size, 2, none⟩) (fun _ => .inr (Nat.le_refl _)) _)
    have hI1 : (1 : Int) ≤ (sl.length : Int) + 1 := by omega
    have hI2 : ((sl.length : Int) + 1) ≤ ((sl ++ [(1, Nd.zero)] : List Slt).length : Int) := by simp
    have hI3 : (sl ++ [(1, Nd.zero)] : List Slt).length ≤ 65536 := by simp; omega
    have hS0 : ((sl.length : Int) + 1).toNat - 1 = sl.length := by omega
    have hS1 : (sl ++ [(1, Nd.zero)] : List Slt)[((sl.length : Int) + 1).toNat - 1]? = some (1, Nd.zero) := by rw [hS0]; simp
    have hfin : (sl ++ [(1, Nd.zero)] : List Slt).set (((sl.length : Int) + 1).toNat - 1) (2, ⟨nd.lev, nd.high, ((sl.length : Int) + 1 + 1), nd.keys, nd.vals, nd.kids⟩) = sl ++ [(2, ⟨nd.lev, nd.high, rt, nd.keys, nd.vals, nd.kids⟩)] := by rw [hrt, hS0]; simp
    have fv : ∀ b, Grown (Soft0 F w) (w.alloc (.cells #[.int .i64 nd.lev, .slice hA hn hc, .int .i64 nd.right, .slice kA kn kc, .slice vA vn vc, .slice dA dn dc] 93)) w2 b → Soft0 F w b ∨ (w.heap.size < b ∧ b < (w2.setCell ⟨w.heap.size, 2, none⟩ (.int .i64 ((sl.length : Int) + 1 + 1))).heap.size) := fun b h => h.elim .inl (fun h => by have h1 := h.1; have h2 := h.2; simp at h1; exact .inr ⟨by omega, by simpa [World.setCell] using h2⟩)
    clear b1 HX HM HB HX2 HC2 HM2 HB2 n2 nf2 m0 m1 mf AL
    obtain ⟨FV, hFV⟩ : ∃ FV, FV = Grown (Soft0 F w) (w.alloc (.cells #[.int .i64 nd.lev, .slice hA hn hc, .int .i64 nd.right, .slice kA kn kc, .slice vA vn vc, .slice dA dn dc] 93)) w2 := ⟨_, rfl⟩
    rw [← hFV] at HXV fv
    clear hFV
    -- the slot is held: the head, the body, the latch
    have b0 : (w2.setCell ⟨w.heap.size, 2, none⟩ (.int .i64 ((sl.length : Int) + 1 + 1))).cell? ⟨mm, 0, none⟩ = some (.pointer (some ⟨p, 0, none⟩)) := by rw [HMV.out.cell]; rfl
    have x0 : (w2.setCell ⟨w.heap.size, 2, none⟩ (.int .i64 ((sl.length : Int) + 1 + 1))).cell? ⟨w.heap.size, 0, none⟩ = some (.int .i64 nd.lev) := by rw [HBV.out.cell]; rfl
    have x1 : (w2.setCell ⟨w.heap.size, 2, none⟩ (.int .i64 ((sl.length : Int) + 1 + 1))).cell? ⟨w.heap.size, 1, none⟩ = some (.slice hA hn hc) := by rw [HBV.out.cell]; rfl
    have x2 : (w2.setCell ⟨w.heap.size, 2, none⟩ (.int .i64 ((sl.length : Int) + 1 + 1))).cell? ⟨w.heap.size, 2, none⟩ = some (.int .i64 ((sl.length : Int) + 1 + 1)) := by rw [HBV.out.cell]; rfl
    have x3 : (w2.setCell ⟨w.heap.size, 2, none⟩ (.int .i64 ((sl.length : Int) + 1 + 1))).cell? ⟨w.heap.size, 3, none⟩ = some (.slice kA kn kc) := by rw [HBV.out.cell]; rfl
    have x4 : (w2.setCell ⟨w.heap.size, 2, none⟩ (.int .i64 ((sl.length : Int) + 1 + 1))).cell? ⟨w.heap.size, 4, none⟩ = some (.slice vA vn vc) := by rw [HBV.out.cell]; rfl
    have x5 : (w2.setCell ⟨w.heap.size, 2, none⟩ (.int .i64 ((sl.length : Int) + 1 + 1))).cell? ⟨w.heap.size, 5, none⟩ = some (.slice dA dn dc) := by rw [HBV.out.cell]; rfl
    obtain ⟨V, hV⟩ : ∃ V, V = w2.setCell ⟨w.heap.size, 2, none⟩ (.int .i64 ((sl.length : Int) + 1 + 1)) := ⟨_, rfl⟩
    rw [← hV] at fv b0 x0 x1 x2 x3 x4 x5 HMV HBV HXV HCV ⊢
    clear hV
    have zV := HCV.out.size
    have gV : ∀ b, Soft0 G w b → ¬ ((Soft0 F w b ∨ b = mm) ∨ w.heap.size ≤ b) := fun b hb h => h.elim (fun h => h.elim (fun h => (hG b hb.1).1 h.1) (hG b hb.1).2) (fun h => by have := hb.2; omega)
    have T1 := Lib.hid ((H1.out.chg HCV.out gV).below (Below.refl _ _).drew)
    have T2 := Lib.hid ((H2.out.chg HCV.out gV).below (Below.refl _ _).drew)
    have T3 := Lib.hid ((H3.out.chg HCV.out gV).below (Below.refl _ _).drew)
    have T4 := Lib.hid ((H4.out.chg HCV.out gV).below (Below.refl _ _).drew)
    have gF : ∀ b, Soft0 G w b → ¬ FV b := fun b hb h => (fv b h).elim (fun h => (hG b hb.1).1 h.1) (fun h => by have := hb.2; omega)
    have nm : ¬ FV mm := fun h => (fv _ h).elim (fun h => hmF h.1) (fun h => by omega)
    have nb : ¬ FV w.heap.size := fun h => (fv _ h).elim (fun h => by have := h.2; omega) (fun h => by omega)
    refine wp_region_U (fun w' => w'.cell? ⟨mm, 0, none⟩ = some (.pointer (some ⟨p, 0, none⟩)) ∧ w'.cell? ⟨w.heap.size, 0, none⟩ = some (.int .i64 nd.lev) ∧ w'.cell? ⟨w.heap.size, 1, none⟩ = some (.slice hA hn hc) ∧ w'.cell? ⟨w.heap.size, 2, none⟩ = some (.int .i64 ((sl.length : Int) + 1 + 1))) 7 (by kernel_rfl) ?_
    have S0 : V.drew.cell? ⟨mm, 0, none⟩ = some (.pointer (some ⟨p, 0, none⟩)) ∧ V.drew.cell? ⟨w.heap.size, 0, none⟩ = some (.int .i64 nd.lev) ∧ V.drew.cell? ⟨w.heap.size, 1, none⟩ = some (.slice hA hn hc) ∧ V.drew.cell? ⟨w.heap.size, 2, none⟩ = some (.int .i64 ((sl.length : Int) + 1 + 1)) := ⟨b0, x0, x1, x2⟩
    refine wpU_free (i := 0) (v := ?_) rfl (by kernel_rfl) (by kernel_rfl) (by kernel_rfl) (by kernel_rfl) (by first | exact fun _ _ _ h => h | exact fun c a w h => HQP.out c _ a w h) (fun _ => S0) (Or.inl ⟨by kernel_rfl, ?_⟩) ?_
    rotate_left
    · intro w hSw
      go_simp
      try with_reducible rfl
    try simp only [Act.put, List.setIfInBounds_toArray, List.set_cons_zero, List.set_cons_succ]
    refine wpU_free (i := 1) (v := ?_) rfl (by kernel_rfl) (by kernel_rfl) (by kernel_rfl) (by kernel_rfl) (by first | exact fun _ _ _ h => h | exact fun c a w h => HQP.out c _ a w h) (fun _ => S0) (Or.inl ⟨by kernel_rfl, ?_⟩) ?_
    rotate_left
    · intro w hSw
      go_simp
      try with_reducible rfl
    try simp only [Act.put, List.setIfInBounds_toArray, List.set_cons_zero, List.set_cons_succ]
    refine wpU_free (i := 2) (v := ?_) rfl (by kernel_rfl) (by kernel_rfl) (by kernel_rfl) (by kernel_rfl) (by first | exact fun _ _ _ h => h | exact fun c a w h => HQP.out c _ a w h) (fun _ => S0) (Or.inl ⟨by kernel_rfl, ?_⟩) ?_
    rotate_left
    · intro w hSw
      go_simp
      try with_reducible rfl
    try simp only [Act.put, List.setIfInBounds_toArray, List.set_cons_zero, List.set_cons_succ]
    refine wpU_free (i := 4) (v := ?_) rfl (by kernel_rfl) (by kernel_rfl) (by kernel_rfl) (by kernel_rfl) (by first | exact fun _ _ _ h => h | exact fun c a w h => HQP.out c _ a w h) (fun _ => S0) (Or.inl ⟨by kernel_rfl, ?_⟩) ?_
    rotate_left
    · intro w hSw
      go_simp
      try with_reducible rfl
    try simp only [Act.put, List.setIfInBounds_toArray, List.set_cons_zero, List.set_cons_succ]
    refine wpU_free (i := 5) (v := ?_) rfl (by kernel_rfl) (by kernel_rfl) (by kernel_rfl) (by kernel_rfl) (by first | exact fun _ _ _ h => h | exact fun c a w h => HQP.out c _ a w h) (fun _ => S0) (Or.inl ⟨by kernel_rfl, ?_⟩) ?_
    rotate_left
    · intro w hSw
      go_simp
      try with_reducible rfl
    try simp only [Act.put, List.setIfInBounds_toArray, List.set_cons_zero, List.set_cons_succ]
    refine wpU_take (i := 3) (v := ?_) rfl (by kernel_rfl) (by kernel_rfl) (by kernel_rfl) (by kernel_rfl) (by first | exact fun _ _ _ h => h | exact fun c a w h => HQP.out c _ a w h) S0 (Or.inl ⟨by kernel_rfl, ?_⟩) ?_
    rotate_left
    · intro w hSw
      obtain ⟨s0, s1, s2, s3⟩ := hSw
      go_simp
      try with_reducible rfl
    try simp only [Act.put, List.setIfInBounds_toArray, List.set_cons_zero, List.set_cons_succ]
    refine wpU_take (i := 6) (v := ?_) rfl (by kernel_rfl) (by kernel_rfl) (by kernel_rfl) (by kernel_rfl) (by first | exact fun _ _ _ h => h | exact fun c a w h => HQP.out c _ a w h) S0 (Or.inl ⟨by kernel_rfl, ?_⟩) ?_
    rotate_left
    · intro w hSw
      obtain ⟨s0, s1, s2, s3⟩ := hSw
      go_simp
      try with_reducible rfl
    try simp only [Act.put, List.setIfInBounds_toArray, List.set_cons_zero, List.set_cons_succ]
    refine wpU_one (i := 7) (by kernel_rfl) rfl (fun K hK => ?_)
    go_simp
    refine (setHead_ok FV p nodes root (sl ++ [(1, Nd.zero)]) ((sl.length : Int) + 1) (1, Nd.zero) V.drew HXV.out.drew hI1 hI2 hI3 hS1 (by simp) (by simp) (by simp) (Soft0 G w) hA hn hc nd.lev ((sl.length : Int) + 1 + 1) nd.high T1.out HS.out.1).mono ?_; rintro e w4 ⟨rfl, hx4, hc4⟩
    refine hK.out _ _ (fun h => absurd h (by decide)) ?_
    clear hK K
    try simp only [Act.put, List.setIfInBounds_toArray, List.set_cons_zero, List.set_cons_succ]
    refine wpU_done (by kernel_rfl) ?_ _
    have HX4 := Lib.hid hx4.grown
    have HC4 := Lib.hid hc4
    have U0 := hc4.cell nm b0
    have U3 := hc4.cell nb x3
    have U4 := hc4.cell nb x4
    have U5 := hc4.cell nb x5
    have V2 := Lib.hid ((T2.out.chg hc4 gF).below (Below.refl _ _).drew)
    have V3 := Lib.hid ((T3.out.chg hc4 gF).below (Below.refl _ _).drew)
    have V4 := Lib.hid ((T4.out.chg hc4 gF).below (Below.refl _ _).drew)
    have z4 : V.heap.size ≤ w4.heap.size := hc4.size
    have HM4 := Lib.hid (HMV.out.drew.chg hc4 nm)
    clear hx4 hc4 S0 b0 x0 x1 x2 x3 x4 x5
    go_wp2_with fail
    refine wp_region_U (fun w' => w'.cell? ⟨mm, 0, none⟩ = some (.pointer (some ⟨p, 0, none⟩)) ∧ w'.cell? ⟨w.heap.size, 3, none⟩ = some (.slice kA kn kc) ∧ w'.cell? ⟨w.heap.size, 4, none⟩ = some (.slice vA vn vc) ∧ w'.cell? ⟨w.heap.size, 5, none⟩ = some (.slice dA dn dc)) 7 (by kernel_rfl) ?_
    have S9 : w4.drew.cell? ⟨mm, 0, none⟩ = some (.pointer (some ⟨p, 0, none⟩)) ∧ w4.drew.cell? ⟨w.heap.size, 3, none⟩ = some (.slice kA kn kc) ∧ w4.drew.cell? ⟨w.heap.size, 4, none⟩ = some (.slice vA vn vc) ∧ w4.drew.cell? ⟨w.heap.size, 5, none⟩ = some (.slice dA dn dc) := ⟨U0, U3, U4, U5⟩
    refine wpU_free (i := 0) (v := ?_) rfl (by kernel_rfl) (by kernel_rfl) (by kernel_rfl) (by kernel_rfl) (by first | exact fun _ _ _ h => h | exact fun c a w h => HQP.out c _ a w h) (fun _ => S9) (Or.inl ⟨by kernel_rfl, ?_⟩) ?_
    rotate_left
    · intro w hSw
      go_simp
      try with_reducible rfl
    try simp only [Act.put, List.setIfInBounds_toArray, List.set_cons_zero, List.set_cons_succ]
    refine wpU_free (i := 1) (v := ?_) rfl (by kernel_rfl) (by kernel_rfl) (by kernel_rfl) (by kernel_rfl) (by first | exact fun _ _ _ h => h | exact fun c a w h => HQP.out c _ a w h) (fun _ => S9) (Or.inl ⟨by kernel_rfl, ?_⟩) ?_
    rotate_left
    · intro w hSw
      go_simp
      try with_reducible rfl
    try simp only [Act.put, List.setIfInBounds_toArray, List.set_cons_zero, List.set_cons_succ]
    refine wpU_free (i := 2) (v := ?_) rfl (by kernel_rfl) (by kernel_rfl) (by kernel_rfl) (by kernel_rfl) (by first | exact fun _ _ _ h => h | exact fun c a w h => HQP.out c _ a w h) (fun _ => S9) (Or.inl ⟨by kernel_rfl, ?_⟩) ?_
    rotate_left
    · intro w hSw
      go_simp
      try with_reducible rfl
    try simp only [Act.put, List.setIfInBounds_toArray, List.set_cons_zero, List.set_cons_succ]
    refine wpU_free (i := 4) (v := ?_) rfl (by kernel_rfl) (by kernel_rfl) (by kernel_rfl) (by kernel_rfl) (by first | exact fun _ _ _ h => h | exact fun c a w h => HQP.out c _ a w h) (fun _ => S9) (Or.inl ⟨by kernel_rfl, ?_⟩) ?_
    rotate_left
    · intro w hSw
      go_simp
      try with_reducible rfl
    try simp only [Act.put, List.setIfInBounds_toArray, List.set_cons_zero, List.set_cons_succ]
    refine wpU_free (i := 5) (v := ?_) rfl (by kernel_rfl) (by kernel_rfl) (by kernel_rfl) (by kernel_rfl) (by first | exact fun _ _ _ h => h | exact fun c a w h => HQP.out c _ a w h) (fun _ => S9) (Or.inl ⟨by kernel_rfl, ?_⟩) ?_
    rotate_left
    · intro w hSw
      go_simp
      try with_reducible rfl
    try simp only [Act.put, List.setIfInBounds_toArray, List.set_cons_zero, List.set_cons_succ]
    refine wpU_take (i := 3) (v := ?_) rfl (by kernel_rfl) (by kernel_rfl) (by kernel_rfl) (by kernel_rfl) (by first | exact fun _ _ _ h => h | exact fun c a w h => HQP.out c _ a w h) S9 (Or.inl ⟨by kernel_rfl, ?_⟩) ?_
    rotate_left
    · intro w hSw
      obtain ⟨s0, s1, s2, s3⟩ := hSw
      go_simp
      try with_reducible rfl
    try simp only [Act.put, List.setIfInBounds_toArray, List.set_cons_zero, List.set_cons_succ]
    refine wpU_take (i := 6) (v := ?_) rfl (by kernel_rfl) (by kernel_rfl) (by kernel_rfl) (by kernel_rfl) (by first | exact fun _ _ _ h => h | exact fun c a w h => HQP.out c _ a w h) S9 (Or.inl ⟨by kernel_rfl, ?_⟩) ?_
    rotate_left
    · intro w hSw
      obtain ⟨s0, s1, s2, s3⟩ := hSw
      go_simp
      try with_reducible rfl
    try simp only [Act.put, List.setIfInBounds_toArray, List.set_cons_zero, List.set_cons_succ]
    refine wpU_one (i := 7) (by kernel_rfl) rfl (fun K hK => ?_)
    go_simp
    refine (setBody_ok (Grown FV V.drew w4) p nodes root _ ((sl.length : Int) + 1) (1, ⟨nd.lev, nd.high, ((sl.length : Int) + 1 + 1), [], [], []⟩) w4.drew HX4.out.drew hI1 (by rw [List.length_set]; exact hI2) (by rw [List.length_set]; exact hI3) (by rw [List.getElem?_set_self (List.getElem?_eq_some_iff.1 hS1).1]; rfl) (by simp) (by simp) (by simp) (Soft0 G w) kA vA dA kn kc vn vc dn dc nd.keys nd.vals nd.kids V2.out V3.out V4.out ⟨by simp, HS.out.2.1, HS.out.2.2.1, HS.out.2.2.2.1, HS.out.2.2.2.2.1, HS.out.2.2.2.2.2⟩).mono ?_; rintro e w5 ⟨rfl, hx5, hc5⟩
    refine hK.out _ _ (fun h => absurd h (by decide)) ?_
    clear hK K
    try simp only [Act.put, List.setIfInBounds_toArray, List.set_cons_zero, List.set_cons_succ]
    refine wpU_done (by kernel_rfl) ?_ _
    have nm5 : ¬ Grown FV V.drew w4 mm := fun h => h.elim nm (fun h => by have h1 : V.heap.size ≤ mm := h.1; omega)
    have HX5 := Lib.hid hx5.grown
    have HC5 := Lib.hid hc5
    have W0 := hc5.cell nm5 U0
    have HM5 := Lib.hid (HM4.out.drew.chg hc5 nm5)
    have z5 : w4.heap.size ≤ w5.heap.size := hc5.size
    clear hx5 hc5 S9 U0 U3 U4 U5
    have UL := Lib.hid (unlock_true (Grown (Grown FV V.drew w4) w4.drew w5) p nodes root _ ((sl.length : Int) + 1) (1, ⟨nd.lev, nd.high, ((sl.length : Int) + 1 + 1), nd.keys, nd.vals, nd.kids⟩) _ HX5.out hI1 (by rw [List.length_set, List.length_set]; exact hI2) (by rw [List.length_set, List.length_set]; exact hI3) (by rw [List.set_set, List.getElem?_set_self (List.getElem?_eq_some_iff.1 hS1).1]) (by simp) (by simp) (by simp))
    go_wp2_with (go_at_call 108; refine UL.out.mono ?_; rintro e w6 ⟨rfl, hx6, hc6⟩; have HX6 := Lib.hid hx6; have HC6 := Lib.hid hc6; clear hx6 hc6)
    go_ret
    have z6 := HC6.out.size
    refine ⟨rfl, ?_, HM5.out.chg HC6.out (fun h => h.elim nm5 (fun h => by have h1 : w4.heap.size ≤ mm := h.1; omega)), ?_⟩
    · have h := HX6.out
      rw [List.set_set, List.set_set] at h
      rw [← hfin]
      exact h.weak (fun b hb => hb.elim (fun h => h.elim (fun h => (fv b h).elim (fun h => .inl h.1) (fun h => .inr ⟨by omega, by omega⟩)) (fun h => by have h1 : V.heap.size ≤ b := h.1; exact .inr ⟨by omega, by omega⟩)) (fun h => by have h1 : w4.heap.size ≤ b := h.1; exact .inr ⟨by omega, by omega⟩))
    · refine (((HCV.out.mono (T := fun b => F b ∨ b = mm) (fun b hb h => h.elim (fun h => h.elim (fun h => .inl h.1) .inr) (fun h => absurd h (by omega)))).drew.trans HC4.out (fun b hb h => (fv b h).elim (fun h => .inl h.1) (fun h => by omega))).drew.trans HC5.out (fun b hb h => h.elim (fun h => (fv b h).elim (fun h => .inl h.1) (fun h => by omega)) (fun h => by have h1 : V.heap.size ≤ b := h.1; omega))).trans HC6.out (fun b hb h => h.elim (fun h => h.elim (fun h => (fv b h).elim (fun h => .inl h.1) (fun h => by omega)) (fun h => by have h1 : V.heap.size ≤ b := h.1; omega)) (fun h => by have h1 : w4.heap.size ≤ b := h.1; omega))
end Go.Proofs.Ytgjphmlmndcaeaa

namespace Go.Proofs.Ytgjphmlmndcaeaa
open Go.RowKit

/-- the maker at block mm: the nodes laid so far; the arena's blocks are of F, and there -/
def MakerSt (w : World) (F : Nat → Prop) (p mm : Nat) (nodes root : Int) (done : List Slt) : Prop :=
  ¬ F mm ∧ (∀ b, F b → b < w.heap.size) ∧ mm < w.heap.size ∧ ((done = [] ∧ ArX w F p nodes [(0, Nd.zero)] root ∧ Blk w mm 132 #[.pointer (some ⟨p, 0, none⟩), .bool true]) ∨ (done ≠ [] ∧ ArX w F p nodes done root ∧ Blk w mm 132 #[.pointer (some ⟨p, 0, none⟩), .bool false]))
/-- what is neither the arena's nor the maker's -/
def Off (F : Nat → Prop) (mm : Nat) : Nat → Prop := fun b => ¬ F b ∧ b ≠ mm

section
variable {S F G : Nat → Prop} {w w' : World} {p mm : Nat} {nodes root : Int} {done : List Slt}
theorem MakerSt.chg (h : MakerSt w F p mm nodes root done) (hc : Chg S w w') (hs : ∀ b, F b → ¬ S b) (hm : ¬ S mm) : MakerSt w' F p mm nodes root done := by
  obtain ⟨h1, h2, h3, h4⟩ := h
  refine ⟨h1, fun b hb => Nat.lt_of_lt_of_le (h2 b hb) hc.size, Nat.lt_of_lt_of_le h3 hc.size, ?_⟩
  rcases h4 with ⟨e, a, b⟩ | ⟨e, a, b⟩
  · exact .inl ⟨e, a.chg hc hs, b.chg hc hm⟩
  · exact .inr ⟨e, a.chg hc hs, b.chg hc hm⟩
theorem MakerSt.below (h : MakerSt w F p mm nodes root done) (hb : Below w.heap.size w w') : MakerSt w' F p mm nodes root done := h.chg (S := Nil) (Chg.of_below hb) (fun _ _ hf => hf) (fun hf => hf)
/-- what one holds, behind a node more -/
theorem off_next {b : Nat} (hb : b < w.heap.size) (h : Off F mm b) : Off (Grown F w w') mm b := ⟨fun hg => hg.elim h.1 (fun h => by have := h.1; omega), h.2⟩
theorem Rd.off_next {size n : Nat} {A : Option Addr} {xs : List Value} (h : Rd w (Off F mm) size A n xs) (hsz : 0 < size) (hc : Chg (fun b => F b ∨ b = mm) w w') : Rd w' (Off (Grown F w w') mm) size A n xs :=
  ((h.lt hsz).chg hc (fun b hb h => h.elim hb.1.1 hb.1.2)).weak (fun b hb => Go.Proofs.Ytgjphmlmndcaeaa.off_next hb.2 hb.1)
theorem SB.off_next {v : Value} {bs : List UInt8} (h : SB w (Off F mm) v bs) (hc : Chg (fun b => F b ∨ b = mm) w w') : SB w' (Off (Grown F w w') mm) v bs :=
  let ⟨A, n, c, h1, h2, h3, h4, h5⟩ := h; ⟨A, n, c, h1, h2, h3, h4, h5.off_next Nat.zero_lt_one hc⟩

theorem lay_any (more : Bool) (nd : Nd) (hA kA vA dA : Option Addr) (hn hc kn kc vn vc dn dc : Nat) (h : MakerSt w F p mm nodes root done) (hf : (done.length : Int) < nodes) (hn1 : nodes ≤ 65536)
    (h1 : Bt w (Off F mm) hA hn hc nd.high) (h2 : Tx w (Off F mm) kA kn kc nd.keys) (h3 : Tx w (Off F mm) vA vn vc nd.vals) (h4 : It w (Off F mm) dA dn dc nd.kids) (hs : Small nd) :
    Calls Try.prog 92 #[.pointer (some ⟨mm, 0, none⟩), .agg #[.int .i64 nd.lev, .slice hA hn hc, .int .i64 nd.right, .slice kA kn kc, .slice vA vn vc, .slice dA dn dc], .bool more] w
      (fun e w' => e = .returned (.int .i64 ((done.length : Int) + 1)) ∧ MakerSt w' (Grown F w w') p mm nodes root (done ++ [(2, ⟨nd.lev, nd.high, if more then (done.length : Int) + 1 + 1 else nd.right, nd.keys, nd.vals, nd.kids⟩)]) ∧ Chg (fun b => F b ∨ b = mm) w w') := by
  obtain ⟨k1, k2, k3, k4⟩ := h
  have hG : ∀ b, Off F mm b → ¬ F b ∧ b ≠ mm := fun b h => h
  have fin : ∀ (e : Ending) (w' : World) (l' : List Slt) (id : Int), l' ≠ [] → LaidNode w F p mm nodes root l' id e w' → e = .returned (.int .i64 id) ∧ MakerSt w' (Grown F w w') p mm nodes root l' ∧ Chg (fun b => F b ∨ b = mm) w w' := by
    intro e w' l' id hl ⟨q1, q2, q3, q4⟩
    exact ⟨q1, ⟨fun h => h.elim k1 (fun h => by have := h.1; omega), fun b hb => hb.elim (fun h => Nat.lt_of_lt_of_le (k2 b h) q4.size) (fun h => h.2), Nat.lt_of_lt_of_le k3 q4.size, .inr ⟨hl, q2, q3⟩⟩, q4⟩
  rcases k4 with ⟨rfl, a, b⟩ | ⟨e, a, b⟩
  · refine (layFresh more F (Off F mm) p mm nodes root nd hA kA vA dA hn hc kn kc vn vc dn dc w a b k1 h1 h2 h3 h4 hG hs _ rfl).mono fun e w' hl => ?_
    have := fin e w' _ _ (by simp) hl
    simpa using this
  · refine (layAlloc more F (Off F mm) p mm nodes root done nd hA kA vA dA hn hc kn kc vn vc dn dc w a hf hn1 b k1 h1 h2 h3 h4 hG hs _ rfl).mono fun e w' hl => ?_
    exact fin e w' _ _ (by simp) hl
end
end Go.Proofs.Ytgjphmlmndcaeaa

namespace Go.Proofs.Ytgjphmlmndcaeaa
open Go.RowKit

/-- the first k parts, each of so many elements of two cells -/
def Parts (w : World) (F : Nat → Prop) (xs : List Value) (most k : Nat) (vals : List Value) : Prop :=
  ∀ i, i < k → ∃ A c, vals[i]? = some (.slice A most c) ∧ most ≤ c ∧ c ≤ maxLen ∧ Rd w F 2 A most ((xs.drop (i * most * 2)).take (most * 2))
section
variable {S F G : Nat → Prop} {w w' : World} {xs vals : List Value} {most k : Nat}
theorem Parts.chg (h : Parts w F xs most k vals) (hc : Chg S w w') (hs : ∀ b, F b → ¬ S b) : Parts w' F xs most k vals := fun i hi => let ⟨A, c, a, b, d, e⟩ := h i hi; ⟨A, c, a, b, d, e.chg hc hs⟩
theorem Parts.below (h : Parts w F xs most k vals) (hb : Below w.heap.size w w') : Parts w' F xs most k vals := h.chg (S := Nil) (Chg.of_below hb) (fun _ _ hf => hf)
theorem Parts.push (h : Parts w F xs most k vals) (hl : vals.length = k) {A : Option Addr} {c : Nat} (h1 : most ≤ c) (h2 : c ≤ maxLen) (hr : Rd w F 2 A most ((xs.drop (k * most * 2)).take (most * 2))) : Parts w F xs most (k + 1) (vals ++ [.slice A most c]) := by
  intro i hi
  rcases Nat.lt_or_ge i k with h' | h'
  · obtain ⟨B, d, q1, q2⟩ := h i h'
    exact ⟨B, d, by rw [List.getElem?_append_left (by omega)]; exact q1, q2⟩
  · obtain rfl : i = k := by omega
    exact ⟨A, c, by rw [List.getElem?_append_right (by omega), hl]; simp, h1, h2, hr⟩
end

/-- the answer: K full parts, and what is left -/
def NewParts (t : TypeId) (w : World) (F : Nat → Prop) (n : Nat) (xs : List Value) (most : Nat) (e : Ending) (w' : World) : Prop :=
  ∃ K vals A m c v, e = .returned v ∧ w'.ownsRow w.heap.size t 1 v (K + 1) (vals ++ [.slice A m c]) ∧ vals.length = K ∧ Parts w' F xs most K vals ∧
    n = K * most + m ∧ m ≤ most ∧ (K = 0 ∨ 0 < m) ∧ m ≤ c ∧ c ≤ maxLen ∧ Rd w' F 2 A m (xs.drop (K * most * 2)) ∧ Below w.heap.size w w'

theorem ents_info : (Try.prog.info? 37).map (fun i => (i.zero, i.size, i.bytes)) = some (some (.slice none 0 0), 1, 24) := by kernel_rfl
theorem kids_info : (Try.prog.info? 133).map (fun i => (i.zero, i.size, i.bytes)) = some (some (.slice none 0 0), 1, 24) := by kernel_rfl
set_option maxRecDepth 100000 in
theorem groupsE_any (A : Option Addr) (n c : Nat) (most : Nat) (F : Nat → Prop) (xs : List Value) (w : World) (h : Rd w F 2 A n xs) (hnc : n ≤ c) (hcm : c ≤ maxLen) (hm : 1 ≤ most) (hm2 : most ≤ 1152921504606) (hn2 : n ≤ 1152921504606) :
    Calls Try.prog 90 #[.slice A n c, .int .i64 most] w (NewParts 37 w F n xs most) := by
  obtain ⟨i0, hi0, iz0, iz1, iz2⟩ := info_parts ents_info
  have HH := Lib.hid h
  clear h
  go_enter Try.func90, Try.ntmps90
  go_wp2
  go_loopg [0, 5] n (fun g l vs wr => ∃ (k m c' : Nat) (v : Value) (vals : List Value) (B : Option Addr), g = m ∧ Hid (n = k * most + m) ∧ k ≤ n ∧ l = .slice B m c' ∧ v = vs ∧ m ≤ c' ∧ c' ≤ maxLen ∧ (k = 0 ∨ 0 < m) ∧ wr.ownsRow w.heap.size 37 1 v k vals ∧ Parts w F xs most k vals ∧ Rd w F 2 B m (xs.drop (k * most * 2)) ∧ Below w.heap.size w wr)
  case atStart => exact ⟨0, n, c, _, [], A, rfl, Lib.hid (by omega), by omega, rfl, rfl, hnc, hcm, .inl rfl, World.ownsRow_nil _ _ _ _, fun i hi => absurd hi (by omega), by simpa using HH.out, Below.refl _ _⟩
  case round =>
    obtain ⟨k, m, c', v, vals, B, hg, hnk, hkn, rfl, rfl, hmc, hcm', hk0, hown, hpa, hrd, hbl⟩ := hrel
    have HG := Lib.hid hg
    have HO := Lib.hid hown
    have HP := Lib.hid hpa
    have HR := Lib.hid hrd
    have hsz := hbl.size
    simp only [maxLen] at hcm'
    clear hg
    by_cases hlt : most < m
    · obtain ⟨b, o, rfl, hFb, _⟩ := hrd.2 (by omega)
      have hne : ¬ c' = most := by omega
      clear hown hpa hrd
      go_wp2_with (at_builtin; refine wpList_append_any _ rfl (.tmp 10) (.tmp 15) _ rfl w.heap.size 37 i0 _ 1 24 Try.underlying164 hi0 iz0 iz1 iz2 rfl (by omega) v k vals rfl (HO.out.alloc _) (From wr.heap.size) (some ⟨wr.heap.size, 0, none⟩) 1 1 [.slice (some ⟨b, o, none⟩) most most] rfl (Rd.one wr _ _) (by intro u hu; simp at hu; subst hu; rfl) (by simp only [maxLen]; omega) (by omega) (by simp; omega) ?_; intro v2 w2 hown2 hg2 hat2)
      go_roundg (m - most)
      case measure => have := HG.out; omega
      case rel =>
        refine ⟨k + 1, m - most, c' - most, v2, vals ++ [.slice (some ⟨b, o, none⟩) most most], some ⟨b, o + most * 2, none⟩, rfl, Lib.hid (by have := hnk.out; rw [Nat.add_mul]; omega), ?_, rfl, rfl, by omega, by simp only [maxLen]; omega, .inr (by omega), hown2, HP.out.push (by have := HO.out.1; omega) (Nat.le_refl _) (by simp only [maxLen]; omega) (HR.out.take (by omega)), ?_, (hbl.alloc hsz _).grown hg2 (by simp; omega) (fun q hq => (own_lt HO.out q hq).1)⟩
        · have h1 := hnk.out
          have h2 : (k + 1) * 1 ≤ (k + 1) * most := Nat.mul_le_mul_left _ hm
          rw [Nat.add_mul] at h2
          rw [Nat.add_mul (n := k)] at h2
          omega
        · have hc := HR.out.cut (k := most) (cap := c') (by omega) hmc
          rw [if_neg hne, Option.map_some, add_eq, List.drop_drop] at hc
          have he : k * most * 2 + most * 2 = (k + 1) * most * 2 := by rw [Nat.add_mul, Nat.add_mul]; omega
          rwa [he] at hc
    · clear hown hpa hrd
      go_wp2_with (at_builtin; refine wpList_append_any _ rfl (.tmp 20) (.tmp 22) _ rfl w.heap.size 37 i0 _ 1 24 Try.underlying164 hi0 iz0 iz1 iz2 rfl (by omega) v k vals rfl (HO.out.alloc _) (From wr.heap.size) (some ⟨wr.heap.size, 0, none⟩) 1 1 [.slice B m c'] rfl (Rd.one wr _ _) (by intro u hu; simp at hu; subst hu; rfl) (by simp only [maxLen]; omega) (by omega) (by simp; omega) ?_; intro v2 w2 hown2 hg2 hat2)
      have HB := Lib.hid ((hbl.alloc hsz (.cells #[.slice B m c'] 37)).grown hg2 (by simp; omega) (fun q hq => (own_lt HO.out q hq).1))
      have HO2 := Lib.hid hown2
      clear hown2 hg2 hat2
      go_ret
      refine ⟨k, vals, B, m, c', v2, rfl, HO2.out, by have := HO.out.1; omega, ?_, hnk.out, by omega, hk0, hmc, by simp only [maxLen]; omega, ?_, HB.out⟩
      · exact HP.out.below HB.out
      · exact HR.out.below HB.out
set_option maxRecDepth 100000 in
theorem groupsK_any (A : Option Addr) (n c : Nat) (most : Nat) (F : Nat → Prop) (xs : List Value) (w : World) (h : Rd w F 2 A n xs) (hnc : n ≤ c) (hcm : c ≤ maxLen) (hm : 1 ≤ most) (hm2 : most ≤ 1152921504606) (hn2 : n ≤ 1152921504606) :
    Calls Try.prog 93 #[.slice A n c, .int .i64 most] w (NewParts 133 w F n xs most) := by
  obtain ⟨i0, hi0, iz0, iz1, iz2⟩ := info_parts kids_info
  have HH := Lib.hid h
  clear h
  go_enter Try.func93, Try.ntmps93
  go_wp2
  go_loopg [0, 5] n (fun g l vs wr => ∃ (k m c' : Nat) (v : Value) (vals : List Value) (B : Option Addr), g = m ∧ Hid (n = k * most + m) ∧ k ≤ n ∧ l = .slice B m c' ∧ v = vs ∧ m ≤ c' ∧ c' ≤ maxLen ∧ (k = 0 ∨ 0 < m) ∧ wr.ownsRow w.heap.size 133 1 v k vals ∧ Parts w F xs most k vals ∧ Rd w F 2 B m (xs.drop (k * most * 2)) ∧ Below w.heap.size w wr)
  case atStart => exact ⟨0, n, c, _, [], A, rfl, Lib.hid (by omega), by omega, rfl, rfl, hnc, hcm, .inl rfl, World.ownsRow_nil _ _ _ _, fun i hi => absurd hi (by omega), by simpa using HH.out, Below.refl _ _⟩
  case round =>
    obtain ⟨k, m, c', v, vals, B, hg, hnk, hkn, rfl, rfl, hmc, hcm', hk0, hown, hpa, hrd, hbl⟩ := hrel
    have HG := Lib.hid hg
    have HO := Lib.hid hown
    have HP := Lib.hid hpa
    have HR := Lib.hid hrd
    have hsz := hbl.size
    simp only [maxLen] at hcm'
    clear hg
    by_cases hlt : most < m
    · obtain ⟨b, o, rfl, hFb, _⟩ := hrd.2 (by omega)
      have hne : ¬ c' = most := by omega
      clear hown hpa hrd
      go_wp2_with (at_builtin; refine wpList_append_any _ rfl (.tmp 10) (.tmp 15) _ rfl w.heap.size 133 i0 _ 1 24 Try.underlying167 hi0 iz0 iz1 iz2 rfl (by omega) v k vals rfl (HO.out.alloc _) (From wr.heap.size) (some ⟨wr.heap.size, 0, none⟩) 1 1 [.slice (some ⟨b, o, none⟩) most most] rfl (Rd.one wr _ _) (by intro u hu; simp at hu; subst hu; rfl) (by simp only [maxLen]; omega) (by omega) (by simp; omega) ?_; intro v2 w2 hown2 hg2 hat2)
      go_roundg (m - most)
      case measure => have := HG.out; omega
      case rel =>
        refine ⟨k + 1, m - most, c' - most, v2, vals ++ [.slice (some ⟨b, o, none⟩) most most], some ⟨b, o + most * 2, none⟩, rfl, Lib.hid (by have := hnk.out; rw [Nat.add_mul]; omega), ?_, rfl, rfl, by omega, by simp only [maxLen]; omega, .inr (by omega), hown2, HP.out.push (by have := HO.out.1; omega) (Nat.le_refl _) (by simp only [maxLen]; omega) (HR.out.take (by omega)), ?_, (hbl.alloc hsz _).grown hg2 (by simp; omega) (fun q hq => (own_lt HO.out q hq).1)⟩
        · have h1 := hnk.out
          have h2 : (k + 1) * 1 ≤ (k + 1) * most := Nat.mul_le_mul_left _ hm
          rw [Nat.add_mul] at h2
          rw [Nat.add_mul (n := k)] at h2
          omega
        · have hc := HR.out.cut (k := most) (cap := c') (by omega) hmc
          rw [if_neg hne, Option.map_some, add_eq, List.drop_drop] at hc
          have he : k * most * 2 + most * 2 = (k + 1) * most * 2 := by rw [Nat.add_mul, Nat.add_mul]; omega
          rwa [he] at hc
    · clear hown hpa hrd
      go_wp2_with (at_builtin; refine wpList_append_any _ rfl (.tmp 20) (.tmp 22) _ rfl w.heap.size 133 i0 _ 1 24 Try.underlying167 hi0 iz0 iz1 iz2 rfl (by omega) v k vals rfl (HO.out.alloc _) (From wr.heap.size) (some ⟨wr.heap.size, 0, none⟩) 1 1 [.slice B m c'] rfl (Rd.one wr _ _) (by intro u hu; simp at hu; subst hu; rfl) (by simp only [maxLen]; omega) (by omega) (by simp; omega) ?_; intro v2 w2 hown2 hg2 hat2)
      have HB := Lib.hid ((hbl.alloc hsz (.cells #[.slice B m c'] 133)).grown hg2 (by simp; omega) (fun q hq => (own_lt HO.out q hq).1))
      have HO2 := Lib.hid hown2
      clear hown2 hg2 hat2
      go_ret
      refine ⟨k, vals, B, m, c', v2, rfl, HO2.out, by have := HO.out.1; omega, ?_, hnk.out, by omega, hk0, hmc, by simp only [maxLen]; omega, ?_, HB.out⟩
      · exact HP.out.below HB.out
      · exact HR.out.below HB.out
end Go.Proofs.Ytgjphmlmndcaeaa

namespace Go.Proofs.Ytgjphmlmndcaeaa
open Go.RowKit

/-- l: a list of entries, in the slice of n elements at A; its cells, and its texts, lie in blocks of F -/
def Ents (w : World) (F : Nat → Prop) (A : Option Addr) (n : Nat) (l : List Ent) : Prop :=
  Hid (n = l.length) ∧ ∃ vs, Rd w F 2 A n vs ∧ ∀ (i : Nat) (e : Ent), l[i]? = some e → ∃ u v, vs[2 * i]? = some u ∧ vs[2 * i + 1]? = some v ∧ SB w F u e.1 ∧ SB w F v e.2

section
variable {S F G : Nat → Prop} {w w' : World} {A : Option Addr} {n : Nat} {l : List Ent}
theorem Ents.len (h : Ents w F A n l) : n = l.length := h.1
theorem Ents.nil (w : World) (F : Nat → Prop) (A : Option Addr) : Ents w F A 0 [] := ⟨rfl, [], Rd.none_ _ _ _ _, fun i e h => by simp at h⟩
theorem Ents.weak (h : Ents w F A n l) (hF : ∀ b, F b → G b) : Ents w G A n l :=
  let ⟨h1, vs, h2, h3⟩ := h; ⟨h1, vs, h2.weak hF, fun i e he => let ⟨u, v, a, b, c, d⟩ := h3 i e he; ⟨u, v, a, b, c.weak hF, d.weak hF⟩⟩
theorem Ents.chg (h : Ents w F A n l) (hc : Chg S w w') (hs : ∀ b, F b → ¬ S b) : Ents w' F A n l :=
  let ⟨h1, vs, h2, h3⟩ := h; ⟨h1, vs, h2.chg hc hs, fun i e he => let ⟨u, v, a, b, c, d⟩ := h3 i e he; ⟨u, v, a, b, c.chg hc hs, d.chg hc hs⟩⟩
theorem Ents.below (h : Ents w F A n l) (hb : Below w.heap.size w w') : Ents w' F A n l := h.chg (Chg.of_below (S := Nil) hb) (fun _ _ hf => hf)
/-- one entry: its two cells, and the two texts -/
theorem Ents.at_ {k : Nat} (h : Ents w F A n l) (hk : k < n) : ∃ b o Ak nk ck Av nv cv key val, A = some ⟨b, o, none⟩ ∧ F b ∧ l[k]? = some (key, val) ∧
    w.cell? ⟨b, o + k * 2, none⟩ = some (.slice Ak nk ck) ∧ w.cell? ⟨b, o + k * 2 + 1, none⟩ = some (.slice Av nv cv) ∧
    nk ≤ ck ∧ ck ≤ maxLen ∧ Hid (nk = key.length) ∧ Rd w F 1 Ak nk (bvs key) ∧ nv ≤ cv ∧ cv ≤ maxLen ∧ Hid (nv = val.length) ∧ Rd w F 1 Av nv (bvs val) := by
  obtain ⟨h1, vs, h2, h3⟩ := h
  have hl : k < l.length := by have : n = l.length := h1; omega
  obtain ⟨b, o, u, v, hA, hF, e1, e2, c1, c2⟩ := h2.at2 hk
  obtain ⟨u', v', e1', e2', s1, s2⟩ := h3 k l[k] (List.getElem?_eq_getElem hl)
  rw [e1] at e1'; rw [e2] at e2'
  injection e1' with e1'; injection e2' with e2'
  subst e1'; subst e2'
  obtain ⟨Ak, nk, ck, rfl, k1, k2, k3, k4⟩ := s1
  obtain ⟨Av, nv, cv, rfl, v1, v2, v3, v4⟩ := s2
  rw [Nat.mul_comm 2 k] at c1 c2
  rw [← Nat.add_assoc] at c2
  exact ⟨b, o, Ak, nk, ck, Av, nv, cv, l[k].1, l[k].2, hA, hF, List.getElem?_eq_getElem hl, c1, c2, k1, k2, k3, k4, v1, v2, v3, v4⟩
end
end Go.Proofs.Ytgjphmlmndcaeaa
