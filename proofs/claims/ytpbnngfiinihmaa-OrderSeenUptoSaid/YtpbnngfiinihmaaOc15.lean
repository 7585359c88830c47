/- WALKS: coppiceref20.Line. WALKS: coppiceref20.Check, After. WALKS: the document's After, off a set of blocks. (offs.py printed this from XRCheck) Rows of texts, and rows of entries, of a call's own. -/
import Derived.Test.YtpbnngfiinihmaaOc14
import Derived.Test.YtpbnngfiinihmaaOc04
import Derived.Test.YtpbnngfiinihmaaOc10
import Derived.Test.YtpbnngfiinihmaaOc12
import Derived.Test.YtpbnngfiinihmaaOc09
import Derived.Test.YtpbnngfiinihmaaOc03
import Derived.Test.YtpbnngfiinihmaaOc07
set_option linter.unusedVariables false
set_option linter.unusedSimpArgs false
namespace Go.Proofs.Ytpbnngfiinihmaa
open Go.RowKit
noncomputable def rlInC : Code := codeOr (Try.f9.body.bind (blockIn 2))
theorem CallsM.same {w : World} {F : Nat → Prop} {b o n k : Nat} {l : List CallD} (h : CallsM w F (some ⟨b, o, none⟩) n l) (hk : k < n) : ∃ c x, l[k]? = some c ∧ F b ∧ CallW w F c x ∧ CallAt w b (o + k * 17) c x := by
  obtain ⟨b', o', c, x, e, f, hl, hw, ha⟩ := h.at_ hk
  injection e with e; injection e with e1 e2; subst e1; subst e2
  exact ⟨c, x, hl, f, hw, ha⟩
set_option maxRecDepth 100000 in
set_option maxHeartbeats 4000000 in
theorem rl_in (F G : Nat → Prop) (b o n c i pn vc : Nat) (vA : Option Addr) (l : List CallD) (idx : List Nat) (w : World) {u1 u2 u6 u7 u8 u9 u10 u11 u12 u13 u14 u15 u16 u17 u18 u19 u20 u21 u22 u23 u24 u25 u26 u27 u28 u29 u30 u31 u32 u33 u34 u35 u36 u37 u38 u39 u40 u41 u42 u43 u44 u45 u46 u47 u48 u49 u50 u51 u52 u53 u54 u55 u56 : Value} (Q : Exit → Act → World → Prop)
    (HQP : Hid (∀ c t (a : Act) w, Q (.panic c) ⟨t, a.defers⟩ w → Q (.panic c) a w))
    (HL : Hid (CallsM w F (some ⟨b, o, none⟩) n l)) (hn : n ≤ 1048576) (hi : i < n) (HR : Hid (Rd w G 1 vA pn (pvs idx))) (HX : Hid (∀ x, x ∈ idx → x < n)) (hpn : pn ≤ n)
    (hexit : ∀ (v21 v22 v23 v24 v25 v26 v27 v28 v29 v30 v31 v32 v33 v34 v35 v36 v37 v38 v39 v40 v41 : Value) (k : Nat) (w' : World), k ≤ pn → (∀ j, k ≤ j → ∀ x, idx[j]? = some x → ptOf l i < ptOf l x) → (0 < k → ∀ x, idx[k - 1]? = some x → ptOf l x ≤ ptOf l i) → Chg Nil w w' → Q (.exit 2) ⟨(.slice (some ⟨b, o, none⟩) n c :: u1 :: u2 :: .slice vA pn vc :: .int .i64 i :: .int .i64 k :: u6 :: u7 :: u8 :: u9 :: u10 :: u11 :: u12 :: u13 :: u14 :: u15 :: u16 :: u17 :: u18 :: u19 :: u20 :: v21 :: v22 :: v23 :: v24 :: v25 :: v26 :: v27 :: v28 :: v29 :: v30 :: v31 :: v32 :: v33 :: v34 :: v35 :: v36 :: v37 :: v38 :: v39 :: v40 :: v41 :: u42 :: u43 :: u44 :: u45 :: u46 :: u47 :: u48 :: u49 :: u50 :: u51 :: u52 :: u53 :: u54 :: u55 :: u56 :: []).toArray, []⟩ w') :
    Code.wp Try.prog rlInC Q ⟨(.slice (some ⟨b, o, none⟩) n c :: u1 :: u2 :: .slice vA pn vc :: .int .i64 i :: .int .i64 pn :: u6 :: u7 :: u8 :: u9 :: u10 :: u11 :: u12 :: u13 :: u14 :: u15 :: u16 :: u17 :: u18 :: u19 :: u20 :: u21 :: u22 :: u23 :: u24 :: u25 :: u26 :: u27 :: u28 :: u29 :: u30 :: u31 :: u32 :: u33 :: u34 :: u35 :: u36 :: u37 :: u38 :: u39 :: u40 :: u41 :: u42 :: u43 :: u44 :: u45 :: u46 :: u47 :: u48 :: u49 :: u50 :: u51 :: u52 :: u53 :: u54 :: u55 :: u56 :: []).toArray, []⟩ w := by
  have HEX := Lib.hid hexit
  clear hexit
  conv => arg 2; whnf
  go_loopg [5] pn (fun g' av wz => ∃ k : Nat, g' = k ∧ k ≤ pn ∧ av = .int .i64 k ∧ (∀ j, k ≤ j → ∀ x, idx[j]? = some x → ptOf l i < ptOf l x) ∧ Chg Nil w wz)
  case atStart => exact ⟨pn, rfl, Nat.le_refl _, rfl, fun j hj x hx => by have h1 := HR.out.1; rw [pvs_len] at h1; have := (List.getElem?_eq_some_iff.1 hx).1; omega, Chg.refl _ _⟩
  case round =>
    obtain ⟨k, hg, hk, rfl, hhi, hc⟩ := hrel
    have HG := Lib.hid hg
    have HHI := Lib.hid hhi
    have HC := Lib.hid hc
    clear hg hhi hc
    by_cases h0 : 0 < k
    · have h0' : (0 : Int) < (k : Int) := by omega
      have hw1 := IntWalk.i64_in ((k : Int) - 1) (by omega)
      obtain ⟨c1, x1, hl1, _, _, a1⟩ := (HL.out.chg HC.out (fun _ _ h => h)).same hi
      have hk1 : k - 1 < pn := by omega
      obtain ⟨b2, o2, u, rfl, _, e2, a2⟩ := (HR.out.chg HC.out (fun _ _ h => h)).at_ hk1
      have hil : k - 1 < idx.length := by have h1 := HR.out.1; rw [pvs_len] at h1; omega
      obtain ⟨p, hp⟩ : ∃ p, idx[k - 1]? = some p := ⟨_, List.getElem?_eq_getElem hil⟩
      rw [pvs_at hp] at e2
      injection e2 with e2
      subst e2
      have hpn2 : p < n := HX.out p (List.mem_of_getElem? hp)
      obtain ⟨c3, x3, hl3, _, _, a3⟩ := (HL.out.chg HC.out (fun _ _ h => h)).same hpn2
      have z1 := a1.c11
      have z3 := a3.c11
      have HP := Lib.hid hp
      have HT1 := Lib.hid (ptOf_at hl1)
      have HT3 := Lib.hid (ptOf_at hl3)
      have w7 : ((k : Int) - 1).toNat = k - 1 := by omega
      have w8 : (0 : Int) ≤ (k : Int) - 1 := by omega
      have w9 : (k : Int) - 1 < pn := by omega
      clear hp hl1 hl3 a1 a3
      have e2' := a2
      have w6 : (1 : Int) ≤ (k : Int) := by omega
      have S0 : wr.drew.cell? ⟨b2, o2 + (k - 1), none⟩ = some (.int .i64 p) ∧ wr.drew.cell? ⟨b, o + p * 17 + 11, none⟩ = some (.int .i64 c3.pt) ∧ wr.drew.cell? ⟨b, o + i * 17 + 11, none⟩ = some (.int .i64 c1.pt) := ⟨e2', z3, z1⟩
      have hi2 : (p : Int) < n := by omega
      clear e2' z1 z3 a2
      go_upto_region 7 with fail
      refine wp_region_V (fun w' => w'.cell? ⟨b2, o2 + (k - 1), none⟩ = some (.int .i64 p) ∧ w'.cell? ⟨b, o + p * 17 + 11, none⟩ = some (.int .i64 c3.pt) ∧ w'.cell? ⟨b, o + i * 17 + 11, none⟩ = some (.int .i64 c1.pt)) (by kernel_rfl) ?_
      refine wpV_take (i := 0) (v := ?_) rfl (by kernel_rfl) (by kernel_rfl) (by kernel_rfl) (by first | exact fun _ _ _ h => h | exact fun c a w h => HQP.out c _ a w h) S0 (Or.inl ⟨by kernel_rfl, ?_⟩) ?_
      rotate_left
      · intro w hSw
        go_simp
        try with_reducible rfl
      try simp only [Act.put, List.setIfInBounds_toArray, List.set_cons_zero, List.set_cons_succ]
      refine wpV_take (i := 1) (v := ?_) rfl (by kernel_rfl) (by kernel_rfl) (by kernel_rfl) (by first | exact fun _ _ _ h => h | exact fun c a w h => HQP.out c _ a w h) S0 (Or.inl ⟨by kernel_rfl, ?_⟩) ?_
      rotate_left
      · intro w hSw
        go_simp
        try with_reducible rfl
      try simp only [Act.put, List.setIfInBounds_toArray, List.set_cons_zero, List.set_cons_succ]
      refine wpV_take (i := 2) (v := ?_) rfl (by kernel_rfl) (by kernel_rfl) (by kernel_rfl) (by first | exact fun _ _ _ h => h | exact fun c a w h => HQP.out c _ a w h) S0 (Or.inl ⟨by kernel_rfl, ?_⟩) ?_
      rotate_left
      · intro w hSw
        go_simp
        try with_reducible rfl
      try simp only [Act.put, List.setIfInBounds_toArray, List.set_cons_zero, List.set_cons_succ]
      refine wpV_take (i := 3) (v := ?_) rfl (by kernel_rfl) (by kernel_rfl) (by kernel_rfl) (by first | exact fun _ _ _ h => h | exact fun c a w h => HQP.out c _ a w h) S0 (Or.inl ⟨by kernel_rfl, ?_⟩) ?_
      rotate_left
      · intro w hSw
        go_simp
        try with_reducible rfl
      try simp only [Act.put, List.setIfInBounds_toArray, List.set_cons_zero, List.set_cons_succ]
      refine wpV_take (i := 4) (v := ?_) rfl (by kernel_rfl) (by kernel_rfl) (by kernel_rfl) (by first | exact fun _ _ _ h => h | exact fun c a w h => HQP.out c _ a w h) S0 (Or.inl ⟨by kernel_rfl, ?_⟩) ?_
      rotate_left
      · intro w hSw
        go_simp
        try with_reducible rfl
      try simp only [Act.put, List.setIfInBounds_toArray, List.set_cons_zero, List.set_cons_succ]
      refine wpV_take (i := 5) (v := ?_) rfl (by kernel_rfl) (by kernel_rfl) (by kernel_rfl) (by first | exact fun _ _ _ h => h | exact fun c a w h => HQP.out c _ a w h) S0 (Or.inl ⟨by kernel_rfl, ?_⟩) ?_
      rotate_left
      · intro w hSw
        go_simp
        try with_reducible rfl
      try simp only [Act.put, List.setIfInBounds_toArray, List.set_cons_zero, List.set_cons_succ]
      refine wpV_take (i := 6) (v := ?_) rfl (by kernel_rfl) (by kernel_rfl) (by kernel_rfl) (by first | exact fun _ _ _ h => h | exact fun c a w h => HQP.out c _ a w h) S0 (Or.inl ⟨by kernel_rfl, ?_⟩) ?_
      rotate_left
      · intro w hSw
        go_simp
        try with_reducible rfl
      try simp only [Act.put, List.setIfInBounds_toArray, List.set_cons_zero, List.set_cons_succ]
      refine wpV_take (i := 7) (v := ?_) rfl (by kernel_rfl) (by kernel_rfl) (by kernel_rfl) (by first | exact fun _ _ _ h => h | exact fun c a w h => HQP.out c _ a w h) S0 (Or.inl ⟨by kernel_rfl, ?_⟩) ?_
      rotate_left
      · intro w hSw
        go_simp
        try with_reducible rfl
      try simp only [Act.put, List.setIfInBounds_toArray, List.set_cons_zero, List.set_cons_succ]
      refine wpV_take (i := 12) (v := ?_) rfl (by kernel_rfl) (by kernel_rfl) (by kernel_rfl) (by first | exact fun _ _ _ h => h | exact fun c a w h => HQP.out c _ a w h) S0 (Or.inl ⟨by kernel_rfl, ?_⟩) ?_
      rotate_left
      · intro w hSw
        go_simp
        try with_reducible rfl
      try simp only [Act.put, List.setIfInBounds_toArray, List.set_cons_zero, List.set_cons_succ]
      refine wpV_take (i := 13) (v := ?_) rfl (by kernel_rfl) (by kernel_rfl) (by kernel_rfl) (by first | exact fun _ _ _ h => h | exact fun c a w h => HQP.out c _ a w h) S0 (Or.inl ⟨by kernel_rfl, ?_⟩) ?_
      rotate_left
      · intro w hSw
        go_simp
        try with_reducible rfl
      try simp only [Act.put, List.setIfInBounds_toArray, List.set_cons_zero, List.set_cons_succ]
      refine wpV_take (i := 14) (v := ?_) rfl (by kernel_rfl) (by kernel_rfl) (by kernel_rfl) (by first | exact fun _ _ _ h => h | exact fun c a w h => HQP.out c _ a w h) S0 (Or.inl ⟨by kernel_rfl, ?_⟩) ?_
      rotate_left
      · intro w hSw
        go_simp
        try with_reducible rfl
      try simp only [Act.put, List.setIfInBounds_toArray, List.set_cons_zero, List.set_cons_succ]
      refine wpV_take (i := 15) (v := ?_) rfl (by kernel_rfl) (by kernel_rfl) (by kernel_rfl) (by first | exact fun _ _ _ h => h | exact fun c a w h => HQP.out c _ a w h) S0 (Or.inl ⟨by kernel_rfl, ?_⟩) ?_
      rotate_left
      · intro w hSw
        go_simp
        try with_reducible rfl
      try simp only [Act.put, List.setIfInBounds_toArray, List.set_cons_zero, List.set_cons_succ]
      refine wpV_take (i := 8) (v := ?_) rfl (by kernel_rfl) (by kernel_rfl) (by kernel_rfl) (by first | exact fun _ _ _ h => h | exact fun c a w h => HQP.out c _ a w h) S0 (Or.inl ⟨by kernel_rfl, ?_⟩) ?_
      rotate_left
      · intro w hSw
        obtain ⟨s0, s1, s2⟩ := hSw
        go_simp
        try with_reducible rfl
      try simp only [Act.put, List.setIfInBounds_toArray, List.set_cons_zero, List.set_cons_succ]
      refine wpV_take (i := 9) (v := ?_) rfl (by kernel_rfl) (by kernel_rfl) (by kernel_rfl) (by first | exact fun _ _ _ h => h | exact fun c a w h => HQP.out c _ a w h) S0 (Or.inl ⟨by kernel_rfl, ?_⟩) ?_
      rotate_left
      · intro w hSw
        go_simp
        try with_reducible rfl
      try simp only [Act.put, List.setIfInBounds_toArray, List.set_cons_zero, List.set_cons_succ]
      refine wpV_take (i := 10) (v := ?_) rfl (by kernel_rfl) (by kernel_rfl) (by kernel_rfl) (by first | exact fun _ _ _ h => h | exact fun c a w h => HQP.out c _ a w h) S0 (Or.inl ⟨by kernel_rfl, ?_⟩) ?_
      rotate_left
      · intro w hSw
        go_simp
        try with_reducible rfl
      try simp only [Act.put, List.setIfInBounds_toArray, List.set_cons_zero, List.set_cons_succ]
      refine wpV_take (i := 11) (v := ?_) rfl (by kernel_rfl) (by kernel_rfl) (by kernel_rfl) (by first | exact fun _ _ _ h => h | exact fun c a w h => HQP.out c _ a w h) S0 (Or.inl ⟨by kernel_rfl, ?_⟩) ?_
      rotate_left
      · intro w hSw
        obtain ⟨s0, s1, s2⟩ := hSw
        go_simp
        try with_reducible rfl
      try simp only [Act.put, List.setIfInBounds_toArray, List.set_cons_zero, List.set_cons_succ]
      refine wpV_take (i := 16) (v := ?_) rfl (by kernel_rfl) (by kernel_rfl) (by kernel_rfl) (by first | exact fun _ _ _ h => h | exact fun c a w h => HQP.out c _ a w h) S0 (Or.inl ⟨by kernel_rfl, ?_⟩) ?_
      rotate_left
      · intro w hSw
        obtain ⟨s0, s1, s2⟩ := hSw
        go_simp
        try with_reducible rfl
      try simp only [Act.put, List.setIfInBounds_toArray, List.set_cons_zero, List.set_cons_succ]
      refine wpV_take (i := 17) (v := ?_) rfl (by kernel_rfl) (by kernel_rfl) (by kernel_rfl) (by first | exact fun _ _ _ h => h | exact fun c a w h => HQP.out c _ a w h) S0 (Or.inl ⟨by kernel_rfl, ?_⟩) ?_
      rotate_left
      · intro w hSw
        go_simp
        try with_reducible rfl
      try simp only [Act.put, List.setIfInBounds_toArray, List.set_cons_zero, List.set_cons_succ]
      refine wpV_take (i := 18) (v := ?_) rfl (by kernel_rfl) (by kernel_rfl) (by kernel_rfl) (by first | exact fun _ _ _ h => h | exact fun c a w h => HQP.out c _ a w h) S0 (Or.inl ⟨by kernel_rfl, ?_⟩) ?_
      rotate_left
      · intro w hSw
        go_simp
        try with_reducible rfl
      try simp only [Act.put, List.setIfInBounds_toArray, List.set_cons_zero, List.set_cons_succ]
      refine wpV_done (by kernel_rfl) ?_ _
      by_cases hgt : c3.pt > c1.pt
      · have hw2 := IntWalk.i64_in ((k : Int) - 1) (by omega)
        have w10 : (k : Int) - 1 = ((k - 1 : Nat) : Int) := by omega
        go_simp
        go_wp2
        go_roundg (k - 1)
        case measure => have := HG.out; omega
        case rel =>
          refine ⟨k - 1, rfl, by omega, by go_num, fun j hj x hx => ?_, HC.out.drew⟩
          rcases Nat.lt_or_ge j k with h1 | h1
          · have : j = k - 1 := by omega
            subst this
            rw [HP.out] at hx; injection hx with hx; subst hx
            rw [HT3.out, HT1.out]; exact hgt
          · exact HHI.out j h1 x hx
      · go_simp
        go_wp2
        exact HEX.out _ _ _ _ _ _ _ _ _ _ _ _ _ _ _ _ _ _ _ _ _ k _ hk HHI.out (fun _ x hx => by rw [HP.out] at hx; injection hx with hx; subst hx; rw [HT3.out, HT1.out]; omega) HC.out.drew
    · have h00 : k = 0 := by omega
      subst h00
      have S0 : True := trivial
      go_upto_region 7 with fail
      refine wp_region_V (fun w' => True) (by kernel_rfl) ?_
      refine wpV_take (i := 0) (v := ?_) rfl (by kernel_rfl) (by kernel_rfl) (by kernel_rfl) (by first | exact fun _ _ _ h => h | exact fun c a w h => HQP.out c _ a w h) S0 (Or.inl ⟨by kernel_rfl, ?_⟩) ?_
      rotate_left
      · intro w hSw
        go_simp
        try with_reducible rfl
      try simp only [Act.put, List.setIfInBounds_toArray, List.set_cons_zero, List.set_cons_succ]
      refine wpV_take (i := 1) (v := ?_) rfl (by kernel_rfl) (by kernel_rfl) (by kernel_rfl) (by first | exact fun _ _ _ h => h | exact fun c a w h => HQP.out c _ a w h) S0 (Or.inl ⟨by kernel_rfl, ?_⟩) ?_
      rotate_left
      · intro w hSw
        go_simp
        try with_reducible rfl
      try simp only [Act.put, List.setIfInBounds_toArray, List.set_cons_zero, List.set_cons_succ]
      refine wpV_take (i := 2) (v := ?_) rfl (by kernel_rfl) (by kernel_rfl) (by kernel_rfl) (by first | exact fun _ _ _ h => h | exact fun c a w h => HQP.out c _ a w h) S0 (Or.inl ⟨by kernel_rfl, ?_⟩) ?_
      rotate_left
      · intro w hSw
        go_simp
        try with_reducible rfl
      try simp only [Act.put, List.setIfInBounds_toArray, List.set_cons_zero, List.set_cons_succ]
      refine wpV_take (i := 3) (v := undef) rfl (by kernel_rfl) (by kernel_rfl) (by kernel_rfl) (fun c a w h => HQP.out c _ a w h) S0 (Or.inr ⟨by kernel_rfl, rfl⟩) ?_
      try simp only [Act.put, List.setIfInBounds_toArray, List.set_cons_zero, List.set_cons_succ]
      refine wpV_take (i := 4) (v := undef) rfl (by kernel_rfl) (by kernel_rfl) (by kernel_rfl) (fun c a w h => HQP.out c _ a w h) S0 (Or.inr ⟨by kernel_rfl, rfl⟩) ?_
      try simp only [Act.put, List.setIfInBounds_toArray, List.set_cons_zero, List.set_cons_succ]
      refine wpV_take (i := 5) (v := undef) rfl (by kernel_rfl) (by kernel_rfl) (by kernel_rfl) (fun c a w h => HQP.out c _ a w h) S0 (Or.inr ⟨by kernel_rfl, rfl⟩) ?_
      try simp only [Act.put, List.setIfInBounds_toArray, List.set_cons_zero, List.set_cons_succ]
      refine wpV_take (i := 6) (v := undef) rfl (by kernel_rfl) (by kernel_rfl) (by kernel_rfl) (fun c a w h => HQP.out c _ a w h) S0 (Or.inr ⟨by kernel_rfl, rfl⟩) ?_
      try simp only [Act.put, List.setIfInBounds_toArray, List.set_cons_zero, List.set_cons_succ]
      refine wpV_take (i := 7) (v := undef) rfl (by kernel_rfl) (by kernel_rfl) (by kernel_rfl) (fun c a w h => HQP.out c _ a w h) S0 (Or.inr ⟨by kernel_rfl, rfl⟩) ?_
      try simp only [Act.put, List.setIfInBounds_toArray, List.set_cons_zero, List.set_cons_succ]
      refine wpV_take (i := 8) (v := undef) rfl (by kernel_rfl) (by kernel_rfl) (by kernel_rfl) (fun c a w h => HQP.out c _ a w h) S0 (Or.inr ⟨by kernel_rfl, rfl⟩) ?_
      try simp only [Act.put, List.setIfInBounds_toArray, List.set_cons_zero, List.set_cons_succ]
      refine wpV_take (i := 9) (v := undef) rfl (by kernel_rfl) (by kernel_rfl) (by kernel_rfl) (fun c a w h => HQP.out c _ a w h) S0 (Or.inr ⟨by kernel_rfl, rfl⟩) ?_
      try simp only [Act.put, List.setIfInBounds_toArray, List.set_cons_zero, List.set_cons_succ]
      refine wpV_take (i := 10) (v := undef) rfl (by kernel_rfl) (by kernel_rfl) (by kernel_rfl) (fun c a w h => HQP.out c _ a w h) S0 (Or.inr ⟨by kernel_rfl, rfl⟩) ?_
      try simp only [Act.put, List.setIfInBounds_toArray, List.set_cons_zero, List.set_cons_succ]
      refine wpV_take (i := 11) (v := undef) rfl (by kernel_rfl) (by kernel_rfl) (by kernel_rfl) (fun c a w h => HQP.out c _ a w h) S0 (Or.inr ⟨by kernel_rfl, rfl⟩) ?_
      try simp only [Act.put, List.setIfInBounds_toArray, List.set_cons_zero, List.set_cons_succ]
      refine wpV_take (i := 12) (v := undef) rfl (by kernel_rfl) (by kernel_rfl) (by kernel_rfl) (fun c a w h => HQP.out c _ a w h) S0 (Or.inr ⟨by kernel_rfl, rfl⟩) ?_
      try simp only [Act.put, List.setIfInBounds_toArray, List.set_cons_zero, List.set_cons_succ]
      refine wpV_take (i := 13) (v := undef) rfl (by kernel_rfl) (by kernel_rfl) (by kernel_rfl) (fun c a w h => HQP.out c _ a w h) S0 (Or.inr ⟨by kernel_rfl, rfl⟩) ?_
      try simp only [Act.put, List.setIfInBounds_toArray, List.set_cons_zero, List.set_cons_succ]
      refine wpV_take (i := 14) (v := undef) rfl (by kernel_rfl) (by kernel_rfl) (by kernel_rfl) (fun c a w h => HQP.out c _ a w h) S0 (Or.inr ⟨by kernel_rfl, rfl⟩) ?_
      try simp only [Act.put, List.setIfInBounds_toArray, List.set_cons_zero, List.set_cons_succ]
      refine wpV_take (i := 15) (v := undef) rfl (by kernel_rfl) (by kernel_rfl) (by kernel_rfl) (fun c a w h => HQP.out c _ a w h) S0 (Or.inr ⟨by kernel_rfl, rfl⟩) ?_
      try simp only [Act.put, List.setIfInBounds_toArray, List.set_cons_zero, List.set_cons_succ]
      refine wpV_take (i := 16) (v := undef) rfl (by kernel_rfl) (by kernel_rfl) (by kernel_rfl) (fun c a w h => HQP.out c _ a w h) S0 (Or.inr ⟨by kernel_rfl, rfl⟩) ?_
      try simp only [Act.put, List.setIfInBounds_toArray, List.set_cons_zero, List.set_cons_succ]
      refine wpV_take (i := 17) (v := undef) rfl (by kernel_rfl) (by kernel_rfl) (by kernel_rfl) (fun c a w h => HQP.out c _ a w h) S0 (Or.inr ⟨by kernel_rfl, rfl⟩) ?_
      try simp only [Act.put, List.setIfInBounds_toArray, List.set_cons_zero, List.set_cons_succ]
      refine wpV_take (i := 18) (v := ?_) rfl (by kernel_rfl) (by kernel_rfl) (by kernel_rfl) (by first | exact fun _ _ _ h => h | exact fun c a w h => HQP.out c _ a w h) S0 (Or.inl ⟨by kernel_rfl, ?_⟩) ?_
      rotate_left
      · intro w hSw
        go_simp
        try with_reducible rfl
      try simp only [Act.put, List.setIfInBounds_toArray, List.set_cons_zero, List.set_cons_succ]
      refine wpV_done (by kernel_rfl) ?_ _
      go_simp
      go_wp2
      exact HEX.out _ _ _ _ _ _ _ _ _ _ _ _ _ _ _ _ _ _ _ _ _ 0 _ hk HHI.out (fun h => absurd h (by omega)) HC.out.drew
set_option maxRecDepth 100000 in
set_option maxHeartbeats 4000000 in
theorem rline_any (F : Nat → Prop) (A : Option Addr) (n c : Nat) (l : List CallD) (w : World) (hL : CallsM w F A n l) (hn : n ≤ 1048576) :
    Calls Try.prog 9 #[.slice A n c] w (LineAns l n w) := by
  have HL := Lib.hid hL.lt
  have HN := Lib.hid hL.len
  clear hL
  obtain ⟨i0, hi0, iz0, iz1, iz2⟩ := info_parts ints_info
  go_enter Try.func9, Try.ntmps9
  go_wp2
  go_loopg [4, 3] n (fun g' iv v wz => ∃ (k pn vc : Nat) (vA : Option Addr) (idx : List Nat), g' = n - k ∧ k ≤ n ∧ iv = .int .i64 k ∧ v = .slice vA pn vc ∧ pn = idx.length ∧ LineN l k idx ∧ pn ≤ k ∧ wz.ownsRow w.heap.size 3 1 (.slice vA pn vc) pn (pvs idx) ∧ Below w.heap.size w wz)
  case atStart => exact ⟨0, 0, 0, none, [], by omega, by omega, rfl, rfl, rfl, LineN.zero _, Nat.le_refl _, ⟨rfl, .inl ⟨rfl, rfl⟩⟩, Below.refl _ _⟩
  case round =>
    obtain ⟨k, pn, vc, vA, idx, hg, hk, rfl, rfl, hp, hli, hpk, hown, hb⟩ := hrel
    have HG := Lib.hid hg
    have HO := Lib.hid hown
    have HB := Lib.hid hb
    have HP := Lib.hid hp
    have HLI := Lib.hid hli
    have hcap : pn ≤ vc ∧ vc ≤ maxLen := by obtain ⟨A', c', e, h1, h2⟩ := own_val hown; injection e with _ _ e; subst e; exact ⟨h1, h2⟩
    have hc1 := hcap.1
    clear hg hown hb hp hli
    by_cases hlt : k < n
    · have hlt' : (k : Int) < (n : Int) := by omega
      obtain ⟨b, o, cl, x, rfl, hFb, hlk, hw, hat⟩ := (HL.out.below HB.out).at_ hlt
      have z11 := hat.c11
      have HK := Lib.hid (ptOf_at hlk)
      clear hw hlk hFb hat
      by_cases hpt : cl.pt < 0
      · go_wp2
        go_roundg (n - (k + 1))
        case measure => have := HG.out; omega
        case rel => exact ⟨k + 1, pn, vc, vA, idx, rfl, by omega, by go_num, rfl, HP.out, HLI.out.skip (by rw [HK.out]; exact hpt), by omega, HO.out, HB.out⟩
      · have hnx : ∀ y, y ∈ idx → y < n := fun y hy => by have := ((HLI.out.2 y).1 hy).1; omega
        have HNX := Lib.hid hnx
        have HRD := Lib.hid (Rd.of_own HO.out)
        have hnn : pn ≤ n := by omega
        clear hnx
        go_upto_region 7 with fail
        refine rl_in _ _ b o n c k pn vc vA l idx wr _ (by exact Lib.hid (fun _ _ _ _ h => h)) (Lib.hid (HL.out.below HB.out)) hn hlt HRD HNX hnn ?_
        intro v21 v22 v23 v24 v25 v26 v27 v28 v29 v30 v31 v32 v33 v34 v35 v36 v37 v38 v39 v40 v41 j w1 hj hhi hlo hc1
        have HC1 := Lib.hid hc1
        have HHI := Lib.hid hhi
        have HLO := Lib.hid hlo
        have HR1 := Lib.hid (HRD.out.chg hc1 (fun _ _ h => h))
        have hj1 : j ≤ vc := by omega
        have hj2 : (j : Int) ≤ (vc : Int) := by omega
        have hj3 : (j : Int) ≤ (pn : Int) := by omega
        have hj4 : (pn : Int) ≤ (vc : Int) := by omega
        clear hc1 hhi hlo
        have HM := Lib.hid (own_made w1 3 1)
        go_upto_region 10 with (at_builtin; go_loud (refine wpList_append_any _ rfl (.tmp 42) (.tmp 45) _ rfl w1.heap.size 3 i0 _ 1 8 Try.underlying24 hi0 iz0 iz1 iz2 rfl (by omega) (.slice (some ⟨w1.heap.size, 0, none⟩) 0 0) 0 [] rfl HM.out (From w.heap.size) vA j vc (pvs (idx.take j)) rfl (by have := (HR1.out.alloc (.cells #[] 3)).take (k := j) hj; simpa [pvs, List.map_take] using this) (by intro u hu; simp only [pvs, List.mem_map] at hu; obtain ⟨q, _, rfl⟩ := hu; rfl) (by simp only [maxLen]; omega) (by omega) (by simp) ?_); intro v6 w6 hown6 hg6 hat6; rw [Nat.zero_add, List.nil_append] at hown6; obtain ⟨A6, c6, rfl, _, _⟩ := own_val hown6; have HO6 := Lib.hid hown6; have HG6 := Lib.hid (chg_grown hg6); have hs6 : w1.heap.size + 1 ≤ w6.heap.size := (by have := hg6.size; simpa using this); clear hown6 hg6 hat6)
        have HL6 : Hid ((pvs (idx.take j)).length = j) := Lib.hid (by have := HO6.out.1; simpa using this)
        go_upto_region 11 with (at_builtin; go_loud (refine wpList_append_any _ rfl (.tmp 47) (.tmp 49) _ rfl w1.heap.size 3 i0 _ 1 8 Try.underlying24 hi0 iz0 iz1 iz2 rfl (by omega) (.slice A6 j c6) j (pvs (idx.take j)) rfl (own_below HO6.out ((Below.refl _ _).alloc (Nat.le_refl _) _)) (From w6.heap.size) (some ⟨w6.heap.size, 0, none⟩) 1 1 [.int .i64 k] rfl (Rd.one w6 (.int .i64 k) 3) (by simp [Value.oneCell']) (by simp only [maxLen]; omega) (by omega) (by simp; omega) ?_); intro v7 w7 hown7 hg7 hat7; obtain ⟨A7, c7, rfl, _, _⟩ := own_val hown7; have HO7 := Lib.hid hown7; have HG7 := Lib.hid (chg_grown hg7); have hs7 : w6.heap.size + 1 ≤ w7.heap.size := (by have := hg7.size; simpa using this); clear hown7 hg7 hat7)
        have hob6 : ∀ g, (Value.slice A6 j c6).ownBlock = some g → w1.heap.size ≤ g := fun g hg => (own_lt HO6.out g hg).1
        have hob7 : ∀ g, (Value.slice A7 (j + 1) c7).ownBlock = some g → w1.heap.size ≤ g := fun g hg => (own_lt HO7.out g hg).1
        have HB7 : Hid (Below w1.heap.size w1 w7) := Lib.hid (by
          have b1 : Below w1.heap.size w1 (w1.alloc (.cells #[] 3)) := (Below.refl _ _).alloc (Nat.le_refl _) _
          have b2 := HG6.out.below_of (B := w1.heap.size) (by simp) (fun b hb e => by simp [Value.ownBlock] at e; omega)
          have b3 : Below w1.heap.size w6 (w6.alloc (.cells #[.int .i64 k] 3)) := (Below.refl _ _).alloc (by omega) _
          have b4 := HG7.out.below_of (B := w1.heap.size) (by simp; omega) (fun b hb e => by have := hob6 _ e; omega)
          exact ((b1.trans b2).trans b3).trans b4)
        go_wp2_with (at_builtin; go_loud (refine wpList_append_any _ rfl (.tmp 51) (.tmp 54) _ rfl w1.heap.size 3 i0 _ 1 8 Try.underlying24 hi0 iz0 iz1 iz2 rfl (by omega) (.slice A7 (j + 1) c7) (j + 1) (pvs (idx.take j) ++ [.int .i64 k]) rfl HO7.out (From w.heap.size) _ (pn - j) _ (pvs (idx.drop j)) rfl (by have h := (HR1.out.below HB7.out).cut (k := j) (cap := vc) hj (by omega); first | simpa [pvs, List.map_drop] using h | (rename_i hne; simpa [pvs, List.map_drop, hne] using h) | (rename_i hne _; simpa [pvs, List.map_drop, hne] using h)) (by intro u hu; simp only [pvs, List.mem_map] at hu; obtain ⟨q, _, rfl⟩ := hu; rfl) (by simp only [maxLen]; omega) (by omega) (by omega) ?_); intro v8 w8 hown8 hg8 hat8; obtain ⟨A8, c8, rfl, _, _⟩ := own_val hown8; have HO8 := Lib.hid hown8; have HG8 := Lib.hid (chg_grown hg8); clear hown8 hg8 hat8)
        all_goals
          go_roundg (n - (k + 1))
          case measure => have := HG.out; omega
          case rel =>
            have hle : j + 1 + (pn - j) = pn + 1 := by omega
            have hz1 : w.heap.size ≤ w1.heap.size := Nat.le_trans HB.out.size HC1.out.size
            have hz7 := HB7.out.size
            refine ⟨k + 1, pn + 1, c8, A8, idx.take j ++ k :: idx.drop j, rfl, by omega, by go_num, by rw [hle], ?_, ?_, by omega, ?_, ?_⟩
            · have h1 := HP.out
              rw [List.length_append, List.length_cons, List.length_take, List.length_drop]; omega
            · have h1 := HP.out
              have hup := HLI.out.1
              refine HLI.out.put (by rw [HK.out]; omega) (by omega) (fun i hi y hy => ?_) HHI.out
              have h0 : 0 < j := by omega
              have hil : j - 1 < idx.length := by omega
              have hlast := HLO.out h0 idx[j - 1] (List.getElem?_eq_getElem hil)
              rcases Nat.lt_or_ge i (j - 1) with h2 | h2
              · have hy2 := (List.getElem?_eq_some_iff.1 hy)
                obtain ⟨hy3, hy4⟩ := hy2
                have h3 := List.pairwise_iff_getElem.1 hup i (j - 1) hy3 hil h2
                rw [hy4] at h3
                unfold RL at h3
                omega
              · have : i = j - 1 := by omega
                subst this
                rw [List.getElem?_eq_getElem hil] at hy
                injection hy with hy
                rw [← hy]; exact hlast
            · have h1 := HO8.out
              rw [hle] at h1
              have e : pvs (idx.take j ++ k :: idx.drop j) = pvs (idx.take j) ++ [.int .i64 (k : Int)] ++ pvs (idx.drop j) := by simp [pvs]
              rw [e]
              exact own_mono h1 hz1
            · exact ((HB.out.trans (HC1.out.below.mono HB.out.size)).trans (HB7.out.mono hz1)).trans (HG8.out.below_of (by omega) (fun b hb e => by have := hob7 _ e; omega))
    · have hlt' : ¬ (k : Int) < (n : Int) := by omega
      have hkn : k = n := by omega
      subst hkn
      go_wp2
      go_ret
      have hl2 : LineN l l.length idx := by have := HN.out; rw [← this]; exact HLI.out
      have he := hl2.eq
      exact ⟨vA, pn, vc, rfl, by rw [← he]; exact HP.out, hpk, by rw [← he]; exact Rd.of_own HO.out, by rw [← he]; exact HLI.out, HB.out⟩
end Go.Proofs.Ytpbnngfiinihmaa

namespace Go.Proofs.Ytpbnngfiinihmaa
open Go.RowKit
theorem ret_two {a b c d : Int} (h : (a, b) = (c, d)) : Ending.returned (.tuple #[.int .i64 a, .int .i64 b]) = .returned (.tuple #[.int .i64 c, .int .i64 d]) := by
  injection h with h1 h2; rw [h1, h2]
/-- what Check answers -/
def ChkAns (start : List Ent) (l : List CallD) (endl : List Ent) (held : Nat) (w : World) (e : Ending) (w' : World) : Prop :=
  e = .returned (.tuple #[.int .i64 (checkE start l endl held).1, .int .i64 (checkE start l endl held).2]) ∧ Below w.heap.size w w'
set_option maxRecDepth 100000 in
set_option maxHeartbeats 8000000 in
theorem rcheck_any (sA cA eA hA : Option Addr) (sn sc cn cc en ec hn hc : Nat) (st : Int) (dn : Bool) (start endl : List Ent) (l : List CallD) (w : World) (hS : Ents w Any sA sn start) (hL : CallsM w Any cA cn l) (hE : Ents w Any eA en endl)
    (h1 : sn ≤ 1048576) (h2 : cn ≤ 1048576) (h3 : en ≤ 1048576) (hsh : Short 1152921504606 start) :
    Calls Try.prog 11 #[.agg #[.slice sA sn sc, .slice cA cn cc, .int .i64 st, .bool dn, .slice eA en ec, .slice hA hn hc]] w (ChkAns start l endl hn w) := by
  have HS := Lib.hid hS
  have HL := Lib.hid hL
  have HE := Lib.hid hE
  have HSH := Lib.hid hsh
  have HN := Lib.hid hL.len
  obtain ⟨R, hR⟩ : ∃ R, R = ChkAns start l endl hn w := ⟨_, rfl⟩
  have HR := Lib.hid hR
  rw [← hR]
  clear hS hL hE hsh hR
  go_enter Try.func11, Try.ntmps11
  go_upto_region 1 with fail
  obtain ⟨w1, hw1⟩ : ∃ W, W = w.alloc (.cells #[.slice sA sn sc, .slice cA cn cc, .int .i64 st, .bool dn, .slice eA en ec, .slice hA hn hc] 29) := ⟨_, rfl⟩
  rw [← hw1]
  have HB : Hid (Below w.heap.size w w1) := Lib.hid (by rw [hw1]; exact (Below.refl _ _).alloc (Nat.le_refl _) _)
  have HK : Hid (Blk w1 w.heap.size 29 #[.slice sA sn sc, .slice cA cn cc, .int .i64 st, .bool dn, .slice eA en ec, .slice hA hn hc]) := Lib.hid (by rw [hw1]; exact Blk.new _ _ _)
  clear hw1
  go_wp2
  go_loopg [4] cn (fun g' iv wz => ∃ i : Nat, g' = cn - i ∧ i ≤ cn ∧ iv = .int .i64 i ∧ (∀ j, j < i → ∀ d, l[j]? = some d → pointE l j d) ∧ Below w1.heap.size w1 wz)
  case atStart => exact ⟨0, by omega, by omega, rfl, fun j hj => absurd hj (by omega), Below.refl _ _⟩
  case round =>
    obtain ⟨i, hg, hi, rfl, hno, hb⟩ := hrel
    have HG := Lib.hid hg
    have HNO := Lib.hid hno
    have HB1 := Lib.hid hb
    have HB2 := Lib.hid (HB.out.trans (hb.mono HB.out.size))
    have y1 : wr.cell? ⟨w.heap.size, 1, none⟩ = some (.slice cA cn cc) := (HK.out.below hb).cell 1
    clear hg hno hb
    by_cases hlt : i < cn
    · have hil : i < l.length := by have := HN.out; omega
      obtain ⟨c, hc⟩ : ∃ c, l[i]? = some c := ⟨_, List.getElem?_eq_getElem hil⟩
      have HC := Lib.hid hc
      obtain ⟨rb, hrb⟩ : ∃ rb, rb = decide (pointE l i c) := ⟨_, rfl⟩
      have HRB := Lib.hid hrb
      clear hc hrb hil
      go_upto_region 5 with (go_at_call 28; go_loud (refine (point_any Any cA cn cc i l c wr (HL.out.below HB2.out) h2 hlt HC.out).mono ?_); rintro e w2 ⟨rfl, hb2⟩; rw [← HRB.out]; have HB3 := Lib.hid hb2; clear hb2)
      cases rb with
      | true =>
        go_wp2
        go_roundg (cn - (i + 1))
        case measure => have := HG.out; omega
        case rel =>
          refine ⟨i + 1, rfl, by omega, by go_num, fun j hj d hd => ?_, HB1.out.trans (HB3.out.mono HB1.out.size)⟩
          rcases Nat.lt_or_ge j i with h | h
          · exact HNO.out j h d hd
          · have : j = i := by omega
            subst this
            rw [HC.out] at hd; injection hd with hd; subst hd
            exact of_decide_eq_true HRB.out.symm
      | false =>
        go_wp2
        rw [HR.out]
        have hbp := badPt_some HC.out (of_decide_eq_false HRB.out.symm) HNO.out
        refine ⟨ret_two ?_, HB2.out.trans (HB3.out.mono HB2.out.size)⟩
        unfold checkE; rw [hbp]
    · have hin : i = cn := by omega
      subst hin
      have HBP : Hid (badPt l = none) := Lib.hid (badPt_none (fun j hj d hd => HNO.out j (by have := HN.out; omega) d hd))
      have y0 : wr.cell? ⟨w.heap.size, 0, none⟩ = some (.slice sA sn sc) := (HK.out.below HB1.out).cell 0
      have HK1 := Lib.hid (HK.out.below HB1.out)
      clear hlt hi HG HNO
      go_upto_region 8 with (go_at_call 29; go_loud (refine (rmap_any sA sn sc start wr (HS.out.below HB2.out) h1 HSH.out).mono ?_); rintro e w2 ⟨mA, mn, mc, rfl, he2, hb2⟩; have HM2 := Lib.hid he2; have HB3 := Lib.hid (HB2.out.trans (hb2.mono HB2.out.size)); have HK2 := Lib.hid (HK1.out.below hb2); clear he2 hb2)
      have y1' : w2.cell? ⟨w.heap.size, 1, none⟩ = some (.slice cA i cc) := HK2.out.cell 1
      go_upto_region 9 with (go_at_call 9; go_loud (refine (rline_any Any cA i cc l w2 (HL.out.below HB3.out) h2).mono ?_); rintro e w3 ⟨lA, lm, lc, rfl, hlm, hlm2, hrd, hln, hb3⟩; have HLM := Lib.hid hlm; have HRD := Lib.hid hrd; have HLN := Lib.hid hln; have HB4 := Lib.hid (HB3.out.trans (hb3.mono HB3.out.size)); have HK3 := Lib.hid (HK2.out.below hb3); have HM3 := Lib.hid (HM2.out.below hb3); clear hlm hrd hln hb3)
      have hml : mn ≤ sn := by have h1 := HM3.out.len; have h2 := mapE_len start; have h3 := HS.out.len; omega
      clear y0 y1 y1'
      go_wp2
      go_loopg [8, 6] lm (fun g' iv v wz => ∃ (k mn2 mc2 : Nat) (mA2 : Option Addr) (m : List Ent), g' = lm - k ∧ k ≤ lm ∧ iv = .int .i64 k ∧ v = .slice mA2 mn2 mc2 ∧ Ents wz Any mA2 mn2 m ∧ Up m ∧ Short 1152921504606 m ∧ mn2 ≤ sn + k ∧ runL l ((lineE l).drop k) m = runL l (lineE l) (mapE start) ∧ Below w3.heap.size w3 wz)
      case atStart => exact ⟨0, mn, mc, mA, mapE start, by omega, by omega, rfl, rfl, HM3.out, mapE_up _, fun e he => HSH.out e (mapE_sub start start.length e (by rw [List.take_length]; exact he)), by omega, rfl, Below.refl _ _⟩
      case round =>
        obtain ⟨k, mn2, mc2, mA2, m, hg, hk, rfl, rfl, hm, hup, hsm, hmn, hrun, hb⟩ := hrel
        have HG := Lib.hid hg
        have HM := Lib.hid hm
        have HUP := Lib.hid hup
        have HSM := Lib.hid hsm
        have HRUN := Lib.hid hrun
        have HB5 := Lib.hid hb
        have HB6 := Lib.hid (HB4.out.trans (hb.mono HB4.out.size))
        have HK4 := Lib.hid (HK3.out.below hb)
        rename World => wr2
        clear hg hm hup hsm hrun hb
        by_cases hlt : k < lm
        · obtain ⟨g, e, u, rfl, _, hu, zc⟩ := (HRD.out.below HB5.out).at_ hlt
          have hkl : k < (lineE l).length := by have := HLM.out; omega
          obtain ⟨p, hp⟩ : ∃ p, (lineE l)[k]? = some p := ⟨_, List.getElem?_eq_getElem hkl⟩
          rw [pvs_at hp] at hu
          injection hu with hu
          subst hu
          have hpn : p < i := ((HLN.out.2 p).1 (List.mem_of_getElem? hp)).1
          obtain ⟨b, o, c, x, rfl, _, hlp, hcw, hat⟩ := (HL.out.below HB6.out).at_ hpn
          have HP := Lib.hid hp
          have HLP := Lib.hid hlp
          have HCW := Lib.hid hcw
          have HST := Lib.hid (runL_step hp hlp m)
          have hlm' : lm ≤ 1152921504606 := by omega
          have hcn' : i ≤ 1152921504606 := by omega
          have hmn' : mn2 ≤ 1152921504 := by omega
          have S0 : LdAt w.heap.size (.slice (some ⟨b, o, none⟩) i cc) g e k p b o c x wr2 := ⟨HK4.out.cell 1, zc, hat⟩
          clear hp hlp hcw zc hat hkl
          go_upto_region 12 with fail
          refine ld_call w.heap.size g e lm lc k p b o i cc c x wr2 _ (by exact Lib.hid (fun _ _ _ _ h => h)) hlt hlm' hpn hcn' S0 ?_
          intro v37 v38 v39 v40 v41 v42 v43 v44 w4 hk4 hb4
          have HK5 := Lib.hid hk4
          have HB7 := Lib.hid hb4
          have z12 : w4.cell? ⟨wr2.heap.size, 12, none⟩ = some (.bool c.dn) := hk4.cell 12
          have HAT4 := Lib.hid (CallAt.of_blk hk4)
          have HZ := Lib.hid S0.zi
          have HM4 := Lib.hid (HM.out.below hb4)
          have HCW4 := Lib.hid (HCW.out.below hb4)
          have HB8 := Lib.hid (HB6.out.trans (hb4.mono HB6.out.size))
          have HB9 := Lib.hid (HB5.out.trans (hb4.mono HB5.out.size))
          clear hk4 hb4 S0
          by_cases hd : c.dn = true
          · rw [hd] at z12
            obtain ⟨rb, hrb⟩ : ∃ rb, rb = decide (answerE m c) := ⟨_, rfl⟩
            have HRB := Lib.hid hrb
            have HD := Lib.hid hd
            clear hrb hd
            go_upto_region 15 with (first | (refine wpList_load_call rfl (.tmp 9) rfl rfl HAT4.out ?_) | (go_at_call 30; go_loud (refine (answer_any Any mA2 mn2 mc2 m c x w4 HCW4.out HM4.out hmn').mono ?_); rintro e5 w5 ⟨rfl, hb5⟩; rw [← HRB.out]; have HB10 := Lib.hid hb5; clear hb5))
            have HB11 := Lib.hid (HB8.out.trans (HB10.out.mono HB8.out.size))
            have HB12 := Lib.hid (HB9.out.trans (HB10.out.mono HB9.out.size))
            cases rb with
            | false =>
              have zi : w5.cell? ⟨g, e + k, none⟩ = some (.int .i64 p) := bkeep HB10.out (bkeep HB7.out HZ.out)
              go_wp2
              rw [HR.out]
              refine ⟨ret_two ?_, HB11.out⟩
              have h1 := HRUN.out
              rw [HST.out, if_pos ⟨HD.out, of_decide_eq_false HRB.out.symm⟩] at h1
              unfold checkE; rw [HBP.out, ← h1]
            | true =>
              have HK6 := Lib.hid (HK5.out.below HB10.out)
              have HAT5 := Lib.hid (CallAt.of_blk HK6.out)
              have HM5 := Lib.hid (HM4.out.below HB10.out)
              have HCW5 := Lib.hid (HCW4.out.below HB10.out)
              go_wp2_with (first | (refine wpList_load_call rfl (.tmp 9) rfl rfl HAT5.out ?_) | (go_at_call 31; go_loud (refine (rdoes_any Any mA2 mn2 mc2 m c x w5 HCW5.out HM5.out HUP.out HSM.out hmn').mono ?_); rintro e6 w6 ⟨A6, n6, c6, rfl, he6, hb6⟩; have HM6 := Lib.hid he6; have HB13 := Lib.hid hb6; clear he6 hb6))
              go_roundg (lm - (k + 1))
              case measure => have := HG.out; omega
              case rel =>
                refine ⟨k + 1, n6, c6, A6, doesE m c, rfl, by omega, by go_num, rfl, HM6.out, doesE_up HUP.out c, doesE_short HSM.out c (by omega), ?_, ?_, HB12.out.trans (HB13.out.mono HB12.out.size)⟩
                · have h1 := doesE_len m c; have h2 := HM6.out.len; have h3 := HM.out.len; omega
                · have h1 := HRUN.out
                  rw [HST.out, if_neg (fun h => h.2 (of_decide_eq_true HRB.out.symm))] at h1
                  exact h1
          · have hd' : c.dn = false := by simpa using hd
            rw [hd'] at z12
            have HD := Lib.hid hd
            clear hd hd'
            go_wp2_with (first | (refine wpList_load_call rfl (.tmp 9) rfl rfl HAT4.out ?_) | (go_at_call 31; go_loud (refine (rdoes_any Any mA2 mn2 mc2 m c x w4 HCW4.out HM4.out HUP.out HSM.out hmn').mono ?_); rintro e6 w6 ⟨A6, n6, c6, rfl, he6, hb6⟩; have HM6 := Lib.hid he6; have HB13 := Lib.hid hb6; clear he6 hb6))
            go_roundg (lm - (k + 1))
            case measure => have := HG.out; omega
            case rel =>
              refine ⟨k + 1, n6, c6, A6, doesE m c, rfl, by omega, by go_num, rfl, HM6.out, doesE_up HUP.out c, doesE_short HSM.out c (by omega), ?_, ?_, HB9.out.trans (HB13.out.mono HB9.out.size)⟩
              · have h1 := doesE_len m c; have h2 := HM6.out.len; have h3 := HM.out.len; omega
              · have h1 := HRUN.out
                rw [HST.out, if_neg (fun h => HD.out h.1)] at h1
                exact h1
        · have hkm : k = lm := by omega
          subst hkm
          have HRE : Hid (runL l (lineE l) (mapE start) = .inr m) := Lib.hid (by
            have h1 := HRUN.out
            rw [List.drop_of_length_le (by have := HLM.out; omega)] at h1
            rw [← h1]; rfl)
          have y4 : wr2.cell? ⟨w.heap.size, 4, none⟩ = some (.slice eA en ec) := HK4.out.cell 4
          have y5 : wr2.cell? ⟨w.heap.size, 5, none⟩ = some (.slice hA hn hc) := HK4.out.cell 5
          have y1 : wr2.cell? ⟨w.heap.size, 1, none⟩ = some (.slice cA i cc) := HK4.out.cell 1
          have HE6 := Lib.hid (HE.out.below HB6.out)
          have hen' : en ≤ 1152921504 := by omega
          have hmn' : mn2 ≤ 1152921504 := by omega
          obtain ⟨rb, hrb⟩ : ∃ rb, rb = decide (endl = m) := ⟨_, rfl⟩
          have HRB := Lib.hid hrb
          clear hrb
          have hlen : (l.length : Int) = (i : Int) := by have := HN.out; omega
          have HLEN := Lib.hid hlen
          clear hlen
          by_cases hh : hn = 0
          · subst hh
            cases rb with
            | true =>
              go_wp2_with (go_at_call 14; go_loud (refine (sameEntries_any eA mA2 en mn2 ec mc2 endl m wr2 HE6.out HM.out hen' hmn').mono ?_); rintro e7 w7 ⟨rfl, hb7⟩; rw [← HRB.out]; have HB14 := Lib.hid (HB6.out.trans (hb7.mono HB6.out.size)); have y1 := bkeep hb7 y1; clear hb7)
              rw [HR.out]
              refine ⟨ret_two ?_, HB14.out⟩
              have he := of_decide_eq_true HRB.out.symm
              unfold checkE; rw [HBP.out, HRE.out]; simp [he]
            | false =>
              go_wp2_with (go_at_call 14; go_loud (refine (sameEntries_any eA mA2 en mn2 ec mc2 endl m wr2 HE6.out HM.out hen' hmn').mono ?_); rintro e7 w7 ⟨rfl, hb7⟩; rw [← HRB.out]; have HB14 := Lib.hid (HB6.out.trans (hb7.mono HB6.out.size)); have y1 := bkeep hb7 y1; clear hb7)
              rw [HR.out]
              refine ⟨ret_two ?_, HB14.out⟩
              have he := of_decide_eq_false HRB.out.symm
              have hl := HLEN.out
              unfold checkE; rw [HBP.out, HRE.out]; simp [he, hl]
          · have hh' : ((hn : Int) == 0) = false := by rw [beq_eq_false_iff_ne]; omega
            have HH := Lib.hid hh
            clear hh
            go_wp2
            rw [HR.out]
            refine ⟨ret_two ?_, HB6.out⟩
            unfold checkE; rw [HBP.out, HRE.out]; simp [HH.out]
set_option maxRecDepth 100000 in
set_option maxHeartbeats 8000000 in
theorem rafter_any (sA cA : Option Addr) (sn sc cn cc : Nat) (now : Int) (start : List Ent) (l : List CallD) (w : World) (hS : Ents w Any sA sn start) (hL : CallsM w Any cA cn l)
    (h1 : sn ≤ 1048576) (h2 : cn ≤ 1048576) (hsh : Short 1152921504606 start) :
    Calls Try.prog 13 #[.slice sA sn sc, .slice cA cn cc, .int .i64 now] w (NewEnts w (afterE start l now)) := by
  have HS := Lib.hid hS
  have HL := Lib.hid hL
  have HSH := Lib.hid hsh
  have HN := Lib.hid hL.len
  clear hS hL hsh
  go_enter Try.func13, Try.ntmps13
  go_upto_region 2 with (go_at_call 29; go_loud (refine (rmap_any sA sn sc start w HS.out h1 HSH.out).mono ?_); rintro e w2 ⟨mA, mn, mc, rfl, he2, hb2⟩; have HM2 := Lib.hid he2; have HB3 := Lib.hid hb2; clear he2 hb2)
  go_upto_region 3 with (go_at_call 9; go_loud (refine (rline_any Any cA cn cc l w2 (HL.out.below HB3.out) h2).mono ?_); rintro e w3 ⟨lA, lm, lc, rfl, hlm, hlm2, hrd, hln, hb3⟩; have HLM := Lib.hid hlm; have HRD := Lib.hid hrd; have HLN := Lib.hid hln; have HB4 := Lib.hid (HB3.out.trans (hb3.mono HB3.out.size)); have HM3 := Lib.hid (HM2.out.below hb3); clear hlm hrd hln hb3)
  have hml : mn ≤ sn := by have h1 := HM3.out.len; have h2 := mapE_len start; have h3 := HS.out.len; omega
  go_wp2
  go_loopg [9, 7] lm (fun g' iv v wz => ∃ (k mn2 mc2 : Nat) (mA2 : Option Addr) (m : List Ent), g' = lm - k ∧ k ≤ lm ∧ iv = .int .i64 k ∧ v = .slice mA2 mn2 mc2 ∧ Ents wz Any mA2 mn2 m ∧ Up m ∧ Short 1152921504606 m ∧ mn2 ≤ sn + k ∧ aftL l now ((lineE l).drop k) m = aftL l now (lineE l) (mapE start) ∧ Below w3.heap.size w3 wz)
  case atStart => exact ⟨0, mn, mc, mA, mapE start, by omega, by omega, rfl, rfl, HM3.out, mapE_up _, fun e he => HSH.out e (mapE_sub start start.length e (by rw [List.take_length]; exact he)), by omega, rfl, Below.refl _ _⟩
  case round =>
    obtain ⟨k, mn2, mc2, mA2, m, hg, hk, rfl, rfl, hm, hup, hsm, hmn, hrun, hb⟩ := hrel
    have HG := Lib.hid hg
    have HM := Lib.hid hm
    have HUP := Lib.hid hup
    have HSM := Lib.hid hsm
    have HRUN := Lib.hid hrun
    have HB5 := Lib.hid hb
    have HB6 := Lib.hid (HB4.out.trans (hb.mono HB4.out.size))
    clear hg hm hup hsm hrun hb
    by_cases hlt : k < lm
    · obtain ⟨g, e, u, rfl, _, hu, zc⟩ := (HRD.out.below HB5.out).at_ hlt
      have hkl : k < (lineE l).length := by have := HLM.out; omega
      obtain ⟨p, hp⟩ : ∃ p, (lineE l)[k]? = some p := ⟨_, List.getElem?_eq_getElem hkl⟩
      rw [pvs_at hp] at hu
      injection hu with hu
      subst hu
      have hpn : p < cn := ((HLN.out.2 p).1 (List.mem_of_getElem? hp)).1
      have hpn' : (p : Int) < (cn : Int) := by omega
      obtain ⟨b, o, c, x, rfl, _, hlp, hcw, hat⟩ := (HL.out.below HB6.out).at_ hpn
      have HCW := Lib.hid hcw
      have HAT := Lib.hid hat
      have HST := Lib.hid (aftL_step hp hlp now m)
      have z11 := hat.c11
      have hmn' : mn2 ≤ 1152921504 := by omega
      clear hp hlp hcw hat hkl
      by_cases hpt : c.pt < now
      · go_wp2_with (first | (refine wpList_load_call rfl (.tmp 36) rfl rfl HAT.out ?_) | (go_at_call 31; go_loud (refine (rdoes_any Any mA2 mn2 mc2 m c x wr HCW.out HM.out HUP.out HSM.out hmn').mono ?_); rintro e6 w6 ⟨A6, n6, c6, rfl, he6, hb6⟩; have HM6 := Lib.hid he6; have HB13 := Lib.hid hb6; clear he6 hb6))
        go_roundg (lm - (k + 1))
        case measure => have := HG.out; omega
        case rel =>
          refine ⟨k + 1, n6, c6, A6, doesE m c, rfl, by omega, by go_num, rfl, HM6.out, doesE_up HUP.out c, doesE_short HSM.out c (by omega), ?_, ?_, HB5.out.trans (HB13.out.mono HB5.out.size)⟩
          · have h1 := doesE_len m c; have h2 := HM6.out.len; have h3 := HM.out.len; omega
          · have h1 := HRUN.out
            rw [HST.out, if_pos hpt] at h1
            exact h1
      · go_wp2
        go_roundg (lm - (k + 1))
        case measure => have := HG.out; omega
        case rel =>
          refine ⟨k + 1, mn2, mc2, mA2, m, rfl, by omega, by go_num, rfl, HM.out, HUP.out, HSM.out, by omega, ?_, HB5.out⟩
          have h1 := HRUN.out
          rw [HST.out, if_neg (by omega)] at h1
          exact h1
    · have hkm : k = lm := by omega
      subst hkm
      go_wp2
      go_ret
      have h1 := HRUN.out
      rw [List.drop_of_length_le (by have := HLM.out; omega)] at h1
      have h2 : m = afterE start l now := h1
      rw [← h2]
      exact ⟨mA2, mn2, mc2, rfl, HM.out, HB6.out⟩
end Go.Proofs.Ytpbnngfiinihmaa

namespace Go.Proofs.Ytpbnngfiinihmaa.Sf
open Go.RowKit
open Go.Lib (compareBytes)
set_option maxRecDepth 100000 in
set_option maxHeartbeats 8000000 in
theorem rafter_any {X : Nat → Prop} (sA cA : Option Addr) (sn sc cn cc : Nat) (now : Int) (start : List Ent) (l : List CallD) (w : World) (hS : Ents w (Off X) sA sn start) (hL : CallsM w (Off X) cA cn l)
    (h1 : sn ≤ 1048576) (h2 : cn ≤ 1048576) (hsh : Short 1152921504606 start) (hX : ∀ b, X b → b < w.heap.size) :
    Calls Try.prog 13 #[.slice sA sn sc, .slice cA cn cc, .int .i64 now] w (NewEntsX X w (afterE start l now)) := by
  have HS := Lib.hid hS
  have HL := Lib.hid hL
  have HSH := Lib.hid hsh
  have HN := Lib.hid hL.len
  have HX := Lib.hid hX
  clear hS hL hsh hX
  go_enter Try.func13, Try.ntmps13
  go_upto_region 2 with (go_at_call 29; go_loud (refine (rmap_any sA sn sc start w HS.out h1 HSH.out HX.out).mono ?_); rintro e w2 ⟨mA, mn, mc, rfl, he2, hb2⟩; have HM2 := Lib.hid he2; have HB3 := Lib.hid hb2; clear he2 hb2)
  go_upto_region 3 with (go_at_call 9; go_loud (refine (rline_any (Off X) cA cn cc l w2 (HL.out.below HB3.out) h2).mono ?_); rintro e w3 ⟨lA, lm, lc, rfl, hlm, hlm2, hrd, hln, hb3⟩; have HLM := Lib.hid hlm; have HRD := Lib.hid hrd; have HLN := Lib.hid hln; have HB4 := Lib.hid (HB3.out.trans (hb3.mono HB3.out.size)); have HM3 := Lib.hid (HM2.out.below hb3); clear hlm hrd hln hb3)
  have hml : mn ≤ sn := by have h1 := HM3.out.len; have h2 := mapE_len start; have h3 := HS.out.len; omega
  go_wp2
  go_loopg [9, 7] lm (fun g' iv v wz => ∃ (k mn2 mc2 : Nat) (mA2 : Option Addr) (m : List Ent), g' = lm - k ∧ k ≤ lm ∧ iv = .int .i64 k ∧ v = .slice mA2 mn2 mc2 ∧ Ents wz (Off X) mA2 mn2 m ∧ Up m ∧ Short 1152921504606 m ∧ mn2 ≤ sn + k ∧ aftL l now ((lineE l).drop k) m = aftL l now (lineE l) (mapE start) ∧ Below w3.heap.size w3 wz)
  case atStart => exact ⟨0, mn, mc, mA, mapE start, by omega, by omega, rfl, rfl, HM3.out, mapE_up _, fun e he => HSH.out e (mapE_sub start start.length e (by rw [List.take_length]; exact he)), by omega, rfl, Below.refl _ _⟩
  case round =>
    obtain ⟨k, mn2, mc2, mA2, m, hg, hk, rfl, rfl, hm, hup, hsm, hmn, hrun, hb⟩ := hrel
    have HG := Lib.hid hg
    have HM := Lib.hid hm
    have HUP := Lib.hid hup
    have HSM := Lib.hid hsm
    have HRUN := Lib.hid hrun
    have HB5 := Lib.hid hb
    have HB6 := Lib.hid (HB4.out.trans (hb.mono HB4.out.size))
    clear hg hm hup hsm hrun hb
    by_cases hlt : k < lm
    · obtain ⟨g, e, u, rfl, _, hu, zc⟩ := (HRD.out.below HB5.out).at_ hlt
      have hkl : k < (lineE l).length := by have := HLM.out; omega
      obtain ⟨p, hp⟩ : ∃ p, (lineE l)[k]? = some p := ⟨_, List.getElem?_eq_getElem hkl⟩
      rw [pvs_at hp] at hu
      injection hu with hu
      subst hu
      have hpn : p < cn := ((HLN.out.2 p).1 (List.mem_of_getElem? hp)).1
      have hpn' : (p : Int) < (cn : Int) := by omega
      obtain ⟨b, o, c, x, rfl, _, hlp, hcw, hat⟩ := (HL.out.below HB6.out).at_ hpn
      have HCW := Lib.hid hcw
      have HAT := Lib.hid hat
      have HST := Lib.hid (aftL_step hp hlp now m)
      have z11 := hat.c11
      have hmn' : mn2 ≤ 1152921504 := by omega
      clear hp hlp hcw hat hkl
      by_cases hpt : c.pt < now
      · go_wp2_with (first | (refine wpList_load_call rfl (.tmp 36) rfl rfl HAT.out ?_) | (go_at_call 31; go_loud (refine (rdoes_any mA2 mn2 mc2 m c x wr HCW.out HM.out HUP.out HSM.out hmn' (fun b hb => Nat.lt_of_lt_of_le (HX.out b hb) HB6.out.size)).mono ?_); rintro e6 w6 ⟨A6, n6, c6, rfl, he6, hb6⟩; have HM6 := Lib.hid he6; have HB13 := Lib.hid hb6; clear he6 hb6))
        go_roundg (lm - (k + 1))
        case measure => have := HG.out; omega
        case rel =>
          refine ⟨k + 1, n6, c6, A6, doesE m c, rfl, by omega, by go_num, rfl, HM6.out, doesE_up HUP.out c, doesE_short HSM.out c (by omega), ?_, ?_, HB5.out.trans (HB13.out.mono HB5.out.size)⟩
          · have h1 := doesE_len m c; have h2 := HM6.out.len; have h3 := HM.out.len; omega
          · have h1 := HRUN.out
            rw [HST.out, if_pos hpt] at h1
            exact h1
      · go_wp2
        go_roundg (lm - (k + 1))
        case measure => have := HG.out; omega
        case rel =>
          refine ⟨k + 1, mn2, mc2, mA2, m, rfl, by omega, by go_num, rfl, HM.out, HUP.out, HSM.out, by omega, ?_, HB5.out⟩
          have h1 := HRUN.out
          rw [HST.out, if_neg (by omega)] at h1
          exact h1
    · have hkm : k = lm := by omega
      subst hkm
      go_wp2
      go_ret
      have h1 := HRUN.out
      rw [List.drop_of_length_le (by have := HLM.out; omega)] at h1
      have h2 : m = afterE start l now := h1
      rw [← h2]
      exact ⟨mA2, mn2, mc2, rfl, HM.out, HB6.out⟩
end Go.Proofs.Ytpbnngfiinihmaa.Sf

namespace Go.Proofs.Ytpbnngfiinihmaa
open Go.RowKit
open Sf (Off)
theorem bytes_info : (Try.prog.info? 36).map (fun i => (i.zero, i.size, i.bytes)) = some (some (.slice none 0 0), 1, 24) := by kernel_rfl
theorem ents_info : (Try.prog.info? 27).map (fun i => (i.zero, i.size, i.bytes)) = some (some (.slice none 0 0), 1, 24) := by kernel_rfl
/-- a row of texts that lie below -/
def Kt (w : World) (base : Nat) (v : Value) (us : List Value) (ks : List (List UInt8)) : Prop := RowG 36 w base v us (fun u k => SB w (Under base) u k) ks
/-- off both rows -/
def Xs (kv v : Value) : Nat → Prop := fun g => kv.ownBlock = some g ∨ v.ownBlock = some g
/-- what a row of entries holds at a place -/
def IsE (w : World) (X : Nat → Prop) (u : Value) (m : List Ent) : Prop := ∃ A n c, u = .slice A n c ∧ n ≤ 2097152 ∧ Ents w (Off X) A n m
/-- a row of entries, off itself and off a row of texts -/
def Mt (w : World) (base : Nat) (kv v : Value) (us : List Value) (ms : List (List Ent)) : Prop := RowG 27 w base v us (IsE w (Xs kv v)) ms
section
variable {S : Nat → Prop} {w w' : World} {base : Nat} {v v2 kv kv2 u : Value} {us : List Value} {ks : List (List UInt8)} {k : List UInt8} {ms : List (List Ent)} {m : List Ent}
theorem Kt.nil (w : World) (base : Nat) : Kt w base (.slice none 0 0) [] [] := RowG.nil _ _ _ _
theorem Kt.chg (h : Kt w base v us ks) (hc : Chg S w w') (hs : ∀ g, v.ownBlock = some g → ¬ S g) (hb : ∀ g, g < base → ¬ S g) : Kt w' base v us ks :=
  RowG.chg h hc hs (fun u x hx => SB.chg hx hc (fun b hb' => hb b hb'))
theorem Kt.below (h : Kt w base v us ks) (hb : Below w.heap.size w w') : Kt w' base v us ks := h.chg (S := Nil) (Chg.of_below hb) (fun _ _ h => h) (fun _ _ h => h)
theorem Kt.push (h : Kt w base v us ks) (ho : w'.ownsRow base 36 1 v2 (ks.length + 1) (us ++ [u])) (hg : w.grownBy w' v.ownBlock) (hu : SB w (Under base) u k) : Kt w' base v2 (us ++ [u]) (ks ++ [k]) := by
  have hc : Chg (fun b => v.ownBlock = some b) w w' := Chg.of_grown hg
  have key : ∀ u x, SB w (Under base) u x → SB w' (Under base) u x := fun u x hx => SB.chg hx hc (fun b hb e => by have hb : b < base := hb; have := (own_lt h.own b e).1; omega)
  exact RowG.push h ho key (key _ _ hu)
theorem IsE.chg {X : Nat → Prop} (h : IsE w X u m) (hc : Chg S w w') (hX : ∀ g, S g → X g) : IsE w' X u m :=
  let ⟨A, n, c, e, h1, h2⟩ := h; ⟨A, n, c, e, h1, h2.chg hc (fun b hb hs => hb (hX b hs))⟩
theorem Ents.and {F G : Nat → Prop} {A : Option Addr} {n : Nat} {l : List Ent} (h : Ents w F A n l) (hG : ∀ b, b < w.heap.size → F b → G b) : Ents w G A n l :=
  let ⟨h1, vs, h2, h3⟩ := h; ⟨h1, vs, h2.and (by omega) hG, fun i e he => let ⟨u, v, a, b, c, d⟩ := h3 i e he; ⟨u, v, a, b, c.and hG, d.and hG⟩⟩
theorem IsE.and {X Y : Nat → Prop} (h : IsE w X u m) (hX : ∀ g, g < w.heap.size → Y g → X g) : IsE w Y u m :=
  let ⟨A, n, c, e, h1, h2⟩ := h; ⟨A, n, c, e, h1, h2.and (fun b hb hx hy => hx (hX b hb hy))⟩
theorem Mt.chg (h : Mt w base kv v us ms) (hc : Chg S w w') (hs : ∀ g, v.ownBlock = some g → ¬ S g) (hX : ∀ g, S g → Xs kv v g) : Mt w' base kv v us ms :=
  RowG.chg h hc hs (fun _ _ hx => IsE.chg hx hc hX)
theorem Mt.below (h : Mt w base kv v us ms) (hb : Below w.heap.size w w') : Mt w' base kv v us ms := h.chg (S := Nil) (Chg.of_below hb) (fun _ _ h => h) (fun _ h => h.elim)
/-- the row of texts has grown -/
theorem Mt.rekey (h : Mt w base kv v us ms) (hg : w.grownBy w' kv.ownBlock) (hat : kv2.ownBlock = kv.ownBlock ∨ kv2.ownBlock = some w.heap.size) (hne : ∀ g, v.ownBlock = some g → kv.ownBlock ≠ some g) : Mt w' base kv2 v us ms := by
  have hc : Chg (fun b => kv.ownBlock = some b) w w' := Chg.of_grown hg
  refine RowG.chg h hc hne (fun u m hx => ?_)
  refine (IsE.chg (X := fun g => Xs kv v g ∨ Xs kv2 v g) (IsE.and hx (fun g hg2 hy => ?_)) hc (fun g e => .inl (.inl e))).and (fun g _ hy => .inr hy)
  rcases hy with hy | hy
  · exact hy
  · rcases hy with hy | hy
    · rcases hat with ha | ha
      · exact .inl (ha ▸ hy)
      · rw [ha] at hy; injection hy with hy; omega
    · exact .inr hy
/-- one more element -/
theorem Mt.push (h : Mt w base kv v us ms) (ho : w'.ownsRow base 27 1 v2 (ms.length + 1) (us ++ [u])) (hg : w.grownBy w' v.ownBlock) (hat : v2.ownBlock = v.ownBlock ∨ v2.ownBlock = some w.heap.size) (hu : IsE w (Xs kv v) u m) : Mt w' base kv v2 (us ++ [u]) (ms ++ [m]) := by
  have hc : Chg (fun b => v.ownBlock = some b) w w' := Chg.of_grown hg
  have key : ∀ u m, IsE w (Xs kv v) u m → IsE w' (Xs kv v2) u m := fun u m hx => by
    refine (IsE.chg (X := fun g => Xs kv v g ∨ Xs kv v2 g) (IsE.and hx (fun g hg2 hy => ?_)) hc (fun g e => .inl (.inr e))).and (fun g _ hy => .inr hy)
    rcases hy with hy | hy
    · exact hy
    · rcases hy with hy | hy
      · exact .inl hy
      · rcases hat with ha | ha
        · exact .inr (ha ▸ hy)
        · rw [ha] at hy; injection hy with hy; omega
  exact RowG.push h ho key (key _ _ hu)
/-- a row of one -/
theorem Mt.one (hb : base ≤ w.heap.size) (hu : IsE w (fun g => kv.ownBlock = some g) u m) :
    Mt (w.alloc (.cells #[u] 27)) base kv (.slice (some ⟨w.heap.size, 0, none⟩) 1 1) [u] [m] := by
  refine ⟨World.ownsRow_lit (e := 27) (size := 1) w #[u] 1 hb (by simp [maxLen]) (by simp), fun i e he => ?_⟩
  match i, he with
  | 0, he =>
    simp at he
    subst he
    refine ⟨_, rfl, IsE.chg (S := Nil) (IsE.and hu (fun g hg2 hy => ?_)) (Chg.of_below ((Below.refl _ _).alloc (Nat.le_refl _) _)) (fun g e => e.elim)⟩
    rcases hy with hy | hy
    · exact hy
    · have hy : (some w.heap.size : Option Nat) = some g := hy
      injection hy with hy
      omega
end
end Go.Proofs.Ytpbnngfiinihmaa
