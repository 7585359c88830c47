/- WALKS: parts of the statement PackBuilders: Done, and Add, of one pair. WALKS: one operation of a script for builders. WALKS: is the program there? WALKS: the statement PackBuilders, where a configuration may not be. -/
import Derived.Test.YtgjphmlmndcaeaaPd17
import Derived.Deep.Cut
import Derived.Test.YtgjphmlmndcaeaaPd12
set_option linter.unusedVariables false
set_option linter.unusedSimpArgs false
namespace Go.Proofs.Ytgjphmlmndcaeaa
open Go.RowKit
noncomputable def bsDoneC : Code := codeOr (Try.f4.body.bind (regionAt 21))
set_option maxRecDepth 100000 in
set_option maxHeartbeats 4000000 in
theorem bs_done (B0 : Nat) (nd lf inn fl bl : Int) (F : Nat → Prop) (p : Nat) (l : List Ent) (G : Nat → Prop) (q : Nat) (F' : Nat → Prop) (p' : Nat) (la' : List Ent) (G' : Nat → Prop) (q' : Nat) (lb' : List Ent) (r s k : Nat) (w : World) {u0 u1 u2 u3 u4 u5 u6 u7 u8 u9 u10 u13 u14 u16 u17 u18 u19 u20 u21 u22 u23 u24 u25 u26 u27 u28 u29 u30 u31 u32 u33 u34 u35 u36 u37 u38 u39 u40 u41 u42 u43 u44 u45 u46 u47 u48 u49 u50 u51 u52 u53 u54 u55 u56 u57 u58 u59 u60 u61 u62 u63 u64 u65 u66 u67 u68 u69 u70 u71 u72 u73 u74 u75 u76 u77 u78 u79 u80 u81 u82 u83 u84 u85 u86 u87 u88 u89 u90 u91 u92 u93 u94 u95 u96 u97 u98 u99 u100 u101 u102 u103 u104 u105 u106 u107 u108 u109 u110 u111 u112 u113 u114 u115 u116 u117 u118 u119 u120 u121 u122 u123 u124 u125 u126 u127 u128 u129 u130 u131 u132 u133 u134 u135 u136 u137 u138 u139 u140 u141 u142 u143 u144 u145 u146 : Value} (Q : Exit → Act → World → Prop) (HQP : Hid (∀ c t (a : Act) w, Q (.panic c) ⟨t, a.defers⟩ w → Q (.panic c) a w))
    (HP : Hid (P2 w B0 nd lf inn fl bl F p l G q l F' p' la' G' q' lb')) (hB : B0 ≤ w.heap.size) (hk : k < 2) (c1 : w.cell? ⟨r, k, none⟩ = some (.pointer (some ⟨p, 0, none⟩))) (c2 : w.cell? ⟨s, k, none⟩ = some (.pointer (some ⟨q, 0, none⟩))) (hr : ¬ F r ∧ ¬ G r) (hs : ¬ F s ∧ ¬ G s)
    (HOK : Hid ((buildE nd lf inn fl bl l).1 = 0)) (hl : l.length ≤ 1152921504606) (HS : Hid (∀ e ∈ l, e.1.length ≤ 1152921504606 ∧ e.2.length ≤ 1152921504606))
    (hexit : ∀ (v102 v103 v104 v105 v106 v107 v108 v109 v110 v111 v112 : Value) (w' : World), P2 w' B0 nd lf inn fl bl F p [] G q [] F' p' la' G' q' lb' → Chg (fun b => F b ∨ G b) w w' → Q .normal ⟨(u0 :: u1 :: u2 :: u3 :: u4 :: u5 :: u6 :: u7 :: u8 :: u9 :: u10 :: .slice (some ⟨r, 0, none⟩) 2 2 :: .slice (some ⟨s, 0, none⟩) 2 2 :: u13 :: u14 :: .int .i64 k :: .bool true :: u17 :: u18 :: u19 :: u20 :: u21 :: u22 :: u23 :: u24 :: u25 :: u26 :: u27 :: u28 :: u29 :: u30 :: u31 :: u32 :: u33 :: u34 :: u35 :: u36 :: u37 :: u38 :: u39 :: u40 :: u41 :: u42 :: u43 :: u44 :: u45 :: u46 :: u47 :: u48 :: u49 :: u50 :: u51 :: u52 :: u53 :: u54 :: u55 :: u56 :: u57 :: u58 :: u59 :: u60 :: u61 :: u62 :: u63 :: u64 :: u65 :: u66 :: u67 :: u68 :: u69 :: u70 :: u71 :: u72 :: u73 :: u74 :: u75 :: u76 :: u77 :: u78 :: u79 :: u80 :: u81 :: u82 :: u83 :: u84 :: u85 :: u86 :: u87 :: u88 :: u89 :: u90 :: u91 :: u92 :: u93 :: u94 :: u95 :: u96 :: u97 :: u98 :: u99 :: u100 :: u101 :: v102 :: v103 :: v104 :: v105 :: v106 :: v107 :: v108 :: v109 :: v110 :: v111 :: v112 :: u113 :: u114 :: u115 :: u116 :: u117 :: u118 :: u119 :: u120 :: u121 :: u122 :: u123 :: u124 :: u125 :: u126 :: u127 :: u128 :: u129 :: u130 :: u131 :: u132 :: u133 :: u134 :: u135 :: u136 :: u137 :: u138 :: u139 :: u140 :: u141 :: u142 :: u143 :: u144 :: u145 :: u146 :: []).toArray, []⟩ w') :
    Code.wp Try.prog bsDoneC Q ⟨(u0 :: u1 :: u2 :: u3 :: u4 :: u5 :: u6 :: u7 :: u8 :: u9 :: u10 :: .slice (some ⟨r, 0, none⟩) 2 2 :: .slice (some ⟨s, 0, none⟩) 2 2 :: u13 :: u14 :: .int .i64 k :: u16 :: u17 :: u18 :: u19 :: u20 :: u21 :: u22 :: u23 :: u24 :: u25 :: u26 :: u27 :: u28 :: u29 :: u30 :: u31 :: u32 :: u33 :: u34 :: u35 :: u36 :: u37 :: u38 :: u39 :: u40 :: u41 :: u42 :: u43 :: u44 :: u45 :: u46 :: u47 :: u48 :: u49 :: u50 :: u51 :: u52 :: u53 :: u54 :: u55 :: u56 :: u57 :: u58 :: u59 :: u60 :: u61 :: u62 :: u63 :: u64 :: u65 :: u66 :: u67 :: u68 :: u69 :: u70 :: u71 :: u72 :: u73 :: u74 :: u75 :: u76 :: u77 :: u78 :: u79 :: u80 :: u81 :: u82 :: u83 :: u84 :: u85 :: u86 :: u87 :: u88 :: u89 :: u90 :: u91 :: u92 :: u93 :: u94 :: u95 :: u96 :: u97 :: u98 :: u99 :: u100 :: u101 :: u102 :: u103 :: u104 :: u105 :: u106 :: u107 :: u108 :: u109 :: u110 :: u111 :: u112 :: u113 :: u114 :: u115 :: u116 :: u117 :: u118 :: u119 :: u120 :: u121 :: u122 :: u123 :: u124 :: u125 :: u126 :: u127 :: u128 :: u129 :: u130 :: u131 :: u132 :: u133 :: u134 :: u135 :: u136 :: u137 :: u138 :: u139 :: u140 :: u141 :: u142 :: u143 :: u144 :: u145 :: u146 :: []).toArray, []⟩ w := by
  have HEX := Lib.hid hexit
  have hk1 : (k : Int) < 2 := by omega
  have S0 : w.drew.cell? ⟨r, k, none⟩ = some (.pointer (some ⟨p, 0, none⟩)) ∧ w.drew.cell? ⟨s, k, none⟩ = some (.pointer (some ⟨q, 0, none⟩)) := ⟨c1, c2⟩
  have HP0 := Lib.hid (HP.out.below (Below.refl _ _).drew)
  have hnd : 0 ≤ nd ∧ nd ≤ 65536 := by have := (buildE_ok HOK.out).1; unfold cfgOk at this; omega
  have HT : Hid ((treeOf fl.toNat inn.toNat l).1.length ≤ 65536 ∧ (∀ s ∈ (treeOf fl.toNat inn.toNat l).1, Small s.2) ∧ ∀ s ∈ (treeOf fl.toNat inn.toNat l).1, 0 ≤ s.1 ∧ s.1 ≤ 4611686018427387904 ∧ s.1 % 2 = 0) := Lib.hid (by
    have hbo := buildE_ok HOK.out
    have h0 := hbo.1
    unfold cfgOk at h0
    have e1 : inn = (inn.toNat : Int) := by omega
    have e2 : fl = (fl.toNat : Int) := by omega
    have h := hbo
    rw [e1, e2] at h
    exact tree_ok h.1 HS.out h.2)
  clear hexit c1 c2
  conv => arg 2; whnf
  refine wp_region_V (fun w' => w'.cell? ⟨r, k, none⟩ = some (.pointer (some ⟨p, 0, none⟩)) ∧ w'.cell? ⟨s, k, none⟩ = some (.pointer (some ⟨q, 0, none⟩))) (by kernel_rfl) ?_
  refine wpV_take (i := 0) (v := ?_) rfl (by kernel_rfl) (by kernel_rfl) (by kernel_rfl) (by first | exact fun _ _ _ h => h | exact fun c a w h => HQP.out c _ a w h) S0 (Or.inl ⟨by kernel_rfl, ?_⟩) ?_
  rotate_left
  · intro w hSw
    go_simp
    try with_reducible rfl
  try simp only [Act.put, List.setIfInBounds_toArray, List.set_cons_zero, List.set_cons_succ]
  refine wpV_take (i := 1) (v := ?_) rfl (by kernel_rfl) (by kernel_rfl) (by kernel_rfl) (by first | exact fun _ _ _ h => h | exact fun c a w h => HQP.out c _ a w h) S0 (Or.inl ⟨by kernel_rfl, ?_⟩) ?_
  rotate_left
  · intro w hSw
    go_simp
    try with_reducible rfl
  try simp only [Act.put, List.setIfInBounds_toArray, List.set_cons_zero, List.set_cons_succ]
  refine wpV_take (i := 2) (v := ?_) rfl (by kernel_rfl) (by kernel_rfl) (by kernel_rfl) (by first | exact fun _ _ _ h => h | exact fun c a w h => HQP.out c _ a w h) S0 (Or.inl ⟨by kernel_rfl, ?_⟩) ?_
  rotate_left
  · intro w hSw
    go_simp
    try with_reducible rfl
  try simp only [Act.put, List.setIfInBounds_toArray, List.set_cons_zero, List.set_cons_succ]
  refine wpV_take (i := 5) (v := ?_) rfl (by kernel_rfl) (by kernel_rfl) (by kernel_rfl) (by first | exact fun _ _ _ h => h | exact fun c a w h => HQP.out c _ a w h) S0 (Or.inl ⟨by kernel_rfl, ?_⟩) ?_
  rotate_left
  · intro w hSw
    go_simp
    try with_reducible rfl
  try simp only [Act.put, List.setIfInBounds_toArray, List.set_cons_zero, List.set_cons_succ]
  refine wpV_take (i := 6) (v := ?_) rfl (by kernel_rfl) (by kernel_rfl) (by kernel_rfl) (by first | exact fun _ _ _ h => h | exact fun c a w h => HQP.out c _ a w h) S0 (Or.inl ⟨by kernel_rfl, ?_⟩) ?_
  rotate_left
  · intro w hSw
    go_simp
    try with_reducible rfl
  try simp only [Act.put, List.setIfInBounds_toArray, List.set_cons_zero, List.set_cons_succ]
  refine wpV_take (i := 7) (v := ?_) rfl (by kernel_rfl) (by kernel_rfl) (by kernel_rfl) (by first | exact fun _ _ _ h => h | exact fun c a w h => HQP.out c _ a w h) S0 (Or.inl ⟨by kernel_rfl, ?_⟩) ?_
  rotate_left
  · intro w hSw
    go_simp
    try with_reducible rfl
  try simp only [Act.put, List.setIfInBounds_toArray, List.set_cons_zero, List.set_cons_succ]
  refine wpV_take (i := 3) (v := ?_) rfl (by kernel_rfl) (by kernel_rfl) (by kernel_rfl) (by first | exact fun _ _ _ h => h | exact fun c a w h => HQP.out c _ a w h) S0 (Or.inl ⟨by kernel_rfl, ?_⟩) ?_
  rotate_left
  · intro w hSw
    obtain ⟨s0, s1⟩ := hSw
    go_simp
    try with_reducible rfl
  try simp only [Act.put, List.setIfInBounds_toArray, List.set_cons_zero, List.set_cons_succ]
  refine wpV_take (i := 8) (v := ?_) rfl (by kernel_rfl) (by kernel_rfl) (by kernel_rfl) (by first | exact fun _ _ _ h => h | exact fun c a w h => HQP.out c _ a w h) S0 (Or.inl ⟨by kernel_rfl, ?_⟩) ?_
  rotate_left
  · intro w hSw
    obtain ⟨s0, s1⟩ := hSw
    go_simp
    try with_reducible rfl
  try simp only [Act.put, List.setIfInBounds_toArray, List.set_cons_zero, List.set_cons_succ]
  refine wpV_one (i := 4) (by kernel_rfl) rfl (fun K hK => ?_)
  go_simp
  refine (done_any F _ p nd lf inn fl bl l _ HP0.out.b1 HOK.out hl HS.out).mono ?_; rintro e w1 ⟨a, rfl, q1, q2, q3⟩; have HX1 := Lib.hid q1; have HC1 : Hid (Chg F w w1) := Lib.hid ((Chg.refl F w).drew.trans q3 (fun _ _ h => h)); have HP1 := Lib.hid (HP0.out.stepX hB q2 q3 (fun b hb => .inl hb)); have S1 : w1.cell? ⟨r, k, none⟩ = some (.pointer (some ⟨p, 0, none⟩)) ∧ w1.cell? ⟨s, k, none⟩ = some (.pointer (some ⟨q, 0, none⟩)) := ⟨q3.cell hr.1 S0.1, q3.cell hs.1 S0.2⟩; clear q1 q2 q3
  refine hK.out _ _ S1 ?_
  clear hK K
  try simp only [Act.put, List.setIfInBounds_toArray, List.set_cons_zero, List.set_cons_succ]
  refine wpV_one (i := 9) (by kernel_rfl) rfl (fun K hK => ?_)
  go_simp
  refine (rdone_any G _ q nd lf inn fl bl l _ HP1.out.c1 HOK.out hl HS.out).mono ?_; rintro e w2 ⟨a2, rfl, q1, q2, q3⟩; have hz1 : w.heap.size ≤ w1.heap.size := HC1.out.size; have HX2 := Lib.hid (HX1.out.chg q3 (fun b hb h => by have h1 := HP0.out.c1.lt b h; have hb : w.heap.size ≤ b := hb; have h1 : b < w.heap.size := h1; omega)); have HY2 := Lib.hid q1; have HC2 : Hid (Chg (fun b => F b ∨ G b) w w2) := Lib.hid ((HC1.out.mono (fun b _ h => .inl h)).trans q3 (fun b _ h => .inr h)); have HP2 := Lib.hid (HP1.out.stepR (Nat.le_trans hB hz1) q2 q3 (fun b hb => .inl hb)); have S2 : w2.cell? ⟨r, k, none⟩ = some (.pointer (some ⟨p, 0, none⟩)) ∧ w2.cell? ⟨s, k, none⟩ = some (.pointer (some ⟨q, 0, none⟩)) := ⟨q3.cell hr.2 S1.1, q3.cell hs.2 S1.2⟩; clear q1 q2 q3
  refine hK.out _ _ S2 ?_
  clear hK K
  try simp only [Act.put, List.setIfInBounds_toArray, List.set_cons_zero, List.set_cons_succ]
  refine wpV_one (i := 10) (by kernel_rfl) rfl (fun K hK => ?_)
  go_simp
  refine (both_alike _ _ a a2 nd (treeOf fl.toNat inn.toNat l).2 (treeOf fl.toNat inn.toNat l).1 w2 HX2.out HY2.out HT.out.1 hnd.1 hnd.2 HT.out.2.1 HT.out.2.2).mono ?_; rintro e w3 ⟨rfl, hb3⟩; have HB3 := Lib.hid hb3; have S3 : w3.cell? ⟨r, k, none⟩ = some (.pointer (some ⟨p, 0, none⟩)) ∧ w3.cell? ⟨s, k, none⟩ = some (.pointer (some ⟨q, 0, none⟩)) := ⟨bkeep hb3 S2.1, bkeep hb3 S2.2⟩; clear hb3
  refine hK.out _ _ S3 ?_
  clear hK K
  try simp only [Act.put, List.setIfInBounds_toArray, List.set_cons_zero, List.set_cons_succ]
  refine wpV_take (i := 11) (v := ?_) rfl (by kernel_rfl) (by kernel_rfl) (by kernel_rfl) (by first | exact fun _ _ _ h => h | exact fun c a w h => HQP.out c _ a w h) S3 (Or.inl ⟨by kernel_rfl, ?_⟩) ?_
  rotate_left
  · intro w hSw
    go_simp
    try with_reducible rfl
  try simp only [Act.put, List.setIfInBounds_toArray, List.set_cons_zero, List.set_cons_succ]
  refine wpV_done (by kernel_rfl) ?_ _
  exact HEX.out _ _ _ _ _ _ _ _ _ _ _ _ (HP2.out.below HB3.out) (HC2.out.then HB3.out)

noncomputable def bsAddC : Code := codeOr (Try.f4.body.bind (regionAt 25))
set_option maxRecDepth 100000 in
set_option maxHeartbeats 4000000 in
theorem bs_add (In D : Nat → Prop) (nd lf inn fl bl : Int) (F : Nat → Prop) (p : Nat) (l : List Ent) (e : Ent) (r k g : Nat) (Ak Av : Option Addr) (nk ck nv cv : Nat) (w : World) {u0 u1 u2 u3 u4 u5 u6 u7 u8 u9 u10 u12 u13 u14 u16 u18 u19 u20 u21 u22 u23 u24 u25 u26 u27 u28 u29 u30 u31 u32 u33 u34 u35 u36 u37 u38 u39 u40 u41 u42 u43 u44 u45 u46 u47 u48 u49 u50 u51 u52 u53 u54 u55 u56 u57 u58 u59 u60 u61 u62 u63 u64 u65 u66 u67 u68 u69 u70 u71 u72 u73 u74 u75 u76 u77 u78 u79 u80 u81 u82 u83 u84 u85 u86 u87 u88 u89 u90 u91 u92 u93 u94 u95 u96 u97 u98 u99 u100 u101 u102 u103 u104 u105 u106 u107 u108 u109 u110 u111 u112 u113 u114 u115 u116 u117 u118 u119 u120 u121 u122 u123 u124 u125 u126 u127 u128 u129 u130 u131 u132 u133 u134 u135 u136 u137 u138 u139 u140 u141 u142 u143 u144 u145 u146 : Value} (Q : Exit → Act → World → Prop) (HQP : Hid (∀ c t (a : Act) w, Q (.panic c) ⟨t, a.defers⟩ w → Q (.panic c) a w))
    (HB : Hid (Bd w 72 F In p nd lf inn fl bl l)) (hc : cfgOk nd lf inn fl bl) (HI : Hid (∀ b, In b → b < w.heap.size)) (hk : k < 2) (c1 : w.cell? ⟨r, k, none⟩ = some (.pointer (some ⟨p, 0, none⟩))) (c2 : w.cell? ⟨g, 0, none⟩ = some (.slice Ak nk ck)) (c3 : w.cell? ⟨g, 1, none⟩ = some (.slice Av nv cv))
    (H1 : Hid (Bt w D Ak nk ck e.1)) (H2 : Hid (Bt w D Av nv cv e.2)) (l1 : e.1.length ≤ 1152921504606) (l2 : e.2.length ≤ 1152921504606) (hl : l.length ≤ 1152921504) (HLS : Hid (∀ x ∈ l, x.1.length ≤ 1152921504606))
    (hexit : ∀ (v119 v120 v121 v122 v123 v124 v125 v126 : Value) (w' : World), Bd w' 72 (Grown F w w') In p nd lf inn fl bl (addL nd lf inn fl bl l e) → Chg F w w' → Q .normal ⟨(u0 :: u1 :: u2 :: u3 :: u4 :: u5 :: u6 :: u7 :: u8 :: u9 :: u10 :: .slice (some ⟨r, 0, none⟩) 2 2 :: u12 :: u13 :: u14 :: .int .i64 k :: u16 :: .slice (some ⟨g, 0, none⟩) 1 2 :: .int .i64 (addE nd lf inn fl bl l e) :: u19 :: u20 :: u21 :: u22 :: u23 :: u24 :: u25 :: u26 :: u27 :: u28 :: u29 :: u30 :: u31 :: u32 :: u33 :: u34 :: u35 :: u36 :: u37 :: u38 :: u39 :: u40 :: u41 :: u42 :: u43 :: u44 :: u45 :: u46 :: u47 :: u48 :: u49 :: u50 :: u51 :: u52 :: u53 :: u54 :: u55 :: u56 :: u57 :: u58 :: u59 :: u60 :: u61 :: u62 :: u63 :: u64 :: u65 :: u66 :: u67 :: u68 :: u69 :: u70 :: u71 :: u72 :: u73 :: u74 :: u75 :: u76 :: u77 :: u78 :: u79 :: u80 :: u81 :: u82 :: u83 :: u84 :: u85 :: u86 :: u87 :: u88 :: u89 :: u90 :: u91 :: u92 :: u93 :: u94 :: u95 :: u96 :: u97 :: u98 :: u99 :: u100 :: u101 :: u102 :: u103 :: u104 :: u105 :: u106 :: u107 :: u108 :: u109 :: u110 :: u111 :: u112 :: u113 :: u114 :: u115 :: u116 :: u117 :: u118 :: v119 :: v120 :: v121 :: v122 :: v123 :: v124 :: v125 :: v126 :: u127 :: u128 :: u129 :: u130 :: u131 :: u132 :: u133 :: u134 :: u135 :: u136 :: u137 :: u138 :: u139 :: u140 :: u141 :: u142 :: u143 :: u144 :: u145 :: u146 :: []).toArray, []⟩ w') :
    Code.wp Try.prog bsAddC Q ⟨(u0 :: u1 :: u2 :: u3 :: u4 :: u5 :: u6 :: u7 :: u8 :: u9 :: u10 :: .slice (some ⟨r, 0, none⟩) 2 2 :: u12 :: u13 :: u14 :: .int .i64 k :: u16 :: .slice (some ⟨g, 0, none⟩) 1 2 :: u18 :: u19 :: u20 :: u21 :: u22 :: u23 :: u24 :: u25 :: u26 :: u27 :: u28 :: u29 :: u30 :: u31 :: u32 :: u33 :: u34 :: u35 :: u36 :: u37 :: u38 :: u39 :: u40 :: u41 :: u42 :: u43 :: u44 :: u45 :: u46 :: u47 :: u48 :: u49 :: u50 :: u51 :: u52 :: u53 :: u54 :: u55 :: u56 :: u57 :: u58 :: u59 :: u60 :: u61 :: u62 :: u63 :: u64 :: u65 :: u66 :: u67 :: u68 :: u69 :: u70 :: u71 :: u72 :: u73 :: u74 :: u75 :: u76 :: u77 :: u78 :: u79 :: u80 :: u81 :: u82 :: u83 :: u84 :: u85 :: u86 :: u87 :: u88 :: u89 :: u90 :: u91 :: u92 :: u93 :: u94 :: u95 :: u96 :: u97 :: u98 :: u99 :: u100 :: u101 :: u102 :: u103 :: u104 :: u105 :: u106 :: u107 :: u108 :: u109 :: u110 :: u111 :: u112 :: u113 :: u114 :: u115 :: u116 :: u117 :: u118 :: u119 :: u120 :: u121 :: u122 :: u123 :: u124 :: u125 :: u126 :: u127 :: u128 :: u129 :: u130 :: u131 :: u132 :: u133 :: u134 :: u135 :: u136 :: u137 :: u138 :: u139 :: u140 :: u141 :: u142 :: u143 :: u144 :: u145 :: u146 :: []).toArray, []⟩ w := by
  have HEX := Lib.hid hexit
  have HC := Lib.hid hc
  have hk1 : (k : Int) < 2 := by omega
  have S0 : w.drew.cell? ⟨r, k, none⟩ = some (.pointer (some ⟨p, 0, none⟩)) ∧ w.drew.cell? ⟨g, 0, none⟩ = some (.slice Ak nk ck) ∧ w.drew.cell? ⟨g, 1, none⟩ = some (.slice Av nv cv) := ⟨c1, c2, c3⟩
  clear hexit c1 c2 c3 hc
  conv => arg 2; whnf
  refine wp_region_U (fun w' => w'.cell? ⟨r, k, none⟩ = some (.pointer (some ⟨p, 0, none⟩)) ∧ w'.cell? ⟨g, 0, none⟩ = some (.slice Ak nk ck) ∧ w'.cell? ⟨g, 1, none⟩ = some (.slice Av nv cv)) 7 (by kernel_rfl) ?_
  refine wpU_free (i := 0) (v := ?_) rfl (by kernel_rfl) (by kernel_rfl) (by kernel_rfl) (by kernel_rfl) (by first | exact fun _ _ _ h => h | exact fun c a w h => HQP.out c _ a w h) (fun _ => S0) (Or.inl ⟨by kernel_rfl, ?_⟩) ?_
  rotate_left
  · intro w hSw
    go_simp
    try with_reducible rfl
  try simp only [Act.put, List.setIfInBounds_toArray, List.set_cons_zero, List.set_cons_succ]
  refine wpU_free (i := 1) (v := ?_) rfl (by kernel_rfl) (by kernel_rfl) (by kernel_rfl) (by kernel_rfl) (by first | exact fun _ _ _ h => h | exact fun c a w h => HQP.out c _ a w h) (fun _ => S0) (Or.inl ⟨by kernel_rfl, ?_⟩) ?_
  rotate_left
  · intro w hSw
    go_simp
    try with_reducible rfl
  try simp only [Act.put, List.setIfInBounds_toArray, List.set_cons_zero, List.set_cons_succ]
  refine wpU_free (i := 2) (v := ?_) rfl (by kernel_rfl) (by kernel_rfl) (by kernel_rfl) (by kernel_rfl) (by first | exact fun _ _ _ h => h | exact fun c a w h => HQP.out c _ a w h) (fun _ => S0) (Or.inl ⟨by kernel_rfl, ?_⟩) ?_
  rotate_left
  · intro w hSw
    go_simp
    try with_reducible rfl
  try simp only [Act.put, List.setIfInBounds_toArray, List.set_cons_zero, List.set_cons_succ]
  refine wpU_free (i := 4) (v := ?_) rfl (by kernel_rfl) (by kernel_rfl) (by kernel_rfl) (by kernel_rfl) (by first | exact fun _ _ _ h => h | exact fun c a w h => HQP.out c _ a w h) (fun _ => S0) (Or.inl ⟨by kernel_rfl, ?_⟩) ?_
  rotate_left
  · intro w hSw
    go_simp
    try with_reducible rfl
  try simp only [Act.put, List.setIfInBounds_toArray, List.set_cons_zero, List.set_cons_succ]
  refine wpU_free (i := 5) (v := ?_) rfl (by kernel_rfl) (by kernel_rfl) (by kernel_rfl) (by kernel_rfl) (by first | exact fun _ _ _ h => h | exact fun c a w h => HQP.out c _ a w h) (fun _ => S0) (Or.inl ⟨by kernel_rfl, ?_⟩) ?_
  rotate_left
  · intro w hSw
    go_simp
    try with_reducible rfl
  try simp only [Act.put, List.setIfInBounds_toArray, List.set_cons_zero, List.set_cons_succ]
  refine wpU_take (i := 3) (v := ?_) rfl (by kernel_rfl) (by kernel_rfl) (by kernel_rfl) (by kernel_rfl) (by first | exact fun _ _ _ h => h | exact fun c a w h => HQP.out c _ a w h) S0 (Or.inl ⟨by kernel_rfl, ?_⟩) ?_
  rotate_left
  · intro w hSw
    obtain ⟨s0, s1, s2⟩ := hSw
    go_simp
    try with_reducible rfl
  try simp only [Act.put, List.setIfInBounds_toArray, List.set_cons_zero, List.set_cons_succ]
  refine wpU_take (i := 6) (v := ?_) rfl (by kernel_rfl) (by kernel_rfl) (by kernel_rfl) (by kernel_rfl) (by first | exact fun _ _ _ h => h | exact fun c a w h => HQP.out c _ a w h) S0 (Or.inl ⟨by kernel_rfl, ?_⟩) ?_
  rotate_left
  · intro w hSw
    obtain ⟨s0, s1, s2⟩ := hSw
    go_simp
    try with_reducible rfl
  try simp only [Act.put, List.setIfInBounds_toArray, List.set_cons_zero, List.set_cons_succ]
  refine wpU_one (i := 7) (by kernel_rfl) rfl (fun K hK => ?_)
  go_simp
  refine (add_any F In D p nd lf inn fl bl l e Ak Av nk ck nv cv _ (HB.out.below (Below.refl _ _).drew) HC.out HI.out (H1.out.below (Below.refl _ _).drew) (H2.out.below (Below.refl _ _).drew) l1 l2 hl HLS.out).mono ?_; rintro en w1 ⟨rfl, q1, q2⟩
  refine hK.out _ _ (fun h => absurd h (by decide)) ?_
  clear hK K
  try simp only [Act.put, List.setIfInBounds_toArray, List.set_cons_zero, List.set_cons_succ]
  refine wpU_free (i := 8) (v := ?_) rfl (by kernel_rfl) (by kernel_rfl) (by kernel_rfl) (by kernel_rfl) (by first | exact fun _ _ _ h => h | exact fun c a w h => HQP.out c _ a w h) (fun h => absurd h (by decide)) (Or.inl ⟨by kernel_rfl, ?_⟩) ?_
  rotate_left
  · intro w hSw
    go_simp
    try with_reducible rfl
  try simp only [Act.put, List.setIfInBounds_toArray, List.set_cons_zero, List.set_cons_succ]
  refine wpU_done (by kernel_rfl) ?_ _
  exact HEX.out _ _ _ _ _ _ _ _ _ q1 ((Chg.refl F w).drew.trans q2 (fun _ _ h => h))

noncomputable def bsRAddC : Code := codeOr (Try.f4.body.bind (regionAt 28))
set_option maxRecDepth 100000 in
set_option maxHeartbeats 4000000 in
theorem bs_radd (In : Nat → Prop) (nd lf inn fl bl : Int) (F : Nat → Prop) (p : Nat) (l : List Ent) (e : Ent) (s x k : Nat) (Ak Av : Option Addr) (nk ck nv cv : Nat) (w : World) {u0 u1 u2 u3 u4 u5 u6 u7 u8 u9 u10 u11 u13 u16 u17 u20 u21 u22 u23 u24 u25 u26 u27 u28 u29 u30 u31 u32 u33 u34 u35 u36 u37 u38 u39 u40 u41 u42 u43 u44 u45 u46 u47 u48 u49 u50 u51 u52 u53 u54 u55 u56 u57 u58 u59 u60 u61 u62 u63 u64 u65 u66 u67 u68 u69 u70 u71 u72 u73 u74 u75 u76 u77 u78 u79 u80 u81 u82 u83 u84 u85 u86 u87 u88 u89 u90 u91 u92 u93 u94 u95 u96 u97 u98 u99 u100 u101 u102 u103 u104 u105 u106 u107 u108 u109 u110 u111 u112 u113 u114 u115 u116 u117 u118 u119 u120 u121 u122 u123 u124 u125 u126 u127 u128 u129 u130 u131 u132 u133 u134 u135 u136 u137 u138 u139 u140 u141 u142 u143 u144 u145 u146 : Value} (Q : Exit → Act → World → Prop) (HQP : Hid (∀ c t (a : Act) w, Q (.panic c) ⟨t, a.defers⟩ w → Q (.panic c) a w))
    (HB : Hid (Bd w 39 F In p nd lf inn fl bl l)) (hc : cfgOk nd lf inn fl bl) (HI : Hid (∀ b, In b → b < w.heap.size ∧ ¬ F b)) (hk : k < 2) (c1 : w.cell? ⟨s, k, none⟩ = some (.pointer (some ⟨p, 0, none⟩))) (c2 : w.cell? ⟨x, 2, none⟩ = some (.slice Ak nk ck)) (c3 : w.cell? ⟨x, 3, none⟩ = some (.slice Av nv cv))
    (H1 : Hid (Bt w In Ak nk ck e.1)) (H2 : Hid (Bt w In Av nv cv e.2)) (l1 : e.1.length ≤ 1152921504606) (l2 : e.2.length ≤ 1152921504606) (hl : l.length ≤ 1152921504) (HLS : Hid (∀ x ∈ l, x.1.length ≤ 1152921504606))
    (hexit : ∀ (v134 v135 v136 v137 v138 v139 v140 v141 v142 v143 v144 v145 : Value) (w' : World), Bd w' 39 (Grown F w w') In p nd lf inn fl bl (addL nd lf inn fl bl l e) → Chg F w w' → Q .normal ⟨(u0 :: u1 :: u2 :: u3 :: u4 :: u5 :: u6 :: u7 :: u8 :: u9 :: u10 :: u11 :: .slice (some ⟨s, 0, none⟩) 2 2 :: u13 :: .pointer (some ⟨x, 0, none⟩) :: .int .i64 k :: u16 :: u17 :: .int .i64 (addE nd lf inn fl bl l e) :: .bool true :: u20 :: u21 :: u22 :: u23 :: u24 :: u25 :: u26 :: u27 :: u28 :: u29 :: u30 :: u31 :: u32 :: u33 :: u34 :: u35 :: u36 :: u37 :: u38 :: u39 :: u40 :: u41 :: u42 :: u43 :: u44 :: u45 :: u46 :: u47 :: u48 :: u49 :: u50 :: u51 :: u52 :: u53 :: u54 :: u55 :: u56 :: u57 :: u58 :: u59 :: u60 :: u61 :: u62 :: u63 :: u64 :: u65 :: u66 :: u67 :: u68 :: u69 :: u70 :: u71 :: u72 :: u73 :: u74 :: u75 :: u76 :: u77 :: u78 :: u79 :: u80 :: u81 :: u82 :: u83 :: u84 :: u85 :: u86 :: u87 :: u88 :: u89 :: u90 :: u91 :: u92 :: u93 :: u94 :: u95 :: u96 :: u97 :: u98 :: u99 :: u100 :: u101 :: u102 :: u103 :: u104 :: u105 :: u106 :: u107 :: u108 :: u109 :: u110 :: u111 :: u112 :: u113 :: u114 :: u115 :: u116 :: u117 :: u118 :: u119 :: u120 :: u121 :: u122 :: u123 :: u124 :: u125 :: u126 :: u127 :: u128 :: u129 :: u130 :: u131 :: u132 :: u133 :: v134 :: v135 :: v136 :: v137 :: v138 :: v139 :: v140 :: v141 :: v142 :: v143 :: v144 :: v145 :: .bool false :: []).toArray, []⟩ w') :
    Code.wp Try.prog bsRAddC Q ⟨(u0 :: u1 :: u2 :: u3 :: u4 :: u5 :: u6 :: u7 :: u8 :: u9 :: u10 :: u11 :: .slice (some ⟨s, 0, none⟩) 2 2 :: u13 :: .pointer (some ⟨x, 0, none⟩) :: .int .i64 k :: u16 :: u17 :: .int .i64 (addE nd lf inn fl bl l e) :: .bool true :: u20 :: u21 :: u22 :: u23 :: u24 :: u25 :: u26 :: u27 :: u28 :: u29 :: u30 :: u31 :: u32 :: u33 :: u34 :: u35 :: u36 :: u37 :: u38 :: u39 :: u40 :: u41 :: u42 :: u43 :: u44 :: u45 :: u46 :: u47 :: u48 :: u49 :: u50 :: u51 :: u52 :: u53 :: u54 :: u55 :: u56 :: u57 :: u58 :: u59 :: u60 :: u61 :: u62 :: u63 :: u64 :: u65 :: u66 :: u67 :: u68 :: u69 :: u70 :: u71 :: u72 :: u73 :: u74 :: u75 :: u76 :: u77 :: u78 :: u79 :: u80 :: u81 :: u82 :: u83 :: u84 :: u85 :: u86 :: u87 :: u88 :: u89 :: u90 :: u91 :: u92 :: u93 :: u94 :: u95 :: u96 :: u97 :: u98 :: u99 :: u100 :: u101 :: u102 :: u103 :: u104 :: u105 :: u106 :: u107 :: u108 :: u109 :: u110 :: u111 :: u112 :: u113 :: u114 :: u115 :: u116 :: u117 :: u118 :: u119 :: u120 :: u121 :: u122 :: u123 :: u124 :: u125 :: u126 :: u127 :: u128 :: u129 :: u130 :: u131 :: u132 :: u133 :: u134 :: u135 :: u136 :: u137 :: u138 :: u139 :: u140 :: u141 :: u142 :: u143 :: u144 :: u145 :: u146 :: []).toArray, []⟩ w := by
  have HEX := Lib.hid hexit
  have HC := Lib.hid hc
  have hk1 : (k : Int) < 2 := by omega
  obtain ⟨AE, hAE⟩ : ∃ a, a = addE nd lf inn fl bl l e := ⟨_, rfl⟩
  rw [← hAE] at HEX ⊢
  have HAE := Lib.hid hAE
  have hee : (AE == AE) = true := beq_self_eq_true _
  have S0 : w.drew.cell? ⟨s, k, none⟩ = some (.pointer (some ⟨p, 0, none⟩)) ∧ w.drew.cell? ⟨x, 2, none⟩ = some (.slice Ak nk ck) ∧ w.drew.cell? ⟨x, 3, none⟩ = some (.slice Av nv cv) := ⟨c1, c2, c3⟩
  clear hexit c1 c2 c3 hc hAE
  conv => arg 2; whnf
  refine wp_region_U (fun w' => w'.cell? ⟨s, k, none⟩ = some (.pointer (some ⟨p, 0, none⟩)) ∧ w'.cell? ⟨x, 2, none⟩ = some (.slice Ak nk ck) ∧ w'.cell? ⟨x, 3, none⟩ = some (.slice Av nv cv)) 10 (by kernel_rfl) ?_
  refine wpU_free (i := 0) (v := ?_) rfl (by kernel_rfl) (by kernel_rfl) (by kernel_rfl) (by kernel_rfl) (by first | exact fun _ _ _ h => h | exact fun c a w h => HQP.out c _ a w h) (fun _ => S0) (Or.inl ⟨by kernel_rfl, ?_⟩) ?_
  rotate_left
  · intro w hSw
    go_simp
    try with_reducible rfl
  try simp only [Act.put, List.setIfInBounds_toArray, List.set_cons_zero, List.set_cons_succ]
  refine wpU_free (i := 1) (v := ?_) rfl (by kernel_rfl) (by kernel_rfl) (by kernel_rfl) (by kernel_rfl) (by first | exact fun _ _ _ h => h | exact fun c a w h => HQP.out c _ a w h) (fun _ => S0) (Or.inl ⟨by kernel_rfl, ?_⟩) ?_
  rotate_left
  · intro w hSw
    go_simp
    try with_reducible rfl
  try simp only [Act.put, List.setIfInBounds_toArray, List.set_cons_zero, List.set_cons_succ]
  refine wpU_free (i := 2) (v := ?_) rfl (by kernel_rfl) (by kernel_rfl) (by kernel_rfl) (by kernel_rfl) (by first | exact fun _ _ _ h => h | exact fun c a w h => HQP.out c _ a w h) (fun _ => S0) (Or.inl ⟨by kernel_rfl, ?_⟩) ?_
  rotate_left
  · intro w hSw
    go_simp
    try with_reducible rfl
  try simp only [Act.put, List.setIfInBounds_toArray, List.set_cons_zero, List.set_cons_succ]
  refine wpU_free (i := 3) (v := ?_) rfl (by kernel_rfl) (by kernel_rfl) (by kernel_rfl) (by kernel_rfl) (by first | exact fun _ _ _ h => h | exact fun c a w h => HQP.out c _ a w h) (fun _ => S0) (Or.inl ⟨by kernel_rfl, ?_⟩) ?_
  rotate_left
  · intro w hSw
    go_simp
    try with_reducible rfl
  try simp only [Act.put, List.setIfInBounds_toArray, List.set_cons_zero, List.set_cons_succ]
  refine wpU_free (i := 4) (v := ?_) rfl (by kernel_rfl) (by kernel_rfl) (by kernel_rfl) (by kernel_rfl) (by first | exact fun _ _ _ h => h | exact fun c a w h => HQP.out c _ a w h) (fun _ => S0) (Or.inl ⟨by kernel_rfl, ?_⟩) ?_
  rotate_left
  · intro w hSw
    go_simp
    try with_reducible rfl
  try simp only [Act.put, List.setIfInBounds_toArray, List.set_cons_zero, List.set_cons_succ]
  refine wpU_free (i := 5) (v := ?_) rfl (by kernel_rfl) (by kernel_rfl) (by kernel_rfl) (by kernel_rfl) (by first | exact fun _ _ _ h => h | exact fun c a w h => HQP.out c _ a w h) (fun _ => S0) (Or.inl ⟨by kernel_rfl, ?_⟩) ?_
  rotate_left
  · intro w hSw
    go_simp
    try with_reducible rfl
  try simp only [Act.put, List.setIfInBounds_toArray, List.set_cons_zero, List.set_cons_succ]
  refine wpU_free (i := 6) (v := ?_) rfl (by kernel_rfl) (by kernel_rfl) (by kernel_rfl) (by kernel_rfl) (by first | exact fun _ _ _ h => h | exact fun c a w h => HQP.out c _ a w h) (fun _ => S0) (Or.inl ⟨by kernel_rfl, ?_⟩) ?_
  rotate_left
  · intro w hSw
    go_simp
    try with_reducible rfl
  try simp only [Act.put, List.setIfInBounds_toArray, List.set_cons_zero, List.set_cons_succ]
  refine wpU_free (i := 8) (v := ?_) rfl (by kernel_rfl) (by kernel_rfl) (by kernel_rfl) (by kernel_rfl) (by first | exact fun _ _ _ h => h | exact fun c a w h => HQP.out c _ a w h) (fun _ => S0) (Or.inl ⟨by kernel_rfl, ?_⟩) ?_
  rotate_left
  · intro w hSw
    go_simp
    try with_reducible rfl
  try simp only [Act.put, List.setIfInBounds_toArray, List.set_cons_zero, List.set_cons_succ]
  refine wpU_take (i := 7) (v := ?_) rfl (by kernel_rfl) (by kernel_rfl) (by kernel_rfl) (by kernel_rfl) (by first | exact fun _ _ _ h => h | exact fun c a w h => HQP.out c _ a w h) S0 (Or.inl ⟨by kernel_rfl, ?_⟩) ?_
  rotate_left
  · intro w hSw
    obtain ⟨s0, s1, s2⟩ := hSw
    go_simp
    try with_reducible rfl
  try simp only [Act.put, List.setIfInBounds_toArray, List.set_cons_zero, List.set_cons_succ]
  refine wpU_take (i := 9) (v := ?_) rfl (by kernel_rfl) (by kernel_rfl) (by kernel_rfl) (by kernel_rfl) (by first | exact fun _ _ _ h => h | exact fun c a w h => HQP.out c _ a w h) S0 (Or.inl ⟨by kernel_rfl, ?_⟩) ?_
  rotate_left
  · intro w hSw
    obtain ⟨s0, s1, s2⟩ := hSw
    go_simp
    try with_reducible rfl
  try simp only [Act.put, List.setIfInBounds_toArray, List.set_cons_zero, List.set_cons_succ]
  refine wpU_one (i := 10) (by kernel_rfl) rfl (fun K hK => ?_)
  go_simp
  refine (radd_any F In p nd lf inn fl bl l e Ak Av nk ck nv cv _ (HB.out.below (Below.refl _ _).drew) HC.out HI.out (H1.out.below (Below.refl _ _).drew) (H2.out.below (Below.refl _ _).drew) l1 l2 hl HLS.out).mono ?_; rintro en w1 ⟨rfl, q1, q2⟩; rw [← HAE.out]
  refine hK.out _ _ (fun h => absurd h (by decide)) ?_
  clear hK K
  try simp only [Act.put, List.setIfInBounds_toArray, List.set_cons_zero, List.set_cons_succ]
  refine wpU_free (i := 11) (v := ?_) rfl (by kernel_rfl) (by kernel_rfl) (by kernel_rfl) (by kernel_rfl) (by first | exact fun _ _ _ h => h | exact fun c a w h => HQP.out c _ a w h) (fun h => absurd h (by decide)) (Or.inl ⟨by kernel_rfl, ?_⟩) ?_
  rotate_left
  · intro w hSw
    go_simp
    try with_reducible rfl
  try simp only [Act.put, List.setIfInBounds_toArray, List.set_cons_zero, List.set_cons_succ]
  refine wpU_free (i := 12) (v := ?_) rfl (by kernel_rfl) (by kernel_rfl) (by kernel_rfl) (by kernel_rfl) (by first | exact fun _ _ _ h => h | exact fun c a w h => HQP.out c _ a w h) (fun h => absurd h (by decide)) (Or.inl ⟨by kernel_rfl, ?_⟩) ?_
  rotate_left
  · intro w hSw
    go_simp
    try with_reducible rfl
  try simp only [Act.put, List.setIfInBounds_toArray, List.set_cons_zero, List.set_cons_succ]
  refine wpU_done (by kernel_rfl) ?_ _
  exact HEX.out _ _ _ _ _ _ _ _ _ _ _ _ _ q1 ((Chg.refl F w).drew.trans q2 (fun _ _ h => h))
end Go.Proofs.Ytgjphmlmndcaeaa

namespace Go.Proofs.Ytgjphmlmndcaeaa
open Go.RowKit
/-- one entry in a slice that has just been made -/
theorem ents_one {w : World} {D : Nat → Prop} {Ak Av : Option Addr} {nk ck nv cv : Nat} {e : Ent} (h1 : Bt w D Ak nk ck e.1) (h2 : Bt w D Av nv cv e.2) : Ents (w.alloc (.cells #[.slice Ak nk ck, .slice Av nv cv] 43)) (fun b => D b ∨ w.heap.size ≤ b) (some ⟨w.heap.size, 0, none⟩) 1 [e] := by
  have hb : Below w.heap.size w (w.alloc (.cells #[.slice Ak nk ck, .slice Av nv cv] 43)) := (Below.refl _ _).alloc (Nat.le_refl _) _
  refine ⟨rfl, [.slice Ak nk ck, .slice Av nv cv], (Rd.two w _ _ _).weak (fun b hb => .inr hb), fun i x hx => ?_⟩
  match i, hx with
  | 0, hx =>
    have : x = e := by simpa using hx.symm
    subst this
    exact ⟨_, _, rfl, rfl, ((h1.below hb).weak (fun b hb => .inl hb)).sb, ((h2.below hb).weak (fun b hb => .inl hb)).sb⟩
  | i + 1, hx => simp at hx

/-- the builders' state, with no more than so many entries each -/
def Bs (w : World) (B0 : Nat) (nd lf inn fl bl : Int) (r s p1 q1 p2 q2 : Nat) (L : Nat) : Prop :=
  ∃ F1 G1 F2 G2 l1 l2, P2 w B0 nd lf inn fl bl F1 p1 l1 G1 q1 l1 F2 p2 l2 G2 q2 l2 ∧ Blk w r 31 #[.pointer (some ⟨p1, 0, none⟩), .pointer (some ⟨p2, 0, none⟩)] ∧ Blk w s 36 #[.pointer (some ⟨q1, 0, none⟩), .pointer (some ⟨q2, 0, none⟩)] ∧
    (∀ b, F1 b ∨ G1 b ∨ F2 b ∨ G2 b → b ≠ r ∧ b ≠ s) ∧ B0 ≤ r ∧ B0 ≤ s ∧ (buildE nd lf inn fl bl l1).1 = 0 ∧ (buildE nd lf inn fl bl l2).1 = 0 ∧ l1.length ≤ L ∧ l2.length ≤ L ∧ (∀ e ∈ l1, e.1.length ≤ 1152921504606 ∧ e.2.length ≤ 1152921504606) ∧ (∀ e ∈ l2, e.1.length ≤ 1152921504606 ∧ e.2.length ≤ 1152921504606)
theorem addL_len (nd lf inn fl bl : Int) (l : List Ent) (e : Ent) : (addL nd lf inn fl bl l e).length ≤ l.length + 1 := by unfold addL; split <;> simp
theorem addL_small {nd lf inn fl bl : Int} {l : List Ent} {e : Ent} (h : ∀ x ∈ l, x.1.length ≤ 1152921504606 ∧ x.2.length ≤ 1152921504606) (he : e.1.length ≤ 1152921504606 ∧ e.2.length ≤ 1152921504606) : ∀ x ∈ addL nd lf inn fl bl l e, x.1.length ≤ 1152921504606 ∧ x.2.length ≤ 1152921504606 := by
  unfold addL
  split
  · intro x hx
    rcases List.mem_append.1 hx with hx | hx
    · exact h x hx
    · have : x = e := by simpa using hx
      subst this; exact he
  · exact h

/-- what follows the first statement of a sequence -/
def sndOf : Code → Option Code
  | .seq _ b => some b
  | _ => none
noncomputable def bsRestC : Code := codeOr ((Try.f4.body.bind (regionIn 17)).bind sndOf)
set_option maxRecDepth 100000 in
set_option maxHeartbeats 4000000 in
theorem bs_rest (B0 : Nat) (nd lf inn fl bl : Int) (F1 : Nat → Prop) (p1 : Nat) (l1 : List Ent) (G1 : Nat → Prop) (q1 : Nat) (F2 : Nat → Prop) (p2 : Nat) (l2 : List Ent) (G2 : Nat → Prop) (q2 : Nat) (r s x L : Nat) (wh dn : Bool) (e : Ent) (Ak Av : Option Addr) (nk ck nv cv : Nat) (w : World) {u0 u1 u2 u3 u4 u5 u6 u7 u8 u9 u10 u13 u16 u17 u18 u19 u20 u21 u22 u23 u24 u25 u26 u27 u28 u29 u30 u31 u32 u33 u34 u35 u36 u37 u38 u39 u40 u41 u42 u43 u44 u45 u46 u47 u48 u49 u50 u51 u52 u53 u54 u55 u56 u57 u58 u59 u60 u61 u62 u63 u64 u65 u66 u67 u68 u69 u70 u71 u72 u73 u74 u75 u76 u77 u78 u79 u80 u81 u82 u83 u84 u85 u86 u87 u88 u89 u90 u91 u92 u93 u94 u95 u96 u97 u98 u99 u100 u101 u102 u103 u104 u105 u106 u107 u108 u109 u110 u111 u112 u113 u114 u115 u116 u117 u118 u119 u120 u121 u122 u123 u124 u125 u126 u127 u128 u129 u130 u131 u132 u133 u134 u135 u136 u137 u138 u139 u140 u141 u142 u143 u144 u145 u146 : Value} (Q : Exit → Act → World → Prop) (HQP : Hid (∀ c t (a : Act) w, Q (.panic c) ⟨t, a.defers⟩ w → Q (.panic c) a w))
    (HP : Hid (P2 w B0 nd lf inn fl bl F1 p1 l1 G1 q1 l1 F2 p2 l2 G2 q2 l2)) (hB : B0 ≤ w.heap.size) (HR : Hid (Blk w r 31 #[.pointer (some ⟨p1, 0, none⟩), .pointer (some ⟨p2, 0, none⟩)])) (HS : Hid (Blk w s 36 #[.pointer (some ⟨q1, 0, none⟩), .pointer (some ⟨q2, 0, none⟩)]))
    (HD : Hid (∀ b, F1 b ∨ G1 b ∨ F2 b ∨ G2 b → b ≠ r ∧ b ≠ s)) (HDX : Hid (∀ b, F1 b ∨ G1 b ∨ F2 b ∨ G2 b → b ≠ x)) (hr0 : B0 ≤ r) (hs0 : B0 ≤ s) (HO1 : Hid ((buildE nd lf inn fl bl l1).1 = 0)) (HO2 : Hid ((buildE nd lf inn fl bl l2).1 = 0)) (hl1 : l1.length ≤ L) (hl2 : l2.length ≤ L) (hL : L ≤ 1048580)
    (HM1 : Hid (∀ e ∈ l1, e.1.length ≤ 1152921504606 ∧ e.2.length ≤ 1152921504606)) (HM2 : Hid (∀ e ∈ l2, e.1.length ≤ 1152921504606 ∧ e.2.length ≤ 1152921504606))
    (hx0 : w.cell? ⟨x, 0, none⟩ = some (.bool wh)) (hx1 : w.cell? ⟨x, 1, none⟩ = some (.bool dn)) (hx2 : w.cell? ⟨x, 2, none⟩ = some (.slice Ak nk ck)) (hx3 : w.cell? ⟨x, 3, none⟩ = some (.slice Av nv cv))
    (H1 : Hid (Bt w (fun b => b < B0) Ak nk ck e.1)) (H2 : Hid (Bt w (fun b => b < B0) Av nv cv e.2)) (le1 : e.1.length ≤ 1152921504606) (le2 : e.2.length ≤ 1152921504606)
    (hexit1 : ∀ (v4 v15 v16 v17 v18 v19 v98 v99 v100 v101 v102 v103 v104 v105 v106 v107 v108 v109 v110 v111 v112 v113 v114 v115 v116 v117 v118 v119 v120 v121 v122 v123 v124 v125 v126 v127 v128 v129 v130 v131 v132 v133 v134 v135 v136 v137 v138 v139 v140 v141 v142 v143 v144 v145 v146 : Value) (w' : World), Bs w' B0 nd lf inn fl bl r s p1 q1 p2 q2 (L + 1) → Below B0 w w' → Q (.exit 1) ⟨(u0 :: u1 :: u2 :: u3 :: v4 :: u5 :: u6 :: u7 :: u8 :: u9 :: u10 :: .slice (some ⟨r, 0, none⟩) 2 2 :: .slice (some ⟨s, 0, none⟩) 2 2 :: u13 :: .pointer (some ⟨x, 0, none⟩) :: v15 :: v16 :: v17 :: v18 :: v19 :: u20 :: u21 :: u22 :: u23 :: u24 :: u25 :: u26 :: u27 :: u28 :: u29 :: u30 :: u31 :: u32 :: u33 :: u34 :: u35 :: u36 :: u37 :: u38 :: u39 :: u40 :: u41 :: u42 :: u43 :: u44 :: u45 :: u46 :: u47 :: u48 :: u49 :: u50 :: u51 :: u52 :: u53 :: u54 :: u55 :: u56 :: u57 :: u58 :: u59 :: u60 :: u61 :: u62 :: u63 :: u64 :: u65 :: u66 :: u67 :: u68 :: u69 :: u70 :: u71 :: u72 :: u73 :: u74 :: u75 :: u76 :: u77 :: u78 :: u79 :: u80 :: u81 :: u82 :: u83 :: u84 :: u85 :: u86 :: u87 :: u88 :: u89 :: u90 :: u91 :: u92 :: u93 :: u94 :: u95 :: u96 :: u97 :: v98 :: v99 :: v100 :: v101 :: v102 :: v103 :: v104 :: v105 :: v106 :: v107 :: v108 :: v109 :: v110 :: v111 :: v112 :: v113 :: v114 :: v115 :: v116 :: v117 :: v118 :: v119 :: v120 :: v121 :: v122 :: v123 :: v124 :: v125 :: v126 :: v127 :: v128 :: v129 :: v130 :: v131 :: v132 :: v133 :: v134 :: v135 :: v136 :: v137 :: v138 :: v139 :: v140 :: v141 :: v142 :: v143 :: v144 :: v145 :: v146 :: []).toArray, []⟩ w')
    (hexit : ∀ (v4 v15 v16 v17 v18 v19 v98 v99 v100 v101 v102 v103 v104 v105 v106 v107 v108 v109 v110 v111 v112 v113 v114 v115 v116 v117 v118 v119 v120 v121 v122 v123 v124 v125 v126 v127 v128 v129 v130 v131 v132 v133 v134 v135 v136 v137 v138 v139 v140 v141 v142 v143 v144 v145 v146 : Value) (w' : World), Bs w' B0 nd lf inn fl bl r s p1 q1 p2 q2 (L + 1) → Below B0 w w' → Q .normal ⟨(u0 :: u1 :: u2 :: u3 :: v4 :: u5 :: u6 :: u7 :: u8 :: u9 :: u10 :: .slice (some ⟨r, 0, none⟩) 2 2 :: .slice (some ⟨s, 0, none⟩) 2 2 :: u13 :: .pointer (some ⟨x, 0, none⟩) :: v15 :: v16 :: v17 :: v18 :: v19 :: u20 :: u21 :: u22 :: u23 :: u24 :: u25 :: u26 :: u27 :: u28 :: u29 :: u30 :: u31 :: u32 :: u33 :: u34 :: u35 :: u36 :: u37 :: u38 :: u39 :: u40 :: u41 :: u42 :: u43 :: u44 :: u45 :: u46 :: u47 :: u48 :: u49 :: u50 :: u51 :: u52 :: u53 :: u54 :: u55 :: u56 :: u57 :: u58 :: u59 :: u60 :: u61 :: u62 :: u63 :: u64 :: u65 :: u66 :: u67 :: u68 :: u69 :: u70 :: u71 :: u72 :: u73 :: u74 :: u75 :: u76 :: u77 :: u78 :: u79 :: u80 :: u81 :: u82 :: u83 :: u84 :: u85 :: u86 :: u87 :: u88 :: u89 :: u90 :: u91 :: u92 :: u93 :: u94 :: u95 :: u96 :: u97 :: v98 :: v99 :: v100 :: v101 :: v102 :: v103 :: v104 :: v105 :: v106 :: v107 :: v108 :: v109 :: v110 :: v111 :: v112 :: v113 :: v114 :: v115 :: v116 :: v117 :: v118 :: v119 :: v120 :: v121 :: v122 :: v123 :: v124 :: v125 :: v126 :: v127 :: v128 :: v129 :: v130 :: v131 :: v132 :: v133 :: v134 :: v135 :: v136 :: v137 :: v138 :: v139 :: v140 :: v141 :: v142 :: v143 :: v144 :: v145 :: v146 :: []).toArray, []⟩ w') :
    Code.wp Try.prog bsRestC Q ⟨(u0 :: u1 :: u2 :: u3 :: u4 :: u5 :: u6 :: u7 :: u8 :: u9 :: u10 :: .slice (some ⟨r, 0, none⟩) 2 2 :: .slice (some ⟨s, 0, none⟩) 2 2 :: u13 :: .pointer (some ⟨x, 0, none⟩) :: .int .i64 0 :: u16 :: u17 :: u18 :: u19 :: u20 :: u21 :: u22 :: u23 :: u24 :: u25 :: u26 :: u27 :: u28 :: u29 :: u30 :: u31 :: u32 :: u33 :: u34 :: u35 :: u36 :: u37 :: u38 :: u39 :: u40 :: u41 :: u42 :: u43 :: u44 :: u45 :: u46 :: u47 :: u48 :: u49 :: u50 :: u51 :: u52 :: u53 :: u54 :: u55 :: u56 :: u57 :: u58 :: u59 :: u60 :: u61 :: u62 :: u63 :: u64 :: u65 :: u66 :: u67 :: u68 :: u69 :: u70 :: u71 :: u72 :: u73 :: u74 :: u75 :: u76 :: u77 :: u78 :: u79 :: u80 :: u81 :: u82 :: u83 :: u84 :: u85 :: u86 :: u87 :: u88 :: u89 :: u90 :: u91 :: u92 :: u93 :: u94 :: u95 :: u96 :: u97 :: u98 :: u99 :: u100 :: u101 :: u102 :: u103 :: u104 :: u105 :: u106 :: u107 :: u108 :: u109 :: u110 :: u111 :: u112 :: u113 :: u114 :: u115 :: u116 :: u117 :: u118 :: u119 :: u120 :: u121 :: u122 :: u123 :: u124 :: u125 :: u126 :: u127 :: u128 :: u129 :: u130 :: u131 :: u132 :: u133 :: u134 :: u135 :: u136 :: u137 :: u138 :: u139 :: u140 :: u141 :: u142 :: u143 :: u144 :: u145 :: u146 :: []).toArray, []⟩ w := by
  have HEX := Lib.hid hexit
  have HEX1 := Lib.hid hexit1
  clear hexit hexit1
  conv => arg 2; whnf
  cases dn
  · cases wh
    · skip
      go_upto_region 25 with (first | (go_at_call 15; refine (copy_any (some ⟨w.heap.size, 0, none⟩) 1 1 _ [e] _ (ents_one H1.out H2.out) (by omega) (by simp; exact ⟨le1, le2⟩)).mono ?_; rintro e1 w2 ⟨A2, c2, rfl, q1', q2'⟩; have HC2 := Lib.hid q1'; have HB2 := Lib.hid q2'; clear q1' q2'))
      have hwA : (w.alloc (.cells #[.slice Ak nk ck, .slice Av nv cv] 43)).heap.size = w.heap.size + 1 := by simp
      have HBW2 : Hid (Below w.heap.size w w2) := Lib.hid (((Below.refl _ _).alloc (Nat.le_refl _) _).trans (HB2.out.mono (by simp)))
      have hz2 : w.heap.size + 1 ≤ w2.heap.size := by have := HB2.out.size; omega
      obtain ⟨g, o, Ck, mk, dk, Cv, mv, dv, key, val, hA2, hgF, he, cc1, cc2, kk1, kk2, kk3, kk4, kk5, kk6, kk7, kk8⟩ := HC2.out.ents.at_ (k := 0) (by omega)
      have he : (key, val) = e := by simpa using he.symm
      subst he
      have hgo : o = 0 ∧ c2 = 1 + 1 := by
        obtain ⟨g', _, _, h1, h2, _⟩ := HC2.out
        rw [hA2] at h1
        injection h1 with h1
        injection h1 with _ h1
        exact ⟨h1, h2⟩
      obtain ⟨rfl, rfl⟩ := hgo
      subst hA2
      rw [Nat.zero_mul, Nat.add_zero] at cc1 cc2
      have cc2 : w2.cell? ⟨g, 1, none⟩ = some (.slice Cv mv dv) := cc2
      have HK1 : Hid (Bt w2 (From (w.heap.size + 1)) Ck mk dk key) := Lib.hid ⟨kk1, kk2, kk3, by rw [← hwA]; exact kk4⟩
      have HK2 : Hid (Bt w2 (From (w.heap.size + 1)) Cv mv dv val) := Lib.hid ⟨kk5, kk6, kk7, by rw [← hwA]; exact kk8⟩
      have HCI : Hid (CopiedIn w2 (fun b => w.heap.size + 1 ≤ b ∧ b < w2.heap.size) (some ⟨g, 0, none⟩) 1 (1 + 1) [(key, val)]) := Lib.hid (by rw [← hwA]; exact HC2.out.in_)
      have HCC : Hid (Copied w2 (w.heap.size + 1) (some ⟨g, 0, none⟩) 1 (1 + 1) [(key, val)]) := Lib.hid (by rw [← hwA]; exact HC2.out)
      have HPA := Lib.hid ((HP.out).below HBW2.out)
      have HRA := Lib.hid (HR.out.below HBW2.out)
      have HSA := Lib.hid (HS.out.below HBW2.out)
      have x2A := bkeep HBW2.out hx2
      have x3A := bkeep HBW2.out hx3
      have HCFG : Hid (cfgOk nd lf inn fl bl) := Lib.hid (buildE_ok HO1.out).1
      have hxw : x < w.heap.size := cell_lt hx2
      clear kk1 kk2 kk3 kk4 kk5 kk6 kk7 kk8 HC2 HB2 hwA hgF
      refine bs_add (fun b => b < B0) _ nd lf inn fl bl F1 p1 l1 (key, val) r 0 g Ck Cv mk dk mv dv w2 _ (by exact Lib.hid (fun c t a w h => HQP.out c t a w h)) (Lib.hid HPA.out.b1) HCFG.out (Lib.hid (fun b hb => by omega)) (by omega) ((HRA.out.cell 0).trans rfl) cc1 cc2 HK1 HK2 le1 le2 (by omega) (Lib.hid (fun y hy => (HM1.out y hy).1)) ?_
      intro v119 v120 v121 v122 v123 v124 v125 v126 w3 hbd3 hch3
      have HCH3 := Lib.hid hch3
      have HP3 := Lib.hid (HPA.out.stepX (by omega) hbd3 hch3 (fun b hb => hb.imp id (fun h => h.1)))
      have hz3 : w2.heap.size ≤ w3.heap.size := hch3.size
      have hFw : ∀ b, F1 b → b < w.heap.size := fun b hb => (HP.out).b1.lt b hb
      have hF0 : ∀ b, F1 b → B0 ≤ b := fun b hb => HP.out.base b (.inl hb)
      have HR3 := Lib.hid (HRA.out.chg hch3 (fun h => (HD.out r (.inl h)).1 rfl))
      have HS3 := Lib.hid (HSA.out.chg hch3 (fun h => (HD.out s (.inl h)).2 rfl))
      have x23 := hch3.cell (fun h => (HDX.out x (.inl h)) rfl) x2A
      have x33 := hch3.cell (fun h => (HDX.out x (.inl h)) rfl) x3A
      have HCI3 := Lib.hid (HCI.out.chg hch3 (fun b hb h => by have := hFw b h; have := hb.1; omega))
      have HCC3 := Lib.hid (HCC.out.chg hch3 (fun b hb h => by have := hFw b h; omega))
      have HT13 := Lib.hid ((H1.out.below HBW2.out).chg hch3 (fun b hb h => by have := hF0 b h; omega))
      have HT23 := Lib.hid ((H2.out.below HBW2.out).chg hch3 (fun b hb h => by have := hF0 b h; omega))
      clear hbd3 hch3 cc1 cc2 x2A x3A
      go_upto_region 28 with (first | (go_at_call 17; go_loud (refine (kept_any _ (some ⟨g, 0, none⟩) (some ⟨w3.heap.size, 0, none⟩) 1 (1 + 1) 1 1 (w.heap.size + 1) [(key, val)] _ (HCC3.out.below ((Below.refl _ _).alloc (Nat.le_refl _) _)) (ents_one HT13.out HT23.out)).mono ?_); rintro e1 w5 ⟨rfl, q2'⟩; have HB5 : Hid (Below w3.heap.size w3 w5) := Lib.hid (((Below.refl _ _).alloc (Nat.le_refl _) _).trans (q2'.mono (by simp))); clear q2') | (go_at_call 18; go_loud (refine (spoil_in _ (some ⟨g, 0, none⟩) 1 (1 + 1) [(key, val)] _ (HCI3.out.below HB5.out)).mono ?_); rintro e1 w6 ⟨rfl, q2'⟩; have HC6 := Lib.hid q2'; clear q2'))
      have HP0 := Lib.hid (HP.out)
      have hrw : r < w.heap.size := HR.out.lt
      have hsw : s < w.heap.size := HS.out.lt
      have hz5 : w3.heap.size ≤ w5.heap.size := HB5.out.size
      have hz6 : w5.heap.size ≤ w6.heap.size := HC6.out.size
      have HP6 := Lib.hid ((HP3.out.below HB5.out).chg HC6.out (fun b hb => ⟨by have := hb.1; omega, fun h => by
        have h1 := hb.1
        have h2 := hb.2
        rcases h with h | h | h | h
        · rcases h with h | h
          · have := HP0.out.b1.lt b h; omega
          · have := h.1; omega
        · have := HP0.out.c1.lt b h; omega
        · have := HP0.out.b2.lt b h; omega
        · have := HP0.out.c2.lt b h; omega⟩))
      have hnP : ∀ b, b < w.heap.size → ¬ (w.heap.size + 1 ≤ b ∧ b < w2.heap.size) := fun b hb h => by omega
      have HR6 := Lib.hid ((HR3.out.below HB5.out).chg HC6.out (hnP r hrw))
      have HS6 := Lib.hid ((HS3.out.below HB5.out).chg HC6.out (hnP s hsw))
      have y2 := HC6.out.cell (hnP x hxw) (bkeep HB5.out x23)
      have y3 := HC6.out.cell (hnP x hxw) (bkeep HB5.out x33)
      have HT16 := Lib.hid ((HT13.out.below HB5.out).chg HC6.out (fun b hb h => by have hb : b < B0 := hb; have := h.1; omega))
      have HT26 := Lib.hid ((HT23.out.below HB5.out).chg HC6.out (fun b hb h => by have hb : b < B0 := hb; have := h.1; omega))
      have HB36 : Hid (Below B0 w w6) := Lib.hid (((HBW2.out.mono hB).trans (HCH3.out.below_of (by omega) (fun b hb h => by have := hF0 b h; omega))).trans ((HB5.out.mono (by omega)).trans (HC6.out.below_of (by omega) (fun b hb h => by have := h.1; omega))))
      clear x23 x33
      refine bs_radd (fun b => b < B0) nd lf inn fl bl G1 q1 l1 (key, val) s x 0 Ak Av nk ck nv cv w6 _ (by exact Lib.hid (fun c t a w h => HQP.out c t a w h)) (Lib.hid HP6.out.c1) HCFG.out (Lib.hid (fun b hb => ⟨by omega, fun h => by have := HP0.out.base b (.inr (.inl h)); omega⟩)) (by omega) ((HS6.out.cell 0).trans rfl) y2 y3 HT16 HT26 le1 le2 (by omega) (Lib.hid (fun y hy => (HM1.out y hy).1)) ?_
      intro v134 v135 v136 v137 v138 v139 v140 v141 v142 v143 v144 v145 w7 hbd7 hch7
      have HP7 := Lib.hid (HP6.out.stepR (by omega) hbd7 hch7 (fun b hb => hb.imp id (fun h => h.1)))
      have HR7 := Lib.hid (HR6.out.chg hch7 (fun h => (HD.out r ((fun h => .inr (.inl h)) h)).1 rfl))
      have HS7 := Lib.hid (HS6.out.chg hch7 (fun h => (HD.out s ((fun h => .inr (.inl h)) h)).2 rfl))
      have hnF : ∀ b, Grown F1 w2 w3 b → b ≠ r ∧ b ≠ s := fun b hb => hb.elim (fun h => HD.out b (.inl h)) (fun h => ⟨by have := h.1; omega, by have := h.1; omega⟩)
      have hnG : ∀ b, Grown G1 w6 w7 b → b ≠ r ∧ b ≠ s := fun b hb => hb.elim (fun h => HD.out b ((fun h => .inr (.inl h)) h)) (fun h => ⟨by have := h.1; omega, by have := h.1; omega⟩)
      have HB7 : Hid (Below B0 w w7) := Lib.hid (HB36.out.trans (hch7.below_of (by omega) (fun b hb h => by have := HP0.out.base b (.inr (.inl h)); omega)))
      have HN : Hid ((∀ b, Grown F1 w2 w3 b → b ≠ r ∧ b ≠ s) ∧ ∀ b, Grown G1 w6 w7 b → b ≠ r ∧ b ≠ s) := Lib.hid ⟨hnF, hnG⟩
      clear hbd7 hch7 hnF hnG hnP hFw hF0 y2 y3
      go_wp2
      refine HEX.out _ _ _ _ _ _ _ _ _ _ _ _ _ _ _ _ _ _ _ _ _ _ _ _ _ _ _ _ _ _ _ _ _ _ _ _ _ _ _ _ _ _ _ _ _ _ _ _ _ _ _ _ _ _ _ w7 ⟨Grown F1 w2 w3, Grown G1 w6 w7, F2, G2, _, _, HP7.out, HR7.out, HS7.out, fun b hb => hb.elim (HN.out.1 b) (fun hb => hb.elim (HN.out.2 b) (fun hb => HD.out b (.inr (.inr hb)))), hr0, hs0, addL_ok HO1.out, HO2.out, by have := addL_len nd lf inn fl bl l1 (key, val); omega, by omega, addL_small HM1.out ⟨le1, le2⟩, HM2.out⟩ HB7.out
    · skip
      go_upto_region 25 with (first | (go_at_call 15; refine (copy_any (some ⟨w.heap.size, 0, none⟩) 1 1 _ [e] _ (ents_one H1.out H2.out) (by omega) (by simp; exact ⟨le1, le2⟩)).mono ?_; rintro e1 w2 ⟨A2, c2, rfl, q1', q2'⟩; have HC2 := Lib.hid q1'; have HB2 := Lib.hid q2'; clear q1' q2'))
      have hwA : (w.alloc (.cells #[.slice Ak nk ck, .slice Av nv cv] 43)).heap.size = w.heap.size + 1 := by simp
      have HBW2 : Hid (Below w.heap.size w w2) := Lib.hid (((Below.refl _ _).alloc (Nat.le_refl _) _).trans (HB2.out.mono (by simp)))
      have hz2 : w.heap.size + 1 ≤ w2.heap.size := by have := HB2.out.size; omega
      obtain ⟨g, o, Ck, mk, dk, Cv, mv, dv, key, val, hA2, hgF, he, cc1, cc2, kk1, kk2, kk3, kk4, kk5, kk6, kk7, kk8⟩ := HC2.out.ents.at_ (k := 0) (by omega)
      have he : (key, val) = e := by simpa using he.symm
      subst he
      have hgo : o = 0 ∧ c2 = 1 + 1 := by
        obtain ⟨g', _, _, h1, h2, _⟩ := HC2.out
        rw [hA2] at h1
        injection h1 with h1
        injection h1 with _ h1
        exact ⟨h1, h2⟩
      obtain ⟨rfl, rfl⟩ := hgo
      subst hA2
      rw [Nat.zero_mul, Nat.add_zero] at cc1 cc2
      have cc2 : w2.cell? ⟨g, 1, none⟩ = some (.slice Cv mv dv) := cc2
      have HK1 : Hid (Bt w2 (From (w.heap.size + 1)) Ck mk dk key) := Lib.hid ⟨kk1, kk2, kk3, by rw [← hwA]; exact kk4⟩
      have HK2 : Hid (Bt w2 (From (w.heap.size + 1)) Cv mv dv val) := Lib.hid ⟨kk5, kk6, kk7, by rw [← hwA]; exact kk8⟩
      have HCI : Hid (CopiedIn w2 (fun b => w.heap.size + 1 ≤ b ∧ b < w2.heap.size) (some ⟨g, 0, none⟩) 1 (1 + 1) [(key, val)]) := Lib.hid (by rw [← hwA]; exact HC2.out.in_)
      have HCC : Hid (Copied w2 (w.heap.size + 1) (some ⟨g, 0, none⟩) 1 (1 + 1) [(key, val)]) := Lib.hid (by rw [← hwA]; exact HC2.out)
      have HPA := Lib.hid ((HP.out.swap).below HBW2.out)
      have HRA := Lib.hid (HR.out.below HBW2.out)
      have HSA := Lib.hid (HS.out.below HBW2.out)
      have x2A := bkeep HBW2.out hx2
      have x3A := bkeep HBW2.out hx3
      have HCFG : Hid (cfgOk nd lf inn fl bl) := Lib.hid (buildE_ok HO2.out).1
      have hxw : x < w.heap.size := cell_lt hx2
      clear kk1 kk2 kk3 kk4 kk5 kk6 kk7 kk8 HC2 HB2 hwA hgF
      refine bs_add (fun b => b < B0) _ nd lf inn fl bl F2 p2 l2 (key, val) r 1 g Ck Cv mk dk mv dv w2 _ (by exact Lib.hid (fun c t a w h => HQP.out c t a w h)) (Lib.hid HPA.out.b1) HCFG.out (Lib.hid (fun b hb => by omega)) (by omega) ((HRA.out.cell 1).trans rfl) cc1 cc2 HK1 HK2 le1 le2 (by omega) (Lib.hid (fun y hy => (HM2.out y hy).1)) ?_
      intro v119 v120 v121 v122 v123 v124 v125 v126 w3 hbd3 hch3
      have HCH3 := Lib.hid hch3
      have HP3 := Lib.hid (HPA.out.stepX (by omega) hbd3 hch3 (fun b hb => hb.imp id (fun h => h.1)))
      have hz3 : w2.heap.size ≤ w3.heap.size := hch3.size
      have hFw : ∀ b, F2 b → b < w.heap.size := fun b hb => (HP.out.swap).b1.lt b hb
      have hF0 : ∀ b, F2 b → B0 ≤ b := fun b hb => HP.out.base b ((fun h => .inr (.inr (.inl h))) hb)
      have HR3 := Lib.hid (HRA.out.chg hch3 (fun h => (HD.out r ((fun h => .inr (.inr (.inl h))) h)).1 rfl))
      have HS3 := Lib.hid (HSA.out.chg hch3 (fun h => (HD.out s ((fun h => .inr (.inr (.inl h))) h)).2 rfl))
      have x23 := hch3.cell (fun h => (HDX.out x ((fun h => .inr (.inr (.inl h))) h)) rfl) x2A
      have x33 := hch3.cell (fun h => (HDX.out x ((fun h => .inr (.inr (.inl h))) h)) rfl) x3A
      have HCI3 := Lib.hid (HCI.out.chg hch3 (fun b hb h => by have := hFw b h; have := hb.1; omega))
      have HCC3 := Lib.hid (HCC.out.chg hch3 (fun b hb h => by have := hFw b h; omega))
      have HT13 := Lib.hid ((H1.out.below HBW2.out).chg hch3 (fun b hb h => by have := hF0 b h; omega))
      have HT23 := Lib.hid ((H2.out.below HBW2.out).chg hch3 (fun b hb h => by have := hF0 b h; omega))
      clear hbd3 hch3 cc1 cc2 x2A x3A
      go_upto_region 28 with (first | (go_at_call 17; go_loud (refine (kept_any _ (some ⟨g, 0, none⟩) (some ⟨w3.heap.size, 0, none⟩) 1 (1 + 1) 1 1 (w.heap.size + 1) [(key, val)] _ (HCC3.out.below ((Below.refl _ _).alloc (Nat.le_refl _) _)) (ents_one HT13.out HT23.out)).mono ?_); rintro e1 w5 ⟨rfl, q2'⟩; have HB5 : Hid (Below w3.heap.size w3 w5) := Lib.hid (((Below.refl _ _).alloc (Nat.le_refl _) _).trans (q2'.mono (by simp))); clear q2') | (go_at_call 18; go_loud (refine (spoil_in _ (some ⟨g, 0, none⟩) 1 (1 + 1) [(key, val)] _ (HCI3.out.below HB5.out)).mono ?_); rintro e1 w6 ⟨rfl, q2'⟩; have HC6 := Lib.hid q2'; clear q2'))
      have HP0 := Lib.hid (HP.out.swap)
      have hrw : r < w.heap.size := HR.out.lt
      have hsw : s < w.heap.size := HS.out.lt
      have hz5 : w3.heap.size ≤ w5.heap.size := HB5.out.size
      have hz6 : w5.heap.size ≤ w6.heap.size := HC6.out.size
      have HP6 := Lib.hid ((HP3.out.below HB5.out).chg HC6.out (fun b hb => ⟨by have := hb.1; omega, fun h => by
        have h1 := hb.1
        have h2 := hb.2
        rcases h with h | h | h | h
        · rcases h with h | h
          · have := HP0.out.b1.lt b h; omega
          · have := h.1; omega
        · have := HP0.out.c1.lt b h; omega
        · have := HP0.out.b2.lt b h; omega
        · have := HP0.out.c2.lt b h; omega⟩))
      have hnP : ∀ b, b < w.heap.size → ¬ (w.heap.size + 1 ≤ b ∧ b < w2.heap.size) := fun b hb h => by omega
      have HR6 := Lib.hid ((HR3.out.below HB5.out).chg HC6.out (hnP r hrw))
      have HS6 := Lib.hid ((HS3.out.below HB5.out).chg HC6.out (hnP s hsw))
      have y2 := HC6.out.cell (hnP x hxw) (bkeep HB5.out x23)
      have y3 := HC6.out.cell (hnP x hxw) (bkeep HB5.out x33)
      have HT16 := Lib.hid ((HT13.out.below HB5.out).chg HC6.out (fun b hb h => by have hb : b < B0 := hb; have := h.1; omega))
      have HT26 := Lib.hid ((HT23.out.below HB5.out).chg HC6.out (fun b hb h => by have hb : b < B0 := hb; have := h.1; omega))
      have HB36 : Hid (Below B0 w w6) := Lib.hid (((HBW2.out.mono hB).trans (HCH3.out.below_of (by omega) (fun b hb h => by have := hF0 b h; omega))).trans ((HB5.out.mono (by omega)).trans (HC6.out.below_of (by omega) (fun b hb h => by have := h.1; omega))))
      clear x23 x33
      refine bs_radd (fun b => b < B0) nd lf inn fl bl G2 q2 l2 (key, val) s x 1 Ak Av nk ck nv cv w6 _ (by exact Lib.hid (fun c t a w h => HQP.out c t a w h)) (Lib.hid HP6.out.c1) HCFG.out (Lib.hid (fun b hb => ⟨by omega, fun h => by have := HP0.out.base b (.inr (.inl h)); omega⟩)) (by omega) ((HS6.out.cell 1).trans rfl) y2 y3 HT16 HT26 le1 le2 (by omega) (Lib.hid (fun y hy => (HM2.out y hy).1)) ?_
      intro v134 v135 v136 v137 v138 v139 v140 v141 v142 v143 v144 v145 w7 hbd7 hch7
      have HP7 := Lib.hid (HP6.out.stepR (by omega) hbd7 hch7 (fun b hb => hb.imp id (fun h => h.1)))
      have HR7 := Lib.hid (HR6.out.chg hch7 (fun h => (HD.out r ((fun h => .inr (.inr (.inr h))) h)).1 rfl))
      have HS7 := Lib.hid (HS6.out.chg hch7 (fun h => (HD.out s ((fun h => .inr (.inr (.inr h))) h)).2 rfl))
      have hnF : ∀ b, Grown F2 w2 w3 b → b ≠ r ∧ b ≠ s := fun b hb => hb.elim (fun h => HD.out b ((fun h => .inr (.inr (.inl h))) h)) (fun h => ⟨by have := h.1; omega, by have := h.1; omega⟩)
      have hnG : ∀ b, Grown G2 w6 w7 b → b ≠ r ∧ b ≠ s := fun b hb => hb.elim (fun h => HD.out b ((fun h => .inr (.inr (.inr h))) h)) (fun h => ⟨by have := h.1; omega, by have := h.1; omega⟩)
      have HB7 : Hid (Below B0 w w7) := Lib.hid (HB36.out.trans (hch7.below_of (by omega) (fun b hb h => by have := HP0.out.base b (.inr (.inl h)); omega)))
      have HN : Hid ((∀ b, Grown F2 w2 w3 b → b ≠ r ∧ b ≠ s) ∧ ∀ b, Grown G2 w6 w7 b → b ≠ r ∧ b ≠ s) := Lib.hid ⟨hnF, hnG⟩
      clear hbd7 hch7 hnF hnG hnP hFw hF0 y2 y3
      go_wp2
      refine HEX.out _ _ _ _ _ _ _ _ _ _ _ _ _ _ _ _ _ _ _ _ _ _ _ _ _ _ _ _ _ _ _ _ _ _ _ _ _ _ _ _ _ _ _ _ _ _ _ _ _ _ _ _ _ _ _ w7 ⟨F1, G1, Grown F2 w2 w3, Grown G2 w6 w7, _, _, HP7.out.swap, HR7.out, HS7.out, fun b hb => hb.elim (fun h => HD.out b (.inl h)) (fun hb => hb.elim (fun h => HD.out b (.inr (.inl h))) (fun hb => hb.elim (HN.out.1 b) (HN.out.2 b))), hr0, hs0, HO1.out, addL_ok HO2.out, by omega, by have := addL_len nd lf inn fl bl l2 (key, val); omega, HM1.out, addL_small HM2.out ⟨le1, le2⟩⟩ HB7.out
  · cases wh
    · skip
      go_upto_region 21 with fail
      refine bs_done B0 nd lf inn fl bl F1 p1 l1 G1 q1 F2 _ _ _ _ _ r s 0 w _ (by exact Lib.hid (fun c t a w h => HQP.out c t a w h)) (Lib.hid HP.out) hB (by omega) ((HR.out.cell 0).trans rfl) ((HS.out.cell 0).trans rfl) ⟨fun h => (HD.out r (.inl h)).1 rfl, fun h => (HD.out r ((fun h => .inr (.inl h)) h)).1 rfl⟩ ⟨fun h => (HD.out s (.inl h)).2 rfl, fun h => (HD.out s ((fun h => .inr (.inl h)) h)).2 rfl⟩ (Lib.hid HO1.out) (by omega) (Lib.hid HM1.out) ?_
      intro v102 v103 v104 v105 v106 v107 v108 v109 v110 v111 v112 w' hp2 hch
      have HP2 := Lib.hid hp2
      have HCH := Lib.hid hch
      have hcfg : cfgOk nd lf inn fl bl := (buildE_ok HO1.out).1
      have HCFG := Lib.hid hcfg
      clear hp2 hch hcfg
      go_wp2
      refine HEX1.out _ _ _ _ _ _ _ _ _ _ _ _ _ _ _ _ _ _ _ _ _ _ _ _ _ _ _ _ _ _ _ _ _ _ _ _ _ _ _ _ _ _ _ _ _ _ _ _ _ _ _ _ _ _ _ w' ⟨F1, G1, F2, G2, [], l2, HP2.out, HR.out.chg HCH.out (fun h => h.elim (fun h => (HD.out r (.inl h)).1 rfl) (fun h => (HD.out r ((fun h => .inr (.inl h)) h)).1 rfl)), HS.out.chg HCH.out (fun h => h.elim (fun h => (HD.out s (.inl h)).2 rfl) (fun h => (HD.out s ((fun h => .inr (.inl h)) h)).2 rfl)), HD.out, hr0, hs0, buildE_nil HCFG.out, HO2.out, by first | omega | simp, by first | omega | simp, (by simp), HM2.out⟩ ?_
      exact HCH.out.below_of hB (fun b hb h => h.elim (fun h => by have := HP.out.base b (.inl h); omega) (fun h => by have := HP.out.base b ((fun h => .inr (.inl h)) h); omega))
    · skip
      go_upto_region 21 with fail
      refine bs_done B0 nd lf inn fl bl F2 p2 l2 G2 q2 F1 _ _ _ _ _ r s 1 w _ (by exact Lib.hid (fun c t a w h => HQP.out c t a w h)) (Lib.hid HP.out.swap) hB (by omega) ((HR.out.cell 1).trans rfl) ((HS.out.cell 1).trans rfl) ⟨fun h => (HD.out r ((fun h => .inr (.inr (.inl h))) h)).1 rfl, fun h => (HD.out r ((fun h => .inr (.inr (.inr h))) h)).1 rfl⟩ ⟨fun h => (HD.out s ((fun h => .inr (.inr (.inl h))) h)).2 rfl, fun h => (HD.out s ((fun h => .inr (.inr (.inr h))) h)).2 rfl⟩ (Lib.hid HO2.out) (by omega) (Lib.hid HM2.out) ?_
      intro v102 v103 v104 v105 v106 v107 v108 v109 v110 v111 v112 w' hp2 hch
      have HP2 := Lib.hid hp2
      have HCH := Lib.hid hch
      have hcfg : cfgOk nd lf inn fl bl := (buildE_ok HO2.out).1
      have HCFG := Lib.hid hcfg
      clear hp2 hch hcfg
      go_wp2
      refine HEX1.out _ _ _ _ _ _ _ _ _ _ _ _ _ _ _ _ _ _ _ _ _ _ _ _ _ _ _ _ _ _ _ _ _ _ _ _ _ _ _ _ _ _ _ _ _ _ _ _ _ _ _ _ _ _ _ w' ⟨F1, G1, F2, G2, l1, [], HP2.out.swap, HR.out.chg HCH.out (fun h => h.elim (fun h => (HD.out r ((fun h => .inr (.inr (.inl h))) h)).1 rfl) (fun h => (HD.out r ((fun h => .inr (.inr (.inr h))) h)).1 rfl)), HS.out.chg HCH.out (fun h => h.elim (fun h => (HD.out s ((fun h => .inr (.inr (.inl h))) h)).2 rfl) (fun h => (HD.out s ((fun h => .inr (.inr (.inr h))) h)).2 rfl)), HD.out, hr0, hs0, HO1.out, buildE_nil HCFG.out, by first | omega | simp, by first | omega | simp, HM1.out, (by simp)⟩ ?_
      exact HCH.out.below_of hB (fun b hb h => h.elim (fun h => by have := HP.out.base b ((fun h => .inr (.inr (.inl h))) h); omega) (fun h => by have := HP.out.base b ((fun h => .inr (.inr (.inr h))) h); omega))
end Go.Proofs.Ytgjphmlmndcaeaa

namespace Go.Proofs.Ytgjphmlmndcaeaa
open Go.RowKit
theorem lives_any (w : World) : Calls Try.prog 7 #[] w fun e w' => e = .returned (.bool true) ∧ Below w.heap.size w w' := by
  have hv : nodesOf 9 4 3 2 1 6 = (4, 0) := by decide
  have HV := Lib.hid hv
  clear hv
  go_enter Try.func7, Try.ntmps7
  go_wp2_with (go_at_call 8; refine (nodes_ok 9 4 3 2 1 6 _ (by decide) (by decide) (by decide)).mono ?_; rintro e w' ⟨rfl, hb⟩; rw [HV.out]; simp only [nodesV])
  go_ret
  exact ⟨rfl, hb⟩
end Go.Proofs.Ytgjphmlmndcaeaa

namespace Go.Proofs.Ytgjphmlmndcaeaa
open Go.RowKit
theorem four_blk (w : World) (t0 t1 t2 t3 : TypeId) (c0 c1 c2 c3 : Array Value) :
    Blk ((((w.alloc (.cells c0 t0)).alloc (.cells c1 t1)).alloc (.cells c2 t2)).alloc (.cells c3 t3)) w.heap.size t0 c0 ∧ Blk ((((w.alloc (.cells c0 t0)).alloc (.cells c1 t1)).alloc (.cells c2 t2)).alloc (.cells c3 t3)) (w.heap.size + 1) t1 c1 ∧
    Blk ((((w.alloc (.cells c0 t0)).alloc (.cells c1 t1)).alloc (.cells c2 t2)).alloc (.cells c3 t3)) (w.heap.size + 1 + 1) t2 c2 ∧ Blk ((((w.alloc (.cells c0 t0)).alloc (.cells c1 t1)).alloc (.cells c2 t2)).alloc (.cells c3 t3)) (w.heap.size + 1 + 1 + 1) t3 c3 ∧
    Below w.heap.size w ((((w.alloc (.cells c0 t0)).alloc (.cells c1 t1)).alloc (.cells c2 t2)).alloc (.cells c3 t3)) ∧ ((((w.alloc (.cells c0 t0)).alloc (.cells c1 t1)).alloc (.cells c2 t2)).alloc (.cells c3 t3)).heap.size = w.heap.size + 1 + 1 + 1 + 1 := by
  obtain ⟨a, b, c, d⟩ := three_blk' w t0 t1 t2 c0 c1 c2
  refine ⟨a.alloc _, b.alloc _, c.alloc _, ?_, d.alloc d.size _, by simp⟩
  have := Blk.new (((w.alloc (.cells c0 t0)).alloc (.cells c1 t1)).alloc (.cells c2 t2)) t3 c3
  simpa using this
set_option maxRecDepth 100000 in
set_option maxHeartbeats 4000000 in
theorem builders_bad (nd lf inn fl bl : Int) (A : Option Addr) (n c : Nat) (w : World) (hc : ¬ cfgOk nd lf inn fl bl) :
    Calls Try.prog 4 #[.agg #[.int .i64 nd, .int .i64 lf, .int .i64 inn, .int .i64 fl, .int .i64 bl], .slice A n c] w fun e w' => e = .returned (.bool true) ∧ Below w.heap.size w w' := by
  have HC := Lib.hid hc
  have HE := Lib.hid (cfgE_bad hc)
  clear hc
  go_enter Try.func4, Try.ntmps4
  go_wp2_with (first | (go_at_call 7; refine (lives_any _).mono ?_; rintro e w1 ⟨rfl, hb1⟩; have HB1 : Hid (Below w.heap.size w w1) := Lib.hid (((Below.refl _ _).alloc (Nat.le_refl _) _).trans (hb1.mono (by simp))); have HK1 := Lib.hid ((Blk.new w 23 #[.int .i64 nd, .int .i64 lf, .int .i64 inn, .int .i64 fl, .int .i64 bl]).below hb1); obtain ⟨z0, z1, z2, z3, z4⟩ := cf_of HK1.out; clear hb1) | (go_at_call 10; refine (pnew_bad nd lf inn fl bl w1 HC.out).mono ?_; rintro e w2 ⟨rfl, hb2⟩; have HB2 : Hid (Below w.heap.size w w2) := Lib.hid (HB1.out.trans (hb2.mono HB1.out.size)); have HK2 := Lib.hid (HK1.out.below hb2); obtain ⟨z0, z1, z2, z3, z4⟩ := cf_of HK2.out; clear hb2) | (go_at_call 10; refine (pnew_bad nd lf inn fl bl w2 HC.out).mono ?_; rintro e w3 ⟨rfl, hb3⟩; have HB3 : Hid (Below w.heap.size w w3) := Lib.hid (HB2.out.trans (hb3.mono HB2.out.size)); have HK3 := Lib.hid (HK2.out.below hb3); obtain ⟨z0, z1, z2, z3, z4⟩ := cf_of HK3.out; clear hb3) | (go_at_call 11; refine (rconfig_any nd lf inn fl bl w3).mono ?_; rintro e w4 ⟨rfl, hb4⟩; rw [HE.out]; have HB4 : Hid (Below w.heap.size w w4) := Lib.hid (HB3.out.trans (hb4.mono HB3.out.size)); clear hb4))
  go_ret
  exact ⟨rfl, HB4.out⟩

end Go.Proofs.Ytgjphmlmndcaeaa
