/- WALKS: order.Seen: pieces of the first loop. WALKS: order.Seen: the first loop. WALKS: order.stands, its closure; slices.IndexFunc, ContainsFunc over calls. WALKS: order.stands, whole. -/
import Derived.Test.YtpbnngfiinihmaaOc07
import Derived.Test.YtpbnngfiinihmaaOc08
import Derived.Test.YtpbnngfiinihmaaOc09
import Derived.Test.YtpbnngfiinihmaaOc12
set_option linter.unusedVariables false
set_option linter.unusedSimpArgs false
namespace Go.Proofs.Ytpbnngfiinihmaa
open Go.RowKit
open Go.Lib (compareBytes)
noncomputable def s6C : Code := codeOr (Try.f15.body.bind (regionAt 6))
set_option maxRecDepth 100000 in
set_option maxHeartbeats 4000000 in
theorem s6_out (i q p8 p9 o : Nat) (lA kA pA aA hA : Option Addr) (ln lc kn kc pn pc an ac hn hc : Nat) (key prev lo hi : List UInt8) (w : World) {u0 u2 u3 u4 u5 u6 u7 u8 u9 u10 u11 u12 u14 u17 u18 u19 u20 u21 u22 u23 u24 u25 u26 u27 u28 u29 u30 u31 u32 u33 u34 u35 u36 u37 u38 u39 u40 u41 u42 u43 u44 u45 u46 u47 u48 u49 u50 u51 u52 u53 u54 u55 u56 u57 u58 u59 u60 u61 u62 u63 u64 u65 u66 u67 u68 u69 u70 u71 u72 u73 u74 u75 u76 u77 u78 u79 u80 u81 u82 u83 u84 u85 u86 u87 u88 u89 u90 u91 u92 u93 u94 u95 u96 u97 u98 u99 u100 u101 u102 u103 u104 u105 u106 u107 u108 u109 u110 u111 u112 u113 u114 u115 u116 u117 u118 u119 u120 u121 u122 u123 u124 u125 u126 u127 u128 u129 u130 u131 u132 u133 u134 u135 u136 u137 u138 u139 u140 u141 u142 u143 u144 u145 u146 u147 u148 u149 u150 u151 u152 : Value} (Q : Exit → Act → World → Prop) (HQP : Hid (∀ c t (a : Act) w, Q (.panic c) ⟨t, a.defers⟩ w → Q (.panic c) a w))
    (hi1 : i < ln) (hln : ln ≤ 1152921504606) (SK : SB w Any (.slice kA kn kc) key) (SL : SB w Any (.slice aA an ac) lo) (SH : SB w Any (.slice hA hn hc) hi) (hno : ¬ inE lo hi key)
    (S0 : w.drew.cell? ⟨q, 0, none⟩ = some (.slice kA kn kc) ∧ w.drew.cell? ⟨p8, 0, none⟩ = some (.slice aA an ac) ∧ w.drew.cell? ⟨p9, 0, none⟩ = some (.slice hA hn hc) ∧ True)
    (hexit : ∀ (v36 v37 v38 v39 v40 v41 v42 v43 v44 v45 v46 v47 v48 v49 v50 v51 v52 v53 v54 v55 : Value) (rb : Bool) (w' : World), (rb = true) → Chg Nil w w' → Q .normal ⟨(u0 :: .slice lA ln lc :: u2 :: u3 :: u4 :: u5 :: u6 :: u7 :: u8 :: u9 :: u10 :: u11 :: u12 :: .func (.func 33) #[] #[.pointer (some ⟨p8, 0, none⟩), .pointer (some ⟨p9, 0, none⟩)] :: u14 :: .int .i64 i :: .pointer (some ⟨q, 0, none⟩) :: u17 :: u18 :: u19 :: u20 :: u21 :: u22 :: u23 :: u24 :: u25 :: u26 :: u27 :: u28 :: u29 :: u30 :: u31 :: u32 :: u33 :: u34 :: u35 :: v36 :: v37 :: v38 :: v39 :: v40 :: v41 :: v42 :: v43 :: v44 :: v45 :: v46 :: v47 :: v48 :: v49 :: v50 :: v51 :: v52 :: v53 :: v54 :: v55 :: .bool rb :: u57 :: u58 :: u59 :: u60 :: u61 :: u62 :: u63 :: u64 :: u65 :: u66 :: u67 :: u68 :: u69 :: u70 :: u71 :: u72 :: u73 :: u74 :: u75 :: u76 :: u77 :: u78 :: u79 :: u80 :: u81 :: u82 :: u83 :: u84 :: u85 :: u86 :: u87 :: u88 :: u89 :: u90 :: u91 :: u92 :: u93 :: u94 :: u95 :: u96 :: u97 :: u98 :: u99 :: u100 :: u101 :: u102 :: u103 :: u104 :: u105 :: u106 :: u107 :: u108 :: u109 :: u110 :: u111 :: u112 :: u113 :: u114 :: u115 :: u116 :: u117 :: u118 :: u119 :: u120 :: u121 :: u122 :: u123 :: u124 :: u125 :: u126 :: u127 :: u128 :: u129 :: u130 :: u131 :: u132 :: u133 :: u134 :: u135 :: u136 :: u137 :: u138 :: u139 :: u140 :: u141 :: u142 :: u143 :: u144 :: u145 :: u146 :: u147 :: u148 :: u149 :: u150 :: u151 :: u152 :: []).toArray, []⟩ w') :
    Code.wp Try.prog s6C Q ⟨(u0 :: .slice lA ln lc :: u2 :: u3 :: u4 :: u5 :: u6 :: u7 :: u8 :: u9 :: u10 :: u11 :: u12 :: .func (.func 33) #[] #[.pointer (some ⟨p8, 0, none⟩), .pointer (some ⟨p9, 0, none⟩)] :: u14 :: .int .i64 i :: .pointer (some ⟨q, 0, none⟩) :: u17 :: u18 :: u19 :: u20 :: u21 :: u22 :: u23 :: u24 :: u25 :: u26 :: u27 :: u28 :: u29 :: u30 :: u31 :: u32 :: u33 :: u34 :: u35 :: u36 :: u37 :: u38 :: u39 :: u40 :: u41 :: u42 :: u43 :: u44 :: u45 :: u46 :: u47 :: u48 :: u49 :: u50 :: u51 :: u52 :: u53 :: u54 :: u55 :: u56 :: u57 :: u58 :: u59 :: u60 :: u61 :: u62 :: u63 :: u64 :: u65 :: u66 :: u67 :: u68 :: u69 :: u70 :: u71 :: u72 :: u73 :: u74 :: u75 :: u76 :: u77 :: u78 :: u79 :: u80 :: u81 :: u82 :: u83 :: u84 :: u85 :: u86 :: u87 :: u88 :: u89 :: u90 :: u91 :: u92 :: u93 :: u94 :: u95 :: u96 :: u97 :: u98 :: u99 :: u100 :: u101 :: u102 :: u103 :: u104 :: u105 :: u106 :: u107 :: u108 :: u109 :: u110 :: u111 :: u112 :: u113 :: u114 :: u115 :: u116 :: u117 :: u118 :: u119 :: u120 :: u121 :: u122 :: u123 :: u124 :: u125 :: u126 :: u127 :: u128 :: u129 :: u130 :: u131 :: u132 :: u133 :: u134 :: u135 :: u136 :: u137 :: u138 :: u139 :: u140 :: u141 :: u142 :: u143 :: u144 :: u145 :: u146 :: u147 :: u148 :: u149 :: u150 :: u151 :: u152 :: []).toArray, []⟩ w := by
  have HEX := Lib.hid hexit
  have hd : Below w.heap.size w w.drew := (Below.refl _ _).drew
  have HK := Lib.hid (SK.below hd)
  have HL := Lib.hid (SL.below hd)
  have HH := Lib.hid (SH.below hd)
  skip
  clear hexit hd SK SL SH
  obtain ⟨wi, hwi⟩ : ∃ wi, wi = decide (inE lo hi key) := ⟨_, rfl⟩
  skip
  conv => arg 2; whnf
  refine wp_region_V (fun w' => w'.cell? ⟨q, 0, none⟩ = some (.slice kA kn kc) ∧ w'.cell? ⟨p8, 0, none⟩ = some (.slice aA an ac) ∧ w'.cell? ⟨p9, 0, none⟩ = some (.slice hA hn hc) ∧ True) (by kernel_rfl) ?_
  refine wpV_take (i := 0) (v := ?_) rfl (by kernel_rfl) (by kernel_rfl) (by kernel_rfl) (by first | exact fun _ _ _ h => h | exact fun c a w h => HQP.out c _ a w h) S0 (Or.inl ⟨by kernel_rfl, ?_⟩) ?_
  rotate_left
  · intro w hSw
    go_simp
    try with_reducible rfl
  try simp only [Act.put, List.setIfInBounds_toArray, List.set_cons_zero, List.set_cons_succ]
  refine wpV_take (i := 1) (v := ?_) rfl (by kernel_rfl) (by kernel_rfl) (by kernel_rfl) (by first | exact fun _ _ _ h => h | exact fun c a w h => HQP.out c _ a w h) S0 (Or.inl ⟨by kernel_rfl, ?_⟩) ?_
  rotate_left
  · intro w hSw
    go_simp
    try with_reducible rfl
  try simp only [Act.put, List.setIfInBounds_toArray, List.set_cons_zero, List.set_cons_succ]
  refine wpV_take (i := 2) (v := ?_) rfl (by kernel_rfl) (by kernel_rfl) (by kernel_rfl) (by first | exact fun _ _ _ h => h | exact fun c a w h => HQP.out c _ a w h) S0 (Or.inl ⟨by kernel_rfl, ?_⟩) ?_
  rotate_left
  · intro w hSw
    obtain ⟨s0, s1, s2, s3⟩ := hSw
    go_simp
    try with_reducible rfl
  try simp only [Act.put, List.setIfInBounds_toArray, List.set_cons_zero, List.set_cons_succ]
  refine wpV_one (i := 3) (by kernel_rfl) rfl (fun K hK => ?_)
  go_simp
  go_loud (refine (within_any kA aA hA kn kc an ac hn hc p8 p9 key lo hi _ HK.out HL.out HH.out S0.2.1 S0.2.2.1).mono ?_); rintro e w2 ⟨rfl, rfl⟩; rw [decide_eq_false hno]
  refine hK.out _ _ S0 ?_
  clear hK K
  try simp only [Act.put, List.setIfInBounds_toArray, List.set_cons_zero, List.set_cons_succ]
  refine wpV_take (i := 4) (v := ?_) rfl (by kernel_rfl) (by kernel_rfl) (by kernel_rfl) (by first | exact fun _ _ _ h => h | exact fun c a w h => HQP.out c _ a w h) S0 (Or.inl ⟨by kernel_rfl, ?_⟩) ?_
  rotate_left
  · intro w hSw
    go_simp
    try with_reducible rfl
  try simp only [Act.put, List.setIfInBounds_toArray, List.set_cons_zero, List.set_cons_succ]
  refine wpV_take (i := 5) (v := ?_) rfl (by kernel_rfl) (by kernel_rfl) (by kernel_rfl) (by first | exact fun _ _ _ h => h | exact fun c a w h => HQP.out c _ a w h) S0 (Or.inl ⟨by kernel_rfl, ?_⟩) ?_
  rotate_left
  · intro w hSw
    go_simp
    try with_reducible rfl
  try simp only [Act.put, List.setIfInBounds_toArray, List.set_cons_zero, List.set_cons_succ]
  refine wpV_take (i := 6) (v := undef) rfl (by kernel_rfl) (by kernel_rfl) (by kernel_rfl) (fun c a w h => HQP.out c _ a w h) S0 (Or.inr ⟨by kernel_rfl, rfl⟩) ?_
  try simp only [Act.put, List.setIfInBounds_toArray, List.set_cons_zero, List.set_cons_succ]
  refine wpV_take (i := 7) (v := undef) rfl (by kernel_rfl) (by kernel_rfl) (by kernel_rfl) (fun c a w h => HQP.out c _ a w h) S0 (Or.inr ⟨by kernel_rfl, rfl⟩) ?_
  try simp only [Act.put, List.setIfInBounds_toArray, List.set_cons_zero, List.set_cons_succ]
  refine wpV_take (i := 8) (v := undef) rfl (by kernel_rfl) (by kernel_rfl) (by kernel_rfl) (fun c a w h => HQP.out c _ a w h) S0 (Or.inr ⟨by kernel_rfl, rfl⟩) ?_
  try simp only [Act.put, List.setIfInBounds_toArray, List.set_cons_zero, List.set_cons_succ]
  refine wpV_take (i := 9) (v := undef) rfl (by kernel_rfl) (by kernel_rfl) (by kernel_rfl) (fun c a w h => HQP.out c _ a w h) S0 (Or.inr ⟨by kernel_rfl, rfl⟩) ?_
  try simp only [Act.put, List.setIfInBounds_toArray, List.set_cons_zero, List.set_cons_succ]
  refine wpV_take (i := 10) (v := undef) rfl (by kernel_rfl) (by kernel_rfl) (by kernel_rfl) (fun c a w h => HQP.out c _ a w h) S0 (Or.inr ⟨by kernel_rfl, rfl⟩) ?_
  try simp only [Act.put, List.setIfInBounds_toArray, List.set_cons_zero, List.set_cons_succ]
  refine wpV_take (i := 11) (v := undef) rfl (by kernel_rfl) (by kernel_rfl) (by kernel_rfl) (fun c a w h => HQP.out c _ a w h) S0 (Or.inr ⟨by kernel_rfl, rfl⟩) ?_
  try simp only [Act.put, List.setIfInBounds_toArray, List.set_cons_zero, List.set_cons_succ]
  refine wpV_take (i := 12) (v := undef) rfl (by kernel_rfl) (by kernel_rfl) (by kernel_rfl) (fun c a w h => HQP.out c _ a w h) S0 (Or.inr ⟨by kernel_rfl, rfl⟩) ?_
  try simp only [Act.put, List.setIfInBounds_toArray, List.set_cons_zero, List.set_cons_succ]
  refine wpV_take (i := 13) (v := undef) rfl (by kernel_rfl) (by kernel_rfl) (by kernel_rfl) (fun c a w h => HQP.out c _ a w h) S0 (Or.inr ⟨by kernel_rfl, rfl⟩) ?_
  try simp only [Act.put, List.setIfInBounds_toArray, List.set_cons_zero, List.set_cons_succ]
  refine wpV_take (i := 14) (v := undef) rfl (by kernel_rfl) (by kernel_rfl) (by kernel_rfl) (fun c a w h => HQP.out c _ a w h) S0 (Or.inr ⟨by kernel_rfl, rfl⟩) ?_
  try simp only [Act.put, List.setIfInBounds_toArray, List.set_cons_zero, List.set_cons_succ]
  refine wpV_take (i := 15) (v := undef) rfl (by kernel_rfl) (by kernel_rfl) (by kernel_rfl) (fun c a w h => HQP.out c _ a w h) S0 (Or.inr ⟨by kernel_rfl, rfl⟩) ?_
  try simp only [Act.put, List.setIfInBounds_toArray, List.set_cons_zero, List.set_cons_succ]
  refine wpV_take (i := 16) (v := undef) rfl (by kernel_rfl) (by kernel_rfl) (by kernel_rfl) (fun c a w h => HQP.out c _ a w h) S0 (Or.inr ⟨by kernel_rfl, rfl⟩) ?_
  try simp only [Act.put, List.setIfInBounds_toArray, List.set_cons_zero, List.set_cons_succ]
  refine wpV_take (i := 17) (v := undef) rfl (by kernel_rfl) (by kernel_rfl) (by kernel_rfl) (fun c a w h => HQP.out c _ a w h) S0 (Or.inr ⟨by kernel_rfl, rfl⟩) ?_
  try simp only [Act.put, List.setIfInBounds_toArray, List.set_cons_zero, List.set_cons_succ]
  refine wpV_take (i := 18) (v := undef) rfl (by kernel_rfl) (by kernel_rfl) (by kernel_rfl) (fun c a w h => HQP.out c _ a w h) S0 (Or.inr ⟨by kernel_rfl, rfl⟩) ?_
  try simp only [Act.put, List.setIfInBounds_toArray, List.set_cons_zero, List.set_cons_succ]
  refine wpV_take (i := 19) (v := undef) rfl (by kernel_rfl) (by kernel_rfl) (by kernel_rfl) (fun c a w h => HQP.out c _ a w h) S0 (Or.inr ⟨by kernel_rfl, rfl⟩) ?_
  try simp only [Act.put, List.setIfInBounds_toArray, List.set_cons_zero, List.set_cons_succ]
  refine wpV_take (i := 20) (v := ?_) rfl (by kernel_rfl) (by kernel_rfl) (by kernel_rfl) (by first | exact fun _ _ _ h => h | exact fun c a w h => HQP.out c _ a w h) S0 (Or.inl ⟨by kernel_rfl, ?_⟩) ?_
  rotate_left
  · intro w hSw
    go_simp
    try with_reducible rfl
  try simp only [Act.put, List.setIfInBounds_toArray, List.set_cons_zero, List.set_cons_succ]
  refine wpV_done (by kernel_rfl) ?_ _
  go_simp
  exact HEX.out _ _ _ _ _ _ _ _ _ _ _ _ _ _ _ _ _ _ _ _ _ _ rfl (Chg.refl _ _).drew
set_option maxRecDepth 100000 in
set_option maxHeartbeats 4000000 in
theorem s6_first (i q p8 p9 o : Nat) (lA kA pA aA hA : Option Addr) (ln lc kn kc pn pc an ac hn hc : Nat) (key prev lo hi : List UInt8) (w : World) {u0 u2 u3 u4 u5 u6 u7 u8 u9 u10 u11 u12 u14 u17 u18 u19 u20 u21 u22 u23 u24 u25 u26 u27 u28 u29 u30 u31 u32 u33 u34 u35 u36 u37 u38 u39 u40 u41 u42 u43 u44 u45 u46 u47 u48 u49 u50 u51 u52 u53 u54 u55 u56 u57 u58 u59 u60 u61 u62 u63 u64 u65 u66 u67 u68 u69 u70 u71 u72 u73 u74 u75 u76 u77 u78 u79 u80 u81 u82 u83 u84 u85 u86 u87 u88 u89 u90 u91 u92 u93 u94 u95 u96 u97 u98 u99 u100 u101 u102 u103 u104 u105 u106 u107 u108 u109 u110 u111 u112 u113 u114 u115 u116 u117 u118 u119 u120 u121 u122 u123 u124 u125 u126 u127 u128 u129 u130 u131 u132 u133 u134 u135 u136 u137 u138 u139 u140 u141 u142 u143 u144 u145 u146 u147 u148 u149 u150 u151 u152 : Value} (Q : Exit → Act → World → Prop) (HQP : Hid (∀ c t (a : Act) w, Q (.panic c) ⟨t, a.defers⟩ w → Q (.panic c) a w))
    (hi1 : i < ln) (hln : ln ≤ 1152921504606) (SK : SB w Any (.slice kA kn kc) key) (SL : SB w Any (.slice aA an ac) lo) (SH : SB w Any (.slice hA hn hc) hi) (hno : inE lo hi key) (h0 : i = 0)
    (S0 : w.drew.cell? ⟨q, 0, none⟩ = some (.slice kA kn kc) ∧ w.drew.cell? ⟨p8, 0, none⟩ = some (.slice aA an ac) ∧ w.drew.cell? ⟨p9, 0, none⟩ = some (.slice hA hn hc) ∧ True)
    (hexit : ∀ (v36 v37 v38 v39 v40 v41 v42 v43 v44 v45 v46 v47 v48 v49 v50 v51 v52 v53 v54 v55 : Value) (rb : Bool) (w' : World), (rb = false) → Chg Nil w w' → Q .normal ⟨(u0 :: .slice lA ln lc :: u2 :: u3 :: u4 :: u5 :: u6 :: u7 :: u8 :: u9 :: u10 :: u11 :: u12 :: .func (.func 33) #[] #[.pointer (some ⟨p8, 0, none⟩), .pointer (some ⟨p9, 0, none⟩)] :: u14 :: .int .i64 i :: .pointer (some ⟨q, 0, none⟩) :: u17 :: u18 :: u19 :: u20 :: u21 :: u22 :: u23 :: u24 :: u25 :: u26 :: u27 :: u28 :: u29 :: u30 :: u31 :: u32 :: u33 :: u34 :: u35 :: v36 :: v37 :: v38 :: v39 :: v40 :: v41 :: v42 :: v43 :: v44 :: v45 :: v46 :: v47 :: v48 :: v49 :: v50 :: v51 :: v52 :: v53 :: v54 :: v55 :: .bool rb :: u57 :: u58 :: u59 :: u60 :: u61 :: u62 :: u63 :: u64 :: u65 :: u66 :: u67 :: u68 :: u69 :: u70 :: u71 :: u72 :: u73 :: u74 :: u75 :: u76 :: u77 :: u78 :: u79 :: u80 :: u81 :: u82 :: u83 :: u84 :: u85 :: u86 :: u87 :: u88 :: u89 :: u90 :: u91 :: u92 :: u93 :: u94 :: u95 :: u96 :: u97 :: u98 :: u99 :: u100 :: u101 :: u102 :: u103 :: u104 :: u105 :: u106 :: u107 :: u108 :: u109 :: u110 :: u111 :: u112 :: u113 :: u114 :: u115 :: u116 :: u117 :: u118 :: u119 :: u120 :: u121 :: u122 :: u123 :: u124 :: u125 :: u126 :: u127 :: u128 :: u129 :: u130 :: u131 :: u132 :: u133 :: u134 :: u135 :: u136 :: u137 :: u138 :: u139 :: u140 :: u141 :: u142 :: u143 :: u144 :: u145 :: u146 :: u147 :: u148 :: u149 :: u150 :: u151 :: u152 :: []).toArray, []⟩ w') :
    Code.wp Try.prog s6C Q ⟨(u0 :: .slice lA ln lc :: u2 :: u3 :: u4 :: u5 :: u6 :: u7 :: u8 :: u9 :: u10 :: u11 :: u12 :: .func (.func 33) #[] #[.pointer (some ⟨p8, 0, none⟩), .pointer (some ⟨p9, 0, none⟩)] :: u14 :: .int .i64 i :: .pointer (some ⟨q, 0, none⟩) :: u17 :: u18 :: u19 :: u20 :: u21 :: u22 :: u23 :: u24 :: u25 :: u26 :: u27 :: u28 :: u29 :: u30 :: u31 :: u32 :: u33 :: u34 :: u35 :: u36 :: u37 :: u38 :: u39 :: u40 :: u41 :: u42 :: u43 :: u44 :: u45 :: u46 :: u47 :: u48 :: u49 :: u50 :: u51 :: u52 :: u53 :: u54 :: u55 :: u56 :: u57 :: u58 :: u59 :: u60 :: u61 :: u62 :: u63 :: u64 :: u65 :: u66 :: u67 :: u68 :: u69 :: u70 :: u71 :: u72 :: u73 :: u74 :: u75 :: u76 :: u77 :: u78 :: u79 :: u80 :: u81 :: u82 :: u83 :: u84 :: u85 :: u86 :: u87 :: u88 :: u89 :: u90 :: u91 :: u92 :: u93 :: u94 :: u95 :: u96 :: u97 :: u98 :: u99 :: u100 :: u101 :: u102 :: u103 :: u104 :: u105 :: u106 :: u107 :: u108 :: u109 :: u110 :: u111 :: u112 :: u113 :: u114 :: u115 :: u116 :: u117 :: u118 :: u119 :: u120 :: u121 :: u122 :: u123 :: u124 :: u125 :: u126 :: u127 :: u128 :: u129 :: u130 :: u131 :: u132 :: u133 :: u134 :: u135 :: u136 :: u137 :: u138 :: u139 :: u140 :: u141 :: u142 :: u143 :: u144 :: u145 :: u146 :: u147 :: u148 :: u149 :: u150 :: u151 :: u152 :: []).toArray, []⟩ w := by
  have HEX := Lib.hid hexit
  have hd : Below w.heap.size w w.drew := (Below.refl _ _).drew
  have HK := Lib.hid (SK.below hd)
  have HL := Lib.hid (SL.below hd)
  have HH := Lib.hid (SH.below hd)
  subst h0
  clear hexit hd SK SL SH
  obtain ⟨wi, hwi⟩ : ∃ wi, wi = decide (inE lo hi key) := ⟨_, rfl⟩
  skip
  conv => arg 2; whnf
  refine wp_region_V (fun w' => w'.cell? ⟨q, 0, none⟩ = some (.slice kA kn kc) ∧ w'.cell? ⟨p8, 0, none⟩ = some (.slice aA an ac) ∧ w'.cell? ⟨p9, 0, none⟩ = some (.slice hA hn hc) ∧ True) (by kernel_rfl) ?_
  refine wpV_take (i := 0) (v := ?_) rfl (by kernel_rfl) (by kernel_rfl) (by kernel_rfl) (by first | exact fun _ _ _ h => h | exact fun c a w h => HQP.out c _ a w h) S0 (Or.inl ⟨by kernel_rfl, ?_⟩) ?_
  rotate_left
  · intro w hSw
    go_simp
    try with_reducible rfl
  try simp only [Act.put, List.setIfInBounds_toArray, List.set_cons_zero, List.set_cons_succ]
  refine wpV_take (i := 1) (v := ?_) rfl (by kernel_rfl) (by kernel_rfl) (by kernel_rfl) (by first | exact fun _ _ _ h => h | exact fun c a w h => HQP.out c _ a w h) S0 (Or.inl ⟨by kernel_rfl, ?_⟩) ?_
  rotate_left
  · intro w hSw
    go_simp
    try with_reducible rfl
  try simp only [Act.put, List.setIfInBounds_toArray, List.set_cons_zero, List.set_cons_succ]
  refine wpV_take (i := 2) (v := ?_) rfl (by kernel_rfl) (by kernel_rfl) (by kernel_rfl) (by first | exact fun _ _ _ h => h | exact fun c a w h => HQP.out c _ a w h) S0 (Or.inl ⟨by kernel_rfl, ?_⟩) ?_
  rotate_left
  · intro w hSw
    obtain ⟨s0, s1, s2, s3⟩ := hSw
    go_simp
    try with_reducible rfl
  try simp only [Act.put, List.setIfInBounds_toArray, List.set_cons_zero, List.set_cons_succ]
  refine wpV_one (i := 3) (by kernel_rfl) rfl (fun K hK => ?_)
  go_simp
  go_loud (refine (within_any kA aA hA kn kc an ac hn hc p8 p9 key lo hi _ HK.out HL.out HH.out S0.2.1 S0.2.2.1).mono ?_); rintro e w2 ⟨rfl, rfl⟩; rw [decide_eq_true hno]
  refine hK.out _ _ S0 ?_
  clear hK K
  try simp only [Act.put, List.setIfInBounds_toArray, List.set_cons_zero, List.set_cons_succ]
  refine wpV_take (i := 4) (v := ?_) rfl (by kernel_rfl) (by kernel_rfl) (by kernel_rfl) (by first | exact fun _ _ _ h => h | exact fun c a w h => HQP.out c _ a w h) S0 (Or.inl ⟨by kernel_rfl, ?_⟩) ?_
  rotate_left
  · intro w hSw
    go_simp
    try with_reducible rfl
  try simp only [Act.put, List.setIfInBounds_toArray, List.set_cons_zero, List.set_cons_succ]
  refine wpV_take (i := 5) (v := ?_) rfl (by kernel_rfl) (by kernel_rfl) (by kernel_rfl) (by first | exact fun _ _ _ h => h | exact fun c a w h => HQP.out c _ a w h) S0 (Or.inl ⟨by kernel_rfl, ?_⟩) ?_
  rotate_left
  · intro w hSw
    go_simp
    try with_reducible rfl
  try simp only [Act.put, List.setIfInBounds_toArray, List.set_cons_zero, List.set_cons_succ]
  refine wpV_take (i := 6) (v := ?_) rfl (by kernel_rfl) (by kernel_rfl) (by kernel_rfl) (by first | exact fun _ _ _ h => h | exact fun c a w h => HQP.out c _ a w h) S0 (Or.inl ⟨by kernel_rfl, ?_⟩) ?_
  rotate_left
  · intro w hSw
    go_simp
    try with_reducible rfl
  try simp only [Act.put, List.setIfInBounds_toArray, List.set_cons_zero, List.set_cons_succ]
  refine wpV_take (i := 7) (v := ?_) rfl (by kernel_rfl) (by kernel_rfl) (by kernel_rfl) (by first | exact fun _ _ _ h => h | exact fun c a w h => HQP.out c _ a w h) S0 (Or.inl ⟨by kernel_rfl, ?_⟩) ?_
  rotate_left
  · intro w hSw
    go_simp
    try with_reducible rfl
  try simp only [Act.put, List.setIfInBounds_toArray, List.set_cons_zero, List.set_cons_succ]
  refine wpV_take (i := 8) (v := ?_) rfl (by kernel_rfl) (by kernel_rfl) (by kernel_rfl) (by first | exact fun _ _ _ h => h | exact fun c a w h => HQP.out c _ a w h) S0 (Or.inl ⟨by kernel_rfl, ?_⟩) ?_
  rotate_left
  · intro w hSw
    go_simp
    try with_reducible rfl
  try simp only [Act.put, List.setIfInBounds_toArray, List.set_cons_zero, List.set_cons_succ]
  refine wpV_take (i := 9) (v := undef) rfl (by kernel_rfl) (by kernel_rfl) (by kernel_rfl) (fun c a w h => HQP.out c _ a w h) S0 (Or.inr ⟨by kernel_rfl, rfl⟩) ?_
  try simp only [Act.put, List.setIfInBounds_toArray, List.set_cons_zero, List.set_cons_succ]
  refine wpV_take (i := 10) (v := undef) rfl (by kernel_rfl) (by kernel_rfl) (by kernel_rfl) (fun c a w h => HQP.out c _ a w h) S0 (Or.inr ⟨by kernel_rfl, rfl⟩) ?_
  try simp only [Act.put, List.setIfInBounds_toArray, List.set_cons_zero, List.set_cons_succ]
  refine wpV_take (i := 11) (v := undef) rfl (by kernel_rfl) (by kernel_rfl) (by kernel_rfl) (fun c a w h => HQP.out c _ a w h) S0 (Or.inr ⟨by kernel_rfl, rfl⟩) ?_
  try simp only [Act.put, List.setIfInBounds_toArray, List.set_cons_zero, List.set_cons_succ]
  refine wpV_take (i := 12) (v := undef) rfl (by kernel_rfl) (by kernel_rfl) (by kernel_rfl) (fun c a w h => HQP.out c _ a w h) S0 (Or.inr ⟨by kernel_rfl, rfl⟩) ?_
  try simp only [Act.put, List.setIfInBounds_toArray, List.set_cons_zero, List.set_cons_succ]
  refine wpV_take (i := 13) (v := undef) rfl (by kernel_rfl) (by kernel_rfl) (by kernel_rfl) (fun c a w h => HQP.out c _ a w h) S0 (Or.inr ⟨by kernel_rfl, rfl⟩) ?_
  try simp only [Act.put, List.setIfInBounds_toArray, List.set_cons_zero, List.set_cons_succ]
  refine wpV_take (i := 14) (v := undef) rfl (by kernel_rfl) (by kernel_rfl) (by kernel_rfl) (fun c a w h => HQP.out c _ a w h) S0 (Or.inr ⟨by kernel_rfl, rfl⟩) ?_
  try simp only [Act.put, List.setIfInBounds_toArray, List.set_cons_zero, List.set_cons_succ]
  refine wpV_take (i := 15) (v := undef) rfl (by kernel_rfl) (by kernel_rfl) (by kernel_rfl) (fun c a w h => HQP.out c _ a w h) S0 (Or.inr ⟨by kernel_rfl, rfl⟩) ?_
  try simp only [Act.put, List.setIfInBounds_toArray, List.set_cons_zero, List.set_cons_succ]
  refine wpV_take (i := 16) (v := undef) rfl (by kernel_rfl) (by kernel_rfl) (by kernel_rfl) (fun c a w h => HQP.out c _ a w h) S0 (Or.inr ⟨by kernel_rfl, rfl⟩) ?_
  try simp only [Act.put, List.setIfInBounds_toArray, List.set_cons_zero, List.set_cons_succ]
  refine wpV_take (i := 17) (v := undef) rfl (by kernel_rfl) (by kernel_rfl) (by kernel_rfl) (fun c a w h => HQP.out c _ a w h) S0 (Or.inr ⟨by kernel_rfl, rfl⟩) ?_
  try simp only [Act.put, List.setIfInBounds_toArray, List.set_cons_zero, List.set_cons_succ]
  refine wpV_take (i := 18) (v := undef) rfl (by kernel_rfl) (by kernel_rfl) (by kernel_rfl) (fun c a w h => HQP.out c _ a w h) S0 (Or.inr ⟨by kernel_rfl, rfl⟩) ?_
  try simp only [Act.put, List.setIfInBounds_toArray, List.set_cons_zero, List.set_cons_succ]
  refine wpV_take (i := 19) (v := ?_) rfl (by kernel_rfl) (by kernel_rfl) (by kernel_rfl) (by first | exact fun _ _ _ h => h | exact fun c a w h => HQP.out c _ a w h) S0 (Or.inl ⟨by kernel_rfl, ?_⟩) ?_
  rotate_left
  · intro w hSw
    go_simp
    try with_reducible rfl
  try simp only [Act.put, List.setIfInBounds_toArray, List.set_cons_zero, List.set_cons_succ]
  refine wpV_take (i := 20) (v := ?_) rfl (by kernel_rfl) (by kernel_rfl) (by kernel_rfl) (by first | exact fun _ _ _ h => h | exact fun c a w h => HQP.out c _ a w h) S0 (Or.inl ⟨by kernel_rfl, ?_⟩) ?_
  rotate_left
  · intro w hSw
    go_simp
    try with_reducible rfl
  try simp only [Act.put, List.setIfInBounds_toArray, List.set_cons_zero, List.set_cons_succ]
  refine wpV_done (by kernel_rfl) ?_ _
  go_simp
  exact HEX.out _ _ _ _ _ _ _ _ _ _ _ _ _ _ _ _ _ _ _ _ _ _ rfl (Chg.refl _ _).drew
set_option maxRecDepth 100000 in
set_option maxHeartbeats 4000000 in
theorem s6_next (i q p8 p9 o : Nat) (lA kA pA aA hA : Option Addr) (ln lc kn kc pn pc an ac hn hc : Nat) (key prev lo hi : List UInt8) (w : World) {u0 u2 u3 u4 u5 u6 u7 u8 u9 u10 u11 u12 u14 u17 u18 u19 u20 u21 u22 u23 u24 u25 u26 u27 u28 u29 u30 u31 u32 u33 u34 u35 u36 u37 u38 u39 u40 u41 u42 u43 u44 u45 u46 u47 u48 u49 u50 u51 u52 u53 u54 u55 u56 u57 u58 u59 u60 u61 u62 u63 u64 u65 u66 u67 u68 u69 u70 u71 u72 u73 u74 u75 u76 u77 u78 u79 u80 u81 u82 u83 u84 u85 u86 u87 u88 u89 u90 u91 u92 u93 u94 u95 u96 u97 u98 u99 u100 u101 u102 u103 u104 u105 u106 u107 u108 u109 u110 u111 u112 u113 u114 u115 u116 u117 u118 u119 u120 u121 u122 u123 u124 u125 u126 u127 u128 u129 u130 u131 u132 u133 u134 u135 u136 u137 u138 u139 u140 u141 u142 u143 u144 u145 u146 u147 u148 u149 u150 u151 u152 : Value} (Q : Exit → Act → World → Prop) (HQP : Hid (∀ c t (a : Act) w, Q (.panic c) ⟨t, a.defers⟩ w → Q (.panic c) a w))
    (hi1 : i < ln) (hln : ln ≤ 1152921504606) (SK : SB w Any (.slice kA kn kc) key) (SL : SB w Any (.slice aA an ac) lo) (SH : SB w Any (.slice hA hn hc) hi) (b j : Nat) (hb : lA = some ⟨b, o, none⟩) (hno : inE lo hi key) (h0 : i = j + 1) (SP : SB w Any (.slice pA pn pc) prev)
    (S0 : w.drew.cell? ⟨q, 0, none⟩ = some (.slice kA kn kc) ∧ w.drew.cell? ⟨p8, 0, none⟩ = some (.slice aA an ac) ∧ w.drew.cell? ⟨p9, 0, none⟩ = some (.slice hA hn hc) ∧ w.drew.cell? ⟨b, o + j * 2, none⟩ = some (.slice pA pn pc))
    (hexit : ∀ (v36 v37 v38 v39 v40 v41 v42 v43 v44 v45 v46 v47 v48 v49 v50 v51 v52 v53 v54 v55 : Value) (rb : Bool) (w' : World), (rb = decide (0 ≤ compareBytes prev key)) → Chg Nil w w' → Q .normal ⟨(u0 :: .slice lA ln lc :: u2 :: u3 :: u4 :: u5 :: u6 :: u7 :: u8 :: u9 :: u10 :: u11 :: u12 :: .func (.func 33) #[] #[.pointer (some ⟨p8, 0, none⟩), .pointer (some ⟨p9, 0, none⟩)] :: u14 :: .int .i64 i :: .pointer (some ⟨q, 0, none⟩) :: u17 :: u18 :: u19 :: u20 :: u21 :: u22 :: u23 :: u24 :: u25 :: u26 :: u27 :: u28 :: u29 :: u30 :: u31 :: u32 :: u33 :: u34 :: u35 :: v36 :: v37 :: v38 :: v39 :: v40 :: v41 :: v42 :: v43 :: v44 :: v45 :: v46 :: v47 :: v48 :: v49 :: v50 :: v51 :: v52 :: v53 :: v54 :: v55 :: .bool rb :: u57 :: u58 :: u59 :: u60 :: u61 :: u62 :: u63 :: u64 :: u65 :: u66 :: u67 :: u68 :: u69 :: u70 :: u71 :: u72 :: u73 :: u74 :: u75 :: u76 :: u77 :: u78 :: u79 :: u80 :: u81 :: u82 :: u83 :: u84 :: u85 :: u86 :: u87 :: u88 :: u89 :: u90 :: u91 :: u92 :: u93 :: u94 :: u95 :: u96 :: u97 :: u98 :: u99 :: u100 :: u101 :: u102 :: u103 :: u104 :: u105 :: u106 :: u107 :: u108 :: u109 :: u110 :: u111 :: u112 :: u113 :: u114 :: u115 :: u116 :: u117 :: u118 :: u119 :: u120 :: u121 :: u122 :: u123 :: u124 :: u125 :: u126 :: u127 :: u128 :: u129 :: u130 :: u131 :: u132 :: u133 :: u134 :: u135 :: u136 :: u137 :: u138 :: u139 :: u140 :: u141 :: u142 :: u143 :: u144 :: u145 :: u146 :: u147 :: u148 :: u149 :: u150 :: u151 :: u152 :: []).toArray, []⟩ w') :
    Code.wp Try.prog s6C Q ⟨(u0 :: .slice lA ln lc :: u2 :: u3 :: u4 :: u5 :: u6 :: u7 :: u8 :: u9 :: u10 :: u11 :: u12 :: .func (.func 33) #[] #[.pointer (some ⟨p8, 0, none⟩), .pointer (some ⟨p9, 0, none⟩)] :: u14 :: .int .i64 i :: .pointer (some ⟨q, 0, none⟩) :: u17 :: u18 :: u19 :: u20 :: u21 :: u22 :: u23 :: u24 :: u25 :: u26 :: u27 :: u28 :: u29 :: u30 :: u31 :: u32 :: u33 :: u34 :: u35 :: u36 :: u37 :: u38 :: u39 :: u40 :: u41 :: u42 :: u43 :: u44 :: u45 :: u46 :: u47 :: u48 :: u49 :: u50 :: u51 :: u52 :: u53 :: u54 :: u55 :: u56 :: u57 :: u58 :: u59 :: u60 :: u61 :: u62 :: u63 :: u64 :: u65 :: u66 :: u67 :: u68 :: u69 :: u70 :: u71 :: u72 :: u73 :: u74 :: u75 :: u76 :: u77 :: u78 :: u79 :: u80 :: u81 :: u82 :: u83 :: u84 :: u85 :: u86 :: u87 :: u88 :: u89 :: u90 :: u91 :: u92 :: u93 :: u94 :: u95 :: u96 :: u97 :: u98 :: u99 :: u100 :: u101 :: u102 :: u103 :: u104 :: u105 :: u106 :: u107 :: u108 :: u109 :: u110 :: u111 :: u112 :: u113 :: u114 :: u115 :: u116 :: u117 :: u118 :: u119 :: u120 :: u121 :: u122 :: u123 :: u124 :: u125 :: u126 :: u127 :: u128 :: u129 :: u130 :: u131 :: u132 :: u133 :: u134 :: u135 :: u136 :: u137 :: u138 :: u139 :: u140 :: u141 :: u142 :: u143 :: u144 :: u145 :: u146 :: u147 :: u148 :: u149 :: u150 :: u151 :: u152 :: []).toArray, []⟩ w := by
  have HEX := Lib.hid hexit
  have hd : Below w.heap.size w w.drew := (Below.refl _ _).drew
  have HK := Lib.hid (SK.below hd)
  have HL := Lib.hid (SL.below hd)
  have HH := Lib.hid (SH.below hd)
  (subst hb; have HP := Lib.hid (SP.below hd).parts; have hwr : IntKind.i64.wrap ((i : Int) - 1) = ((j : Nat) : Int) := ((IntWalk.i64_in _ (by omega)).trans (by omega)); have hj : j < ln := (by omega); have hpos : (0 : Int) < (i : Int) := (by omega); have hpos2 : 0 < i := (by omega); clear h0)
  clear hexit hd SK SL SH
  obtain ⟨wi, hwi⟩ : ∃ wi, wi = decide (inE lo hi key) := ⟨_, rfl⟩
  have HKP := Lib.hid HK.out.parts
  conv => arg 2; whnf
  refine wp_region_V (fun w' => w'.cell? ⟨q, 0, none⟩ = some (.slice kA kn kc) ∧ w'.cell? ⟨p8, 0, none⟩ = some (.slice aA an ac) ∧ w'.cell? ⟨p9, 0, none⟩ = some (.slice hA hn hc) ∧ w'.cell? ⟨b, o + j * 2, none⟩ = some (.slice pA pn pc)) (by kernel_rfl) ?_
  refine wpV_take (i := 0) (v := ?_) rfl (by kernel_rfl) (by kernel_rfl) (by kernel_rfl) (by first | exact fun _ _ _ h => h | exact fun c a w h => HQP.out c _ a w h) S0 (Or.inl ⟨by kernel_rfl, ?_⟩) ?_
  rotate_left
  · intro w hSw
    go_simp
    try with_reducible rfl
  try simp only [Act.put, List.setIfInBounds_toArray, List.set_cons_zero, List.set_cons_succ]
  refine wpV_take (i := 1) (v := ?_) rfl (by kernel_rfl) (by kernel_rfl) (by kernel_rfl) (by first | exact fun _ _ _ h => h | exact fun c a w h => HQP.out c _ a w h) S0 (Or.inl ⟨by kernel_rfl, ?_⟩) ?_
  rotate_left
  · intro w hSw
    go_simp
    try with_reducible rfl
  try simp only [Act.put, List.setIfInBounds_toArray, List.set_cons_zero, List.set_cons_succ]
  refine wpV_take (i := 2) (v := ?_) rfl (by kernel_rfl) (by kernel_rfl) (by kernel_rfl) (by first | exact fun _ _ _ h => h | exact fun c a w h => HQP.out c _ a w h) S0 (Or.inl ⟨by kernel_rfl, ?_⟩) ?_
  rotate_left
  · intro w hSw
    obtain ⟨s0, s1, s2, s3⟩ := hSw
    go_simp
    try with_reducible rfl
  try simp only [Act.put, List.setIfInBounds_toArray, List.set_cons_zero, List.set_cons_succ]
  refine wpV_one (i := 3) (by kernel_rfl) rfl (fun K hK => ?_)
  go_simp
  go_loud (refine (within_any kA aA hA kn kc an ac hn hc p8 p9 key lo hi _ HK.out HL.out HH.out S0.2.1 S0.2.2.1).mono ?_); rintro e w2 ⟨rfl, rfl⟩; rw [decide_eq_true hno]
  refine hK.out _ _ S0 ?_
  clear hK K
  try simp only [Act.put, List.setIfInBounds_toArray, List.set_cons_zero, List.set_cons_succ]
  refine wpV_take (i := 4) (v := ?_) rfl (by kernel_rfl) (by kernel_rfl) (by kernel_rfl) (by first | exact fun _ _ _ h => h | exact fun c a w h => HQP.out c _ a w h) S0 (Or.inl ⟨by kernel_rfl, ?_⟩) ?_
  rotate_left
  · intro w hSw
    go_simp
    try with_reducible rfl
  try simp only [Act.put, List.setIfInBounds_toArray, List.set_cons_zero, List.set_cons_succ]
  refine wpV_take (i := 5) (v := ?_) rfl (by kernel_rfl) (by kernel_rfl) (by kernel_rfl) (by first | exact fun _ _ _ h => h | exact fun c a w h => HQP.out c _ a w h) S0 (Or.inl ⟨by kernel_rfl, ?_⟩) ?_
  rotate_left
  · intro w hSw
    go_simp
    try with_reducible rfl
  try simp only [Act.put, List.setIfInBounds_toArray, List.set_cons_zero, List.set_cons_succ]
  refine wpV_take (i := 6) (v := ?_) rfl (by kernel_rfl) (by kernel_rfl) (by kernel_rfl) (by first | exact fun _ _ _ h => h | exact fun c a w h => HQP.out c _ a w h) S0 (Or.inl ⟨by kernel_rfl, ?_⟩) ?_
  rotate_left
  · intro w hSw
    go_simp
    try with_reducible rfl
  try simp only [Act.put, List.setIfInBounds_toArray, List.set_cons_zero, List.set_cons_succ]
  refine wpV_take (i := 7) (v := ?_) rfl (by kernel_rfl) (by kernel_rfl) (by kernel_rfl) (by first | exact fun _ _ _ h => h | exact fun c a w h => HQP.out c _ a w h) S0 (Or.inl ⟨by kernel_rfl, ?_⟩) ?_
  rotate_left
  · intro w hSw
    go_simp
    try with_reducible rfl
  try simp only [Act.put, List.setIfInBounds_toArray, List.set_cons_zero, List.set_cons_succ]
  refine wpV_take (i := 8) (v := ?_) rfl (by kernel_rfl) (by kernel_rfl) (by kernel_rfl) (by first | exact fun _ _ _ h => h | exact fun c a w h => HQP.out c _ a w h) S0 (Or.inl ⟨by kernel_rfl, ?_⟩) ?_
  rotate_left
  · intro w hSw
    go_simp
    try with_reducible rfl
  try simp only [Act.put, List.setIfInBounds_toArray, List.set_cons_zero, List.set_cons_succ]
  refine wpV_take (i := 9) (v := ?_) rfl (by kernel_rfl) (by kernel_rfl) (by kernel_rfl) (by first | exact fun _ _ _ h => h | exact fun c a w h => HQP.out c _ a w h) S0 (Or.inl ⟨by kernel_rfl, ?_⟩) ?_
  rotate_left
  · intro w hSw
    go_simp
    try with_reducible rfl
  try simp only [Act.put, List.setIfInBounds_toArray, List.set_cons_zero, List.set_cons_succ]
  refine wpV_take (i := 10) (v := ?_) rfl (by kernel_rfl) (by kernel_rfl) (by kernel_rfl) (by first | exact fun _ _ _ h => h | exact fun c a w h => HQP.out c _ a w h) S0 (Or.inl ⟨by kernel_rfl, ?_⟩) ?_
  rotate_left
  · intro w hSw
    go_simp
    try with_reducible rfl
  try simp only [Act.put, List.setIfInBounds_toArray, List.set_cons_zero, List.set_cons_succ]
  refine wpV_take (i := 11) (v := ?_) rfl (by kernel_rfl) (by kernel_rfl) (by kernel_rfl) (by first | exact fun _ _ _ h => h | exact fun c a w h => HQP.out c _ a w h) S0 (Or.inl ⟨by kernel_rfl, ?_⟩) ?_
  rotate_left
  · intro w hSw
    go_simp
    try with_reducible rfl
  try simp only [Act.put, List.setIfInBounds_toArray, List.set_cons_zero, List.set_cons_succ]
  refine wpV_take (i := 12) (v := ?_) rfl (by kernel_rfl) (by kernel_rfl) (by kernel_rfl) (by first | exact fun _ _ _ h => h | exact fun c a w h => HQP.out c _ a w h) S0 (Or.inl ⟨by kernel_rfl, ?_⟩) ?_
  rotate_left
  · intro w hSw
    go_simp
    try with_reducible rfl
  try simp only [Act.put, List.setIfInBounds_toArray, List.set_cons_zero, List.set_cons_succ]
  refine wpV_take (i := 13) (v := ?_) rfl (by kernel_rfl) (by kernel_rfl) (by kernel_rfl) (by first | exact fun _ _ _ h => h | exact fun c a w h => HQP.out c _ a w h) S0 (Or.inl ⟨by kernel_rfl, ?_⟩) ?_
  rotate_left
  · intro w hSw
    go_simp
    try with_reducible rfl
  try simp only [Act.put, List.setIfInBounds_toArray, List.set_cons_zero, List.set_cons_succ]
  refine wpV_take (i := 15) (v := ?_) rfl (by kernel_rfl) (by kernel_rfl) (by kernel_rfl) (by first | exact fun _ _ _ h => h | exact fun c a w h => HQP.out c _ a w h) S0 (Or.inl ⟨by kernel_rfl, ?_⟩) ?_
  rotate_left
  · intro w hSw
    go_simp
    try with_reducible rfl
  try simp only [Act.put, List.setIfInBounds_toArray, List.set_cons_zero, List.set_cons_succ]
  refine wpV_take (i := 14) (v := ?_) rfl (by kernel_rfl) (by kernel_rfl) (by kernel_rfl) (by first | exact fun _ _ _ h => h | exact fun c a w h => HQP.out c _ a w h) S0 (Or.inl ⟨by kernel_rfl, ?_⟩) ?_
  rotate_left
  · intro w hSw
    obtain ⟨s0, s1, s2, s3⟩ := hSw
    go_simp
    try with_reducible rfl
  try simp only [Act.put, List.setIfInBounds_toArray, List.set_cons_zero, List.set_cons_succ]
  refine wpV_take (i := 16) (v := ?_) rfl (by kernel_rfl) (by kernel_rfl) (by kernel_rfl) (by first | exact fun _ _ _ h => h | exact fun c a w h => HQP.out c _ a w h) S0 (Or.inl ⟨by kernel_rfl, ?_⟩) ?_
  rotate_left
  · intro w hSw
    obtain ⟨s0, s1, s2, s3⟩ := hSw
    go_simp
    try with_reducible rfl
  try simp only [Act.put, List.setIfInBounds_toArray, List.set_cons_zero, List.set_cons_succ]
  refine wpV_one (i := 17) (by kernel_rfl) rfl (fun K hK => ?_)
  go_simp
  go_loud (refine (compare_any pA kA pn kn pc kc Any Any prev key _ HP.out.2.2.2 HP.out.2.2.1 HKP.out.2.2.2 HKP.out.2.2.1).mono ?_); rintro e w2 ⟨rfl, rfl⟩
  refine hK.out _ _ S0 ?_
  clear hK K
  try simp only [Act.put, List.setIfInBounds_toArray, List.set_cons_zero, List.set_cons_succ]
  refine wpV_take (i := 18) (v := ?_) rfl (by kernel_rfl) (by kernel_rfl) (by kernel_rfl) (by first | exact fun _ _ _ h => h | exact fun c a w h => HQP.out c _ a w h) S0 (Or.inl ⟨by kernel_rfl, ?_⟩) ?_
  rotate_left
  · intro w hSw
    go_simp
    try with_reducible rfl
  try simp only [Act.put, List.setIfInBounds_toArray, List.set_cons_zero, List.set_cons_succ]
  refine wpV_take (i := 19) (v := ?_) rfl (by kernel_rfl) (by kernel_rfl) (by kernel_rfl) (by first | exact fun _ _ _ h => h | exact fun c a w h => HQP.out c _ a w h) S0 (Or.inl ⟨by kernel_rfl, ?_⟩) ?_
  rotate_left
  · intro w hSw
    go_simp
    try with_reducible rfl
  try simp only [Act.put, List.setIfInBounds_toArray, List.set_cons_zero, List.set_cons_succ]
  refine wpV_take (i := 20) (v := ?_) rfl (by kernel_rfl) (by kernel_rfl) (by kernel_rfl) (by first | exact fun _ _ _ h => h | exact fun c a w h => HQP.out c _ a w h) S0 (Or.inl ⟨by kernel_rfl, ?_⟩) ?_
  rotate_left
  · intro w hSw
    go_simp
    try with_reducible rfl
  try simp only [Act.put, List.setIfInBounds_toArray, List.set_cons_zero, List.set_cons_succ]
  refine wpV_done (by kernel_rfl) ?_ _
  go_simp
  exact HEX.out _ _ _ _ _ _ _ _ _ _ _ _ _ _ _ _ _ _ _ _ _ _ rfl (Chg.refl _ _).drew
theorem s6_any (i q p8 p9 : Nat) (lA kA aA hA : Option Addr) (ln lc kn kc an ac hn hc : Nat) (l : List Ent) (e : Ent) (lo hi : List UInt8) (w : World) {u0 u2 u3 u4 u5 u6 u7 u8 u9 u10 u11 u12 u14 u17 u18 u19 u20 u21 u22 u23 u24 u25 u26 u27 u28 u29 u30 u31 u32 u33 u34 u35 u36 u37 u38 u39 u40 u41 u42 u43 u44 u45 u46 u47 u48 u49 u50 u51 u52 u53 u54 u55 u56 u57 u58 u59 u60 u61 u62 u63 u64 u65 u66 u67 u68 u69 u70 u71 u72 u73 u74 u75 u76 u77 u78 u79 u80 u81 u82 u83 u84 u85 u86 u87 u88 u89 u90 u91 u92 u93 u94 u95 u96 u97 u98 u99 u100 u101 u102 u103 u104 u105 u106 u107 u108 u109 u110 u111 u112 u113 u114 u115 u116 u117 u118 u119 u120 u121 u122 u123 u124 u125 u126 u127 u128 u129 u130 u131 u132 u133 u134 u135 u136 u137 u138 u139 u140 u141 u142 u143 u144 u145 u146 u147 u148 u149 u150 u151 u152 : Value} (Q : Exit → Act → World → Prop) (HQP : Hid (∀ c t (a : Act) w, Q (.panic c) ⟨t, a.defers⟩ w → Q (.panic c) a w))
    (hi1 : i < ln) (hln : ln ≤ 1152921504606) (HE : Hid (Ents w Any lA ln l)) (he : l[i]? = some e) (SK : SB w Any (.slice kA kn kc) e.1) (SL : SB w Any (.slice aA an ac) lo) (SH : SB w Any (.slice hA hn hc) hi)
    (c0 : w.cell? ⟨q, 0, none⟩ = some (.slice kA kn kc)) (c8 : w.cell? ⟨p8, 0, none⟩ = some (.slice aA an ac)) (c9 : w.cell? ⟨p9, 0, none⟩ = some (.slice hA hn hc))
    (hexit : ∀ (v36 v37 v38 v39 v40 v41 v42 v43 v44 v45 v46 v47 v48 v49 v50 v51 v52 v53 v54 v55 : Value) (rb : Bool) (w' : World), (rb = true ↔ ¬ okE lo hi l i) → Chg Nil w w' → Q .normal ⟨(u0 :: .slice lA ln lc :: u2 :: u3 :: u4 :: u5 :: u6 :: u7 :: u8 :: u9 :: u10 :: u11 :: u12 :: .func (.func 33) #[] #[.pointer (some ⟨p8, 0, none⟩), .pointer (some ⟨p9, 0, none⟩)] :: u14 :: .int .i64 i :: .pointer (some ⟨q, 0, none⟩) :: u17 :: u18 :: u19 :: u20 :: u21 :: u22 :: u23 :: u24 :: u25 :: u26 :: u27 :: u28 :: u29 :: u30 :: u31 :: u32 :: u33 :: u34 :: u35 :: v36 :: v37 :: v38 :: v39 :: v40 :: v41 :: v42 :: v43 :: v44 :: v45 :: v46 :: v47 :: v48 :: v49 :: v50 :: v51 :: v52 :: v53 :: v54 :: v55 :: .bool rb :: u57 :: u58 :: u59 :: u60 :: u61 :: u62 :: u63 :: u64 :: u65 :: u66 :: u67 :: u68 :: u69 :: u70 :: u71 :: u72 :: u73 :: u74 :: u75 :: u76 :: u77 :: u78 :: u79 :: u80 :: u81 :: u82 :: u83 :: u84 :: u85 :: u86 :: u87 :: u88 :: u89 :: u90 :: u91 :: u92 :: u93 :: u94 :: u95 :: u96 :: u97 :: u98 :: u99 :: u100 :: u101 :: u102 :: u103 :: u104 :: u105 :: u106 :: u107 :: u108 :: u109 :: u110 :: u111 :: u112 :: u113 :: u114 :: u115 :: u116 :: u117 :: u118 :: u119 :: u120 :: u121 :: u122 :: u123 :: u124 :: u125 :: u126 :: u127 :: u128 :: u129 :: u130 :: u131 :: u132 :: u133 :: u134 :: u135 :: u136 :: u137 :: u138 :: u139 :: u140 :: u141 :: u142 :: u143 :: u144 :: u145 :: u146 :: u147 :: u148 :: u149 :: u150 :: u151 :: u152 :: []).toArray, []⟩ w') :
    Code.wp Try.prog s6C Q ⟨(u0 :: .slice lA ln lc :: u2 :: u3 :: u4 :: u5 :: u6 :: u7 :: u8 :: u9 :: u10 :: u11 :: u12 :: .func (.func 33) #[] #[.pointer (some ⟨p8, 0, none⟩), .pointer (some ⟨p9, 0, none⟩)] :: u14 :: .int .i64 i :: .pointer (some ⟨q, 0, none⟩) :: u17 :: u18 :: u19 :: u20 :: u21 :: u22 :: u23 :: u24 :: u25 :: u26 :: u27 :: u28 :: u29 :: u30 :: u31 :: u32 :: u33 :: u34 :: u35 :: u36 :: u37 :: u38 :: u39 :: u40 :: u41 :: u42 :: u43 :: u44 :: u45 :: u46 :: u47 :: u48 :: u49 :: u50 :: u51 :: u52 :: u53 :: u54 :: u55 :: u56 :: u57 :: u58 :: u59 :: u60 :: u61 :: u62 :: u63 :: u64 :: u65 :: u66 :: u67 :: u68 :: u69 :: u70 :: u71 :: u72 :: u73 :: u74 :: u75 :: u76 :: u77 :: u78 :: u79 :: u80 :: u81 :: u82 :: u83 :: u84 :: u85 :: u86 :: u87 :: u88 :: u89 :: u90 :: u91 :: u92 :: u93 :: u94 :: u95 :: u96 :: u97 :: u98 :: u99 :: u100 :: u101 :: u102 :: u103 :: u104 :: u105 :: u106 :: u107 :: u108 :: u109 :: u110 :: u111 :: u112 :: u113 :: u114 :: u115 :: u116 :: u117 :: u118 :: u119 :: u120 :: u121 :: u122 :: u123 :: u124 :: u125 :: u126 :: u127 :: u128 :: u129 :: u130 :: u131 :: u132 :: u133 :: u134 :: u135 :: u136 :: u137 :: u138 :: u139 :: u140 :: u141 :: u142 :: u143 :: u144 :: u145 :: u146 :: u147 :: u148 :: u149 :: u150 :: u151 :: u152 :: []).toArray, []⟩ w := by
  by_cases hin : inE lo hi e.1
  · by_cases h0 : i = 0
    · exact s6_first i q p8 p9 0 lA kA none aA hA ln lc kn kc 0 0 an ac hn hc e.1 [] lo hi w Q HQP hi1 hln SK SL SH hin h0 ⟨c0, c8, c9, trivial⟩ (fun v36 v37 v38 v39 v40 v41 v42 v43 v44 v45 v46 v47 v48 v49 v50 v51 v52 v53 v54 v55 rb w' hrb hc => hexit v36 v37 v38 v39 v40 v41 v42 v43 v44 v45 v46 v47 v48 v49 v50 v51 v52 v53 v54 v55 rb w' (by
        subst hrb
        refine ⟨fun h => (by cases h), fun h => absurd (fun e' he' => ?_) h⟩
        rw [he] at he'; injection he' with he'; subst he'
        exact ⟨hin, fun h => by omega⟩) hc)
    · obtain ⟨b, o, A1, n1, c1, A2, n2, c2, k1, v1, hA1, hl, z1, z2, s1, s2⟩ := rd_text HE.out (show i - 1 < ln by omega)
      exact s6_next i q p8 p9 o lA kA A1 aA hA ln lc kn kc n1 c1 an ac hn hc e.1 k1 lo hi w Q HQP hi1 hln SK SL SH b (i - 1) hA1 hin (by omega) s1 ⟨c0, c8, c9, z1⟩ (fun v36 v37 v38 v39 v40 v41 v42 v43 v44 v45 v46 v47 v48 v49 v50 v51 v52 v53 v54 v55 rb w' hrb hc => hexit v36 v37 v38 v39 v40 v41 v42 v43 v44 v45 v46 v47 v48 v49 v50 v51 v52 v53 v54 v55 rb w' (by
        subst hrb
        rw [decide_eq_true_iff]
        constructor
        · intro h hok
          have := (hok e he).2 (by omega) _ hl
          simp only at this
          omega
        · intro h
          refine Decidable.byContradiction fun hn => h (fun e' he' => ?_)
          rw [he] at he'; injection he' with he'; subst he'
          refine ⟨hin, fun _ p hp => ?_⟩
          rw [hl] at hp; injection hp with hp; subst hp
          simp only
          omega) hc)
  · exact s6_out i q p8 p9 0 lA kA none aA hA ln lc kn kc 0 0 an ac hn hc e.1 [] lo hi w Q HQP hi1 hln SK SL SH hin ⟨c0, c8, c9, trivial⟩ (fun v36 v37 v38 v39 v40 v41 v42 v43 v44 v45 v46 v47 v48 v49 v50 v51 v52 v53 v54 v55 rb w' hrb hc => hexit v36 v37 v38 v39 v40 v41 v42 v43 v44 v45 v46 v47 v48 v49 v50 v51 v52 v53 v54 v55 rb w' (by
      subst hrb
      exact ⟨fun _ h => hin (h e he).1, fun _ => rfl⟩) hc)
end Go.Proofs.Ytpbnngfiinihmaa

namespace Go.Proofs.Ytpbnngfiinihmaa
open Go.RowKit
open Go.Lib (compareBytes)
noncomputable def s0C : Code := codeOr (Try.f15.body.bind (blockIn 0))
set_option maxRecDepth 100000 in
set_option maxHeartbeats 4000000 in
theorem s0_in (F : Nat → Prop) (p8 p9 kb : Nat) (lA aA hA : Option Addr) (ln lc an ac hn hc : Nat) (l : List Ent) (lo hi : List UInt8) (w : World) {u0 u2 u3 u4 u5 u6 u7 u8 u9 u10 u11 u12 u15 u16 u17 u18 u19 u20 u21 u22 u23 u24 u25 u26 u27 u28 u32 u33 u34 u35 u36 u37 u38 u39 u40 u41 u42 u43 u44 u45 u46 u47 u48 u49 u50 u51 u52 u53 u54 u55 u56 u57 u58 u59 u60 u61 u62 u63 u64 u65 u66 u67 u68 u69 u70 u71 u72 u73 u74 u75 u76 u77 u78 u79 u80 u81 u82 u83 u84 u85 u86 u87 u88 u89 u90 u91 u92 u93 u94 u95 u96 u97 u98 u99 u100 u101 u102 u103 u104 u105 u106 u107 u108 u109 u110 u111 u112 u113 u114 u115 u116 u117 u118 u119 u120 u121 u122 u123 u124 u125 u126 u127 u128 u129 u130 u131 u132 u133 u134 u135 u136 u137 u138 u139 u140 u141 u142 u143 u144 u145 u146 u147 u148 u149 u150 u151 u152 : Value} (Q : Exit → Act → World → Prop) (HQP : Hid (∀ c t (a : Act) w, Q (.panic c) ⟨t, a.defers⟩ w → Q (.panic c) a w))
    (hln : ln ≤ 1048576) (HS : Hid (Short 1048576 l)) (HE : Hid (Ents w F lA ln l)) (HF : Hid (∀ b, F b → b ≠ kb)) (HL : Hid (SB w F (.slice aA an ac) lo)) (HH : Hid (SB w F (.slice hA hn hc) hi))
    (HK : Hid (KeysM w kb 0 [])) (c8 : w.cell? ⟨p8, 0, none⟩ = some (.slice aA an ac)) (c9 : w.cell? ⟨p9, 0, none⟩ = some (.slice hA hn hc)) (h8 : p8 ≠ kb) (h9 : p9 ≠ kb)
    (hexit : ∀ (v12 v15 v16 v31 v32 v33 v34 v35 v36 v37 v38 v39 v40 v41 v42 v43 v44 v45 v46 v47 v48 v49 v50 v51 v52 v53 v54 v55 v56 v57 v58 v59 v60 v61 v62 v63 : Value) (w' : World), (∀ i, i < l.length → okE lo hi l i) → KeysM w' kb ln (l.map (·.1)) → Chg (One kb) w w' → Q (.exit 0) ⟨(u0 :: .slice lA ln lc :: u2 :: u3 :: u4 :: u5 :: u6 :: u7 :: u8 :: u9 :: u10 :: u11 :: v12 :: .func (.func 33) #[] #[.pointer (some ⟨p8, 0, none⟩), .pointer (some ⟨p9, 0, none⟩)] :: .map (some kb) :: v15 :: v16 :: u17 :: u18 :: u19 :: u20 :: u21 :: u22 :: u23 :: u24 :: u25 :: u26 :: u27 :: u28 :: .slice lA ln lc :: .int .i64 ln :: v31 :: v32 :: v33 :: v34 :: v35 :: v36 :: v37 :: v38 :: v39 :: v40 :: v41 :: v42 :: v43 :: v44 :: v45 :: v46 :: v47 :: v48 :: v49 :: v50 :: v51 :: v52 :: v53 :: v54 :: v55 :: v56 :: v57 :: v58 :: v59 :: v60 :: v61 :: v62 :: v63 :: u64 :: u65 :: u66 :: u67 :: u68 :: u69 :: u70 :: u71 :: u72 :: u73 :: u74 :: u75 :: u76 :: u77 :: u78 :: u79 :: u80 :: u81 :: u82 :: u83 :: u84 :: u85 :: u86 :: u87 :: u88 :: u89 :: u90 :: u91 :: u92 :: u93 :: u94 :: u95 :: u96 :: u97 :: u98 :: u99 :: u100 :: u101 :: u102 :: u103 :: u104 :: u105 :: u106 :: u107 :: u108 :: u109 :: u110 :: u111 :: u112 :: u113 :: u114 :: u115 :: u116 :: u117 :: u118 :: u119 :: u120 :: u121 :: u122 :: u123 :: u124 :: u125 :: u126 :: u127 :: u128 :: u129 :: u130 :: u131 :: u132 :: u133 :: u134 :: u135 :: u136 :: u137 :: u138 :: u139 :: u140 :: u141 :: u142 :: u143 :: u144 :: u145 :: u146 :: u147 :: u148 :: u149 :: u150 :: u151 :: u152 :: []).toArray, []⟩ w')
    (hret : ∀ (v15 v16 v31 v32 v33 v34 v35 v36 v37 v38 v39 v40 v41 v42 v43 v44 v45 v46 v47 v48 v49 v50 v51 v52 v53 v54 v55 v56 v57 v58 v59 v60 v61 v62 v63 : Value) (w' : World), (∃ i, i < l.length ∧ ¬ okE lo hi l i) → Chg (One kb) w w' → Q .ret ⟨(u0 :: .slice lA ln lc :: u2 :: u3 :: u4 :: u5 :: u6 :: u7 :: u8 :: u9 :: u10 :: u11 :: .bool false :: .func (.func 33) #[] #[.pointer (some ⟨p8, 0, none⟩), .pointer (some ⟨p9, 0, none⟩)] :: .map (some kb) :: v15 :: v16 :: u17 :: u18 :: u19 :: u20 :: u21 :: u22 :: u23 :: u24 :: u25 :: u26 :: u27 :: u28 :: .slice lA ln lc :: .int .i64 ln :: v31 :: v32 :: v33 :: v34 :: v35 :: v36 :: v37 :: v38 :: v39 :: v40 :: v41 :: v42 :: v43 :: v44 :: v45 :: v46 :: v47 :: v48 :: v49 :: v50 :: v51 :: v52 :: v53 :: v54 :: v55 :: v56 :: v57 :: v58 :: v59 :: v60 :: v61 :: v62 :: v63 :: u64 :: u65 :: u66 :: u67 :: u68 :: u69 :: u70 :: u71 :: u72 :: u73 :: u74 :: u75 :: u76 :: u77 :: u78 :: u79 :: u80 :: u81 :: u82 :: u83 :: u84 :: u85 :: u86 :: u87 :: u88 :: u89 :: u90 :: u91 :: u92 :: u93 :: u94 :: u95 :: u96 :: u97 :: u98 :: u99 :: u100 :: u101 :: u102 :: u103 :: u104 :: u105 :: u106 :: u107 :: u108 :: u109 :: u110 :: u111 :: u112 :: u113 :: u114 :: u115 :: u116 :: u117 :: u118 :: u119 :: u120 :: u121 :: u122 :: u123 :: u124 :: u125 :: u126 :: u127 :: u128 :: u129 :: u130 :: u131 :: u132 :: u133 :: u134 :: u135 :: u136 :: u137 :: u138 :: u139 :: u140 :: u141 :: u142 :: u143 :: u144 :: u145 :: u146 :: u147 :: u148 :: u149 :: u150 :: u151 :: u152 :: []).toArray, []⟩ w') :
    Code.wp Try.prog s0C Q ⟨(u0 :: .slice lA ln lc :: u2 :: u3 :: u4 :: u5 :: u6 :: u7 :: u8 :: u9 :: u10 :: u11 :: u12 :: .func (.func 33) #[] #[.pointer (some ⟨p8, 0, none⟩), .pointer (some ⟨p9, 0, none⟩)] :: .map (some kb) :: u15 :: u16 :: u17 :: u18 :: u19 :: u20 :: u21 :: u22 :: u23 :: u24 :: u25 :: u26 :: u27 :: u28 :: .slice lA ln lc :: .int .i64 ln :: .int .i64 0 :: u32 :: u33 :: u34 :: u35 :: u36 :: u37 :: u38 :: u39 :: u40 :: u41 :: u42 :: u43 :: u44 :: u45 :: u46 :: u47 :: u48 :: u49 :: u50 :: u51 :: u52 :: u53 :: u54 :: u55 :: u56 :: u57 :: u58 :: u59 :: u60 :: u61 :: u62 :: u63 :: u64 :: u65 :: u66 :: u67 :: u68 :: u69 :: u70 :: u71 :: u72 :: u73 :: u74 :: u75 :: u76 :: u77 :: u78 :: u79 :: u80 :: u81 :: u82 :: u83 :: u84 :: u85 :: u86 :: u87 :: u88 :: u89 :: u90 :: u91 :: u92 :: u93 :: u94 :: u95 :: u96 :: u97 :: u98 :: u99 :: u100 :: u101 :: u102 :: u103 :: u104 :: u105 :: u106 :: u107 :: u108 :: u109 :: u110 :: u111 :: u112 :: u113 :: u114 :: u115 :: u116 :: u117 :: u118 :: u119 :: u120 :: u121 :: u122 :: u123 :: u124 :: u125 :: u126 :: u127 :: u128 :: u129 :: u130 :: u131 :: u132 :: u133 :: u134 :: u135 :: u136 :: u137 :: u138 :: u139 :: u140 :: u141 :: u142 :: u143 :: u144 :: u145 :: u146 :: u147 :: u148 :: u149 :: u150 :: u151 :: u152 :: []).toArray, []⟩ w := by
  have HEX := Lib.hid hexit
  have HRT := Lib.hid hret
  have HN := Lib.hid HE.out.len
  have C8 := Lib.hid c8
  have C9 := Lib.hid c9
  clear hexit hret c8 c9
  conv => arg 2; whnf
  go_loopg [31] ln (fun g' iv wz => ∃ (i : Nat), g' = ln - i ∧ i ≤ ln ∧ iv = .int .i64 i ∧ (∀ j, j < i → okE lo hi l j) ∧ KeysM wz kb i ((l.take i).map (·.1)) ∧ Chg (One kb) w wz)
  case atStart => exact ⟨0, by omega, by omega, rfl, fun j hj => absurd hj (by omega), by simpa using HK.out, Chg.refl _ _⟩
  case round =>
    obtain ⟨i, hg, hi1, rfl, hok, hk, hc1⟩ := hrel
    have HG := Lib.hid hg
    have HOK := Lib.hid hok
    have HKM := Lib.hid hk
    have HC := Lib.hid hc1
    clear hg hok hk
    by_cases hlt : i < ln
    · have hlt' : (i : Int) < (ln : Int) := by omega
      have HE1 := Lib.hid (HE.out.chg hc1 (fun b hb e => HF.out b hb e))
      have HL1 := Lib.hid (HL.out.chg hc1 (fun b hb e => HF.out b hb e))
      have HH1 := Lib.hid (HH.out.chg hc1 (fun b hb e => HF.out b hb e))
      have c8 := hc1.cell (show ¬ One kb p8 from h8) C8.out
      have c9 := hc1.cell (show ¬ One kb p9 from h9) C9.out
      obtain ⟨b, o, Ak, nk, ck, Av, nv, cv, key, val, hA1, hl, z1, z2, s1, s2⟩ := Sf.rd_textF HE1.out hlt
      subst hA1
      have HLI := Lib.hid hl
      have HKL : Hid (key.length ≤ 1048576) := Lib.hid (HS.out _ (List.mem_of_getElem? hl)).1
      have HS1 := Lib.hid s1
      clear hl s1 s2 hc1
      go_upto_region 6 with fail
      obtain ⟨w1, hw1⟩ : ∃ W, W = wr.alloc (.cells #[.slice Ak nk ck, .slice Av nv cv] 38) := ⟨_, rfl⟩
      rw [← hw1]
      have hb1 : Below wr.heap.size wr w1 := by rw [hw1]; exact (Below.refl _ _).alloc (Nat.le_refl _) _
      have HBK : Hid (Blk w1 wr.heap.size 38 #[.slice Ak nk ck, .slice Av nv cv]) := Lib.hid (by rw [hw1]; exact Blk.new _ _ _)
      have HKM1 := Lib.hid (HKM.out.below hb1)
      have HC1 := Lib.hid (HC.out.then hb1)
      have HS2 := Lib.hid (HS1.out.below hb1)
      refine s6_any i wr.heap.size p8 p9 _ Ak aA hA ln lc nk ck an ac hn hc l (key, val) lo hi w1 _ (by exact Lib.hid (fun c t a w h => HQP.out c t a w h)) hlt (by omega) (Lib.hid ((HE1.out.below hb1).weak (fun _ _ => trivial))) HLI.out (HS2.out.weak (fun _ _ => trivial)) ((HL1.out.below hb1).weak (fun _ _ => trivial)) ((HH1.out.below hb1).weak (fun _ _ => trivial)) (HBK.out.cell 0) (bkeep hb1 c8) (bkeep hb1 c9) ?_
      intro v36 v37 v38 v39 v40 v41 v42 v43 v44 v45 v46 v47 v48 v49 v50 v51 v52 v53 v54 v55 rb w2 hrb hc2
      have HRB := Lib.hid hrb
      have HC2 := Lib.hid (HC1.out.trans hc2 (fun _ _ h => h.elim))
      clear hw1 hb1 hrb c8 c9 z1 z2
      cases rb with
      | true =>
        go_wp2
        exact HRT.out _ _ _ _ _ _ _ _ _ _ _ _ _ _ _ _ _ _ _ _ _ _ _ _ _ _ _ _ _ _ _ _ _ _ _ _ ⟨i, by have := HN.out; omega, HRB.out.1 (by simp)⟩ HC2.out
      | false =>
        have HKM2 := Lib.hid (HKM1.out.chg hc2 (fun h => h))
        have x0 : w2.cell? ⟨wr.heap.size, 0, none⟩ = some (.slice Ak nk ck) := hc2.cell (fun h => h) (HBK.out.cell 0)
        have HS3 := Lib.hid (HS2.out.chg hc2 (fun _ _ h => h))
        have q1 := conv_any w2 _ Ak nk ck key HS3.out.parts.2.2.2 HS3.out.parts.2.2.1
        have hkl : key.length ≤ maxLen := by have := HKL.out; simp only [maxLen]; omega
        obtain ⟨z, hz, q2⟩ := HKM2.out.look hkl
        have hz1 : z ≤ 1048576 := by omega
        have HZ := Lib.hid hz
        clear hz hc2
        go_wp2_with (at_mapUpdate; go_loud (refine wpList_keys_put rfl (.tmp 57) (.tmp 60) (.tmp 62) rfl rfl HKM2.out (by simp only [maxLen]; omega) key hkl (z + 1) (by have := HZ.out; omega) rfl (by go_num) ?_); intro w3 hk3 hc3; have HK3 := Lib.hid hk3; have HC3 := Lib.hid (HC2.out.trans hc3 (fun _ _ h => h)); clear hk3 hc3)
        go_roundg (ln - (i + 1))
        case measure => have := HG.out; omega
        case rel =>
          refine ⟨i + 1, rfl, by omega, by go_num, fun j hj => ?_, ?_, HC3.out⟩
          · rcases Nat.lt_or_ge j i with h | h
            · exact HOK.out j h
            · have : j = i := by omega
              subst this
              exact Classical.byContradiction fun hn => by have h1 := HRB.out.2 hn; simp at h1
          · rw [take_succ_keys HLI.out]; exact HK3.out
    · have hin : i = ln := by omega
      subst hin
      go_wp2
      refine HEX.out _ _ _ _ _ _ _ _ _ _ _ _ _ _ _ _ _ _ _ _ _ _ _ _ _ _ _ _ _ _ _ _ _ _ _ _ _ (fun j hj => HOK.out j (by have := HN.out; omega)) ?_ HC.out
      have h1 := HKM.out
      rwa [take_all HN.out] at h1
end Go.Proofs.Ytpbnngfiinihmaa

namespace Go.Proofs.Ytpbnngfiinihmaa
open Go.RowKit
set_option maxRecDepth 100000 in
set_option maxHeartbeats 4000000 in
theorem standsC_any (pc : Nat) (c x : CallD) (y z : CallX) (w : World) (h : Blk w pc 48 (callCs c y)) :
    Calls Try.prog 45 #[callV x z, .pointer (some ⟨pc, 0, none⟩)] w fun e w' => e = .returned (.bool (decide (clashE c x))) ∧ Below w.heap.size w w' := by
  have H := Lib.hid h
  clear h
  go_enter Try.func45, Try.ntmps45
  go_upto_region 1 with fail
  obtain ⟨w1, hw1⟩ : ∃ W, W = w.alloc (.cells (callCs x z) 48) := ⟨_, rfl⟩
  rw [← hw1]
  have HB : Hid (Below w.heap.size w w1) := Lib.hid (by rw [hw1]; exact (Below.refl _ _).alloc (Nat.le_refl _) _)
  have HK : Hid (Blk w1 w.heap.size 48 (callCs x z)) := Lib.hid (by rw [hw1]; exact Blk.new _ _ _)
  have HC := Lib.hid (H.out.below HB.out)
  clear hw1
  have x0 : w1.cell? ⟨w.heap.size, 0, none⟩ = some (.int .i64 x.cl) := HK.out.cell 0
  have x10 : w1.cell? ⟨w.heap.size, 10, none⟩ = some (.int .i64 x.lst) := HK.out.cell 10
  have x11 : w1.cell? ⟨w.heap.size, 11, none⟩ = some (.int .i64 x.pt) := HK.out.cell 11
  have x12 : w1.cell? ⟨w.heap.size, 12, none⟩ = some (.bool x.dn) := HK.out.cell 12
  have c0 : w1.cell? ⟨pc, 0, none⟩ = some (.int .i64 c.cl) := HC.out.cell 0
  have c9 : w1.cell? ⟨pc, 9, none⟩ = some (.int .i64 c.fst) := HC.out.cell 9
  have c11 : w1.cell? ⟨pc, 11, none⟩ = some (.int .i64 c.pt) := HC.out.cell 11
  obtain ⟨CE, hce⟩ : ∃ CE, CE = ((0 ≤ c.pt ∧ x.pt = c.pt) ∨ (x.cl = c.cl ∧ (x.dn = false ∨ c.fst < x.lst))) := ⟨_, rfl⟩
  have HCE : Hid (clashE c x ↔ ((0 ≤ c.pt ∧ x.pt = c.pt) ∨ (x.cl = c.cl ∧ (x.dn = false ∨ c.fst < x.lst)))) := Lib.hid Iff.rfl
  clear hce
  go_wp2
  all_goals (go_ret; refine ⟨ret_bool ?_, HB.out⟩; rw [HCE.out]; clear x0 x10 x11 x12 c0 c9 c11 HCE HB HK HC H; first | done | (simp; done) | (simp_all; done) | (simp_all <;> omega))
set_option maxRecDepth 100000 in
set_option maxHeartbeats 4000000 in
theorem indexC_any (A : Option Addr) (n d pc : Nat) (l : List CallD) (c : CallD) (y : CallX) (w : World) (hL : CallsM w Any A n l) (hn : n ≤ 1048576) (h : Blk w pc 48 (callCs c y)) :
    Calls Try.prog 58 #[.slice A n d, .func (.func 45) #[] #[.pointer (some ⟨pc, 0, none⟩)]] w fun e w' => (∃ k : Int, e = .returned (.int .i64 k) ∧ (0 ≤ k ↔ ∃ x ∈ l, clashE c x)) ∧ Below w.heap.size w w' := by
  have HL := Lib.hid hL
  have HN := Lib.hid hL.len
  have H := Lib.hid h
  clear hL h
  go_enter Try.func58, Try.ntmps58
  go_wp2
  go_loopg [8] n (fun g' iv wz => ∃ i : Nat, g' = n - i ∧ i ≤ n ∧ iv = .int .i64 i ∧ (∀ x ∈ l.take i, ¬ clashE c x) ∧ Below w.heap.size w wz)
  case atStart => exact ⟨0, by omega, by omega, rfl, by simp, Below.refl _ _⟩
  case round =>
    obtain ⟨i, hg, hi, rfl, hno, hb⟩ := hrel
    have HG := Lib.hid hg
    have HNO := Lib.hid hno
    have HB := Lib.hid hb
    clear hg hno hb
    by_cases hlt : i < n
    · have hlt' : (i : Int) < (n : Int) := by omega
      obtain ⟨b, o, x, z, rfl, _, hlk, _, hat⟩ := (HL.out.below HB.out).at_ hlt
      have HX := Lib.hid hlk
      have HAT := Lib.hid hat
      have HC := Lib.hid (H.out.below HB.out)
      obtain ⟨rb, hrb⟩ : ∃ rb, rb = decide (clashE c x) := ⟨_, rfl⟩
      have HRB := Lib.hid hrb
      clear hlk hat hrb
      cases rb with
      | true =>
        go_wp2_with (first | (refine wpList_load_call rfl (.tmp 14) rfl rfl HAT.out ?_) | (go_at_call 45; go_loud (refine (standsC_any pc c x y z wr HC.out).mono ?_); rintro e w2 ⟨rfl, hb2⟩; rw [← HRB.out]; have HB2 := Lib.hid (HB.out.trans (hb2.mono HB.out.size)); clear hb2))
        go_ret
        exact ⟨⟨(i : Int), rfl, fun _ => ⟨x, List.mem_of_getElem? HX.out, of_decide_eq_true HRB.out.symm⟩, fun _ => by omega⟩, HB2.out⟩
      | false =>
        go_wp2_with (first | (refine wpList_load_call rfl (.tmp 14) rfl rfl HAT.out ?_) | (go_at_call 45; go_loud (refine (standsC_any pc c x y z wr HC.out).mono ?_); rintro e w2 ⟨rfl, hb2⟩; rw [← HRB.out]; have HB2 := Lib.hid (HB.out.trans (hb2.mono HB.out.size)); clear hb2))
        go_roundg (n - (i + 1))
        case measure => have := HG.out; omega
        case rel =>
          refine ⟨i + 1, rfl, by omega, by go_num, fun x' hx' => ?_, HB2.out⟩
          rw [List.take_add_one, HX.out] at hx'
          rcases List.mem_append.1 hx' with h | h
          · exact HNO.out x' h
          · simp at h
            subst h
            exact of_decide_eq_false HRB.out.symm
    · have hin : i = n := by omega
      subst hin
      go_wp2
      go_ret
      refine ⟨⟨-1, rfl, fun h => (by omega), fun h => ?_⟩, HB.out⟩
      obtain ⟨x, hx, hcl⟩ := h
      exact (HNO.out x (by rw [List.take_of_length_le (by have := HN.out; omega)]; exact hx) hcl).elim
set_option maxRecDepth 100000 in
theorem containsC_any (A : Option Addr) (n d pc : Nat) (l : List CallD) (c : CallD) (y : CallX) (w : World) (hL : CallsM w Any A n l) (hn : n ≤ 1048576) (h : Blk w pc 48 (callCs c y)) :
    Calls Try.prog 44 #[.slice A n d, .func (.func 45) #[] #[.pointer (some ⟨pc, 0, none⟩)]] w fun e w' => (∃ rb : Bool, e = .returned (.bool rb) ∧ (rb = true ↔ ∃ x ∈ l, clashE c x)) ∧ Below w.heap.size w w' := by
  have HH := Lib.hid (indexC_any A n d pc l c y w hL hn h)
  clear hL h
  go_enter Try.func44, Try.ntmps44
  go_wp2_with (go_at_call 58; go_loud (refine HH.out.mono ?_); rintro e w2 ⟨⟨k, rfl, hk⟩, hb2⟩; have HK := Lib.hid hk; have HB := Lib.hid hb2; clear hk hb2)
  go_ret
  exact ⟨⟨_, rfl, by rw [← HK.out]; simp⟩, HB.out⟩
noncomputable def st1C : Code := codeOr (Try.f20.body.bind (regionAt 2))
set_option maxRecDepth 100000 in
set_option maxHeartbeats 8000000 in
theorem st1_cond (q : Nat)  (c : CallD) (z : CallX) (w : World) {u0 u1 u2 u3 u4 u6 u7 u8 u9 u10 u11 u12 u13 u14 u15 u16 u17 u18 u19 u20 u21 u22 u23 u24 u25 u26 u27 u28 u29 u30 u31 u32 u33 u34 u35 u36 u37 u38 u39 u40 u41 u42 u43 u44 u45 u46 u47 u48 u49 u50 u51 u52 u53 u54 u55 u56 u57 u58 u59 u60 u61 u62 u63 u64 u65 u66 u67 u68 u69 : Value} (Q : Exit → Act → World → Prop) (HK : Hid (Blk w q 48 (callCs c z)))
    (hexit : ∀ (v11 v12 v13 v14 v15 v16 v17 v18 v19 v20 v21 v22 v23 v24 v25 v26 v27 : Value) (rb : Bool), (rb = true ↔ (c.fst ≤ c.pt ∧ (c.dn = false ∨ c.pt ≤ c.lst))) → Q .normal ⟨(u0 :: u1 :: u2 :: u3 :: u4 :: .pointer (some ⟨q, 0, none⟩) :: .bool rb :: u7 :: u8 :: u9 :: u10 :: v11 :: v12 :: v13 :: v14 :: v15 :: v16 :: v17 :: v18 :: v19 :: v20 :: v21 :: v22 :: v23 :: v24 :: v25 :: v26 :: v27 :: u28 :: u29 :: u30 :: u31 :: u32 :: u33 :: u34 :: u35 :: u36 :: u37 :: u38 :: u39 :: u40 :: u41 :: u42 :: u43 :: u44 :: u45 :: u46 :: u47 :: u48 :: u49 :: u50 :: u51 :: u52 :: u53 :: u54 :: u55 :: u56 :: u57 :: u58 :: u59 :: u60 :: u61 :: u62 :: u63 :: u64 :: u65 :: u66 :: u67 :: u68 :: u69 :: []).toArray, []⟩ w) :
    Code.wp Try.prog st1C Q ⟨(u0 :: u1 :: u2 :: u3 :: u4 :: .pointer (some ⟨q, 0, none⟩) :: u6 :: u7 :: u8 :: u9 :: u10 :: u11 :: u12 :: u13 :: u14 :: u15 :: u16 :: u17 :: u18 :: u19 :: u20 :: u21 :: u22 :: u23 :: u24 :: u25 :: u26 :: u27 :: u28 :: u29 :: u30 :: u31 :: u32 :: u33 :: u34 :: u35 :: u36 :: u37 :: u38 :: u39 :: u40 :: u41 :: u42 :: u43 :: u44 :: u45 :: u46 :: u47 :: u48 :: u49 :: u50 :: u51 :: u52 :: u53 :: u54 :: u55 :: u56 :: u57 :: u58 :: u59 :: u60 :: u61 :: u62 :: u63 :: u64 :: u65 :: u66 :: u67 :: u68 :: u69 :: []).toArray, []⟩ w := by
  skip
  all_goals
    have HEX := Lib.hid hexit
    clear hexit
    have z2 : w.cell? ⟨q, 2, none⟩ = some (.int .i64 c.kd) := HK.out.cell 2
    have z9 : w.cell? ⟨q, 9, none⟩ = some (.int .i64 c.fst) := HK.out.cell 9
    have z10 : w.cell? ⟨q, 10, none⟩ = some (.int .i64 c.lst) := HK.out.cell 10
    have z11 : w.cell? ⟨q, 11, none⟩ = some (.int .i64 c.pt) := HK.out.cell 11
    have z12 : w.cell? ⟨q, 12, none⟩ = some (.bool c.dn) := HK.out.cell 12
    conv => arg 2; whnf
    go_wp2
    all_goals (clear z2 z9 z10 z11 z12; refine HEX.out _ _ _ _ _ _ _ _ _ _ _ _ _ _ _ _ _ _ ?_; clear HEX HK; simp_all <;> omega)
noncomputable def st2C : Code := codeOr (Try.f20.body.bind (regionAt 3))
set_option maxRecDepth 100000 in
set_option maxHeartbeats 8000000 in
theorem st2_cond (q : Nat)  (c : CallD) (z : CallX) (w : World) {u0 u1 u2 u3 u4 u6 u7 u8 u9 u10 u11 u12 u13 u14 u15 u16 u17 u18 u19 u20 u21 u22 u23 u24 u25 u26 u27 u28 u29 u30 u31 u32 u33 u34 u35 u36 u37 u38 u39 u40 u41 u42 u43 u44 u45 u46 u47 u48 u49 u50 u51 u52 u53 u54 u55 u56 u57 u58 u59 u60 u61 u62 u63 u64 u65 u66 u67 u68 u69 : Value} (Q : Exit → Act → World → Prop) (HK : Hid (Blk w q 48 (callCs c z)))
    (hexit : ∀ (v29 v30 v31 v32 v33 v34 v35 v36 v37 v38 v39 v40 v41 v42 : Value) (rb : Bool), (rb = true ↔ (c.fst < 0 ∨ (c.dn = true ∧ c.lst < c.fst))) → Q .normal ⟨(u0 :: u1 :: u2 :: u3 :: u4 :: .pointer (some ⟨q, 0, none⟩) :: u6 :: u7 :: u8 :: u9 :: u10 :: u11 :: u12 :: u13 :: u14 :: u15 :: u16 :: u17 :: u18 :: u19 :: u20 :: u21 :: u22 :: u23 :: u24 :: u25 :: u26 :: u27 :: .bool rb :: v29 :: v30 :: v31 :: v32 :: v33 :: v34 :: v35 :: v36 :: v37 :: v38 :: v39 :: v40 :: v41 :: v42 :: u43 :: u44 :: u45 :: u46 :: u47 :: u48 :: u49 :: u50 :: u51 :: u52 :: u53 :: u54 :: u55 :: u56 :: u57 :: u58 :: u59 :: u60 :: u61 :: u62 :: u63 :: u64 :: u65 :: u66 :: u67 :: u68 :: u69 :: []).toArray, []⟩ w) :
    Code.wp Try.prog st2C Q ⟨(u0 :: u1 :: u2 :: u3 :: u4 :: .pointer (some ⟨q, 0, none⟩) :: u6 :: u7 :: u8 :: u9 :: u10 :: u11 :: u12 :: u13 :: u14 :: u15 :: u16 :: u17 :: u18 :: u19 :: u20 :: u21 :: u22 :: u23 :: u24 :: u25 :: u26 :: u27 :: u28 :: u29 :: u30 :: u31 :: u32 :: u33 :: u34 :: u35 :: u36 :: u37 :: u38 :: u39 :: u40 :: u41 :: u42 :: u43 :: u44 :: u45 :: u46 :: u47 :: u48 :: u49 :: u50 :: u51 :: u52 :: u53 :: u54 :: u55 :: u56 :: u57 :: u58 :: u59 :: u60 :: u61 :: u62 :: u63 :: u64 :: u65 :: u66 :: u67 :: u68 :: u69 :: []).toArray, []⟩ w := by
  skip
  all_goals
    have HEX := Lib.hid hexit
    clear hexit
    have z2 : w.cell? ⟨q, 2, none⟩ = some (.int .i64 c.kd) := HK.out.cell 2
    have z9 : w.cell? ⟨q, 9, none⟩ = some (.int .i64 c.fst) := HK.out.cell 9
    have z10 : w.cell? ⟨q, 10, none⟩ = some (.int .i64 c.lst) := HK.out.cell 10
    have z11 : w.cell? ⟨q, 11, none⟩ = some (.int .i64 c.pt) := HK.out.cell 11
    have z12 : w.cell? ⟨q, 12, none⟩ = some (.bool c.dn) := HK.out.cell 12
    conv => arg 2; whnf
    go_wp2
    all_goals (clear z2 z9 z10 z11 z12; refine HEX.out _ _ _ _ _ _ _ _ _ _ _ _ _ _ _ ?_; clear HEX HK; simp_all <;> omega)
noncomputable def st3C : Code := codeOr (Try.f20.body.bind (regionAt 8))
set_option maxRecDepth 100000 in
set_option maxHeartbeats 8000000 in
theorem st3_cond (q : Nat) (one : Bool) (c : CallD) (z : CallX) (w : World) {u0 u1 u2 u3 u4 u7 u8 u9 u10 u11 u12 u13 u14 u15 u16 u17 u18 u19 u20 u21 u22 u23 u24 u25 u26 u27 u28 u29 u30 u31 u32 u33 u34 u35 u36 u37 u38 u39 u40 u41 u42 u43 u44 u45 u46 u47 u48 u49 u50 u51 u52 u53 u54 u55 u56 u57 u58 u59 u60 u61 u62 u63 u64 u65 u66 u67 u68 u69 : Value} (Q : Exit → Act → World → Prop) (HK : Hid (Blk w q 48 (callCs c z)))
    (hexit : ∀ (v53 v54 v55 v56 v57 v58 v59 v60 v61 v62 v63 : Value) (rb : Bool), (rb = true ↔ (one = false ∧ (c.dn = true ∨ c.pt ≠ -1))) → Q .normal ⟨(u0 :: u1 :: u2 :: u3 :: u4 :: .pointer (some ⟨q, 0, none⟩) :: .bool one :: u7 :: u8 :: u9 :: u10 :: u11 :: u12 :: u13 :: u14 :: u15 :: u16 :: u17 :: u18 :: u19 :: u20 :: u21 :: u22 :: u23 :: u24 :: u25 :: u26 :: u27 :: u28 :: u29 :: u30 :: u31 :: u32 :: u33 :: u34 :: u35 :: u36 :: u37 :: u38 :: u39 :: u40 :: u41 :: u42 :: u43 :: u44 :: u45 :: u46 :: u47 :: u48 :: u49 :: u50 :: u51 :: .bool rb :: v53 :: v54 :: v55 :: v56 :: v57 :: v58 :: v59 :: v60 :: v61 :: v62 :: v63 :: u64 :: u65 :: u66 :: u67 :: u68 :: u69 :: []).toArray, []⟩ w) :
    Code.wp Try.prog st3C Q ⟨(u0 :: u1 :: u2 :: u3 :: u4 :: .pointer (some ⟨q, 0, none⟩) :: .bool one :: u7 :: u8 :: u9 :: u10 :: u11 :: u12 :: u13 :: u14 :: u15 :: u16 :: u17 :: u18 :: u19 :: u20 :: u21 :: u22 :: u23 :: u24 :: u25 :: u26 :: u27 :: u28 :: u29 :: u30 :: u31 :: u32 :: u33 :: u34 :: u35 :: u36 :: u37 :: u38 :: u39 :: u40 :: u41 :: u42 :: u43 :: u44 :: u45 :: u46 :: u47 :: u48 :: u49 :: u50 :: u51 :: u52 :: u53 :: u54 :: u55 :: u56 :: u57 :: u58 :: u59 :: u60 :: u61 :: u62 :: u63 :: u64 :: u65 :: u66 :: u67 :: u68 :: u69 :: []).toArray, []⟩ w := by
  cases one
  all_goals
    have HEX := Lib.hid hexit
    clear hexit
    have z2 : w.cell? ⟨q, 2, none⟩ = some (.int .i64 c.kd) := HK.out.cell 2
    have z9 : w.cell? ⟨q, 9, none⟩ = some (.int .i64 c.fst) := HK.out.cell 9
    have z10 : w.cell? ⟨q, 10, none⟩ = some (.int .i64 c.lst) := HK.out.cell 10
    have z11 : w.cell? ⟨q, 11, none⟩ = some (.int .i64 c.pt) := HK.out.cell 11
    have z12 : w.cell? ⟨q, 12, none⟩ = some (.bool c.dn) := HK.out.cell 12
    conv => arg 2; whnf
    go_wp2
    all_goals (clear z2 z9 z10 z11 z12; refine HEX.out _ _ _ _ _ _ _ _ _ _ _ _ ?_; clear HEX HK; simp_all <;> omega)
end Go.Proofs.Ytpbnngfiinihmaa

namespace Go.Proofs.Ytpbnngfiinihmaa
open Go.RowKit
theorem mom_no2 {c : CallD} (h : true = true ↔ (c.fst < 0 ∨ (c.dn = true ∧ c.lst < c.fst))) : ¬ momentE c := fun hm => hm.1 (h.1 rfl)
theorem mom_other {c : CallD} (h2 : false = true ↔ (c.fst < 0 ∨ (c.dn = true ∧ c.lst < c.fst))) (hs : ¬ (c.kd = 1 ∨ c.kd = 2 ∨ c.kd = 3)) : momentE c ↔ c.pt = -1 := by
  unfold momentE; rw [if_neg hs]
  exact ⟨fun h => h.2, fun h => ⟨fun h => (by have := h2.2 h; cases this), h⟩⟩
theorem mom_single {c : CallD} {one r3 : Bool} (h2 : false = true ↔ (c.fst < 0 ∨ (c.dn = true ∧ c.lst < c.fst))) (hs : c.kd = 1 ∨ c.kd = 2 ∨ c.kd = 3) (h1 : one = true ↔ (c.fst ≤ c.pt ∧ (c.dn = false ∨ c.pt ≤ c.lst)))
    (h3 : r3 = true ↔ (one = false ∧ (c.dn = true ∨ c.pt ≠ -1))) : momentE c ↔ r3 = false := by
  unfold momentE; rw [if_pos hs]
  have n2 : ¬ _ := fun h => by have := h2.2 h; cases this
  have e3 : r3 = false ↔ ¬ (one = false ∧ (c.dn = true ∨ c.pt ≠ -1)) := by rw [← h3]; cases r3 <;> simp
  have e1 : one = false ↔ ¬ (c.fst ≤ c.pt ∧ (c.dn = false ∨ c.pt ≤ c.lst)) := by rw [← h1]; cases one <;> simp
  rw [e3, e1]
  refine ⟨fun h => ?_, fun h => ⟨n2, ?_⟩⟩
  · have h := h.2
    cases hd : c.dn
    · rw [hd] at h; simp at h; simp; omega
    · rw [hd] at h; simp at h; simp; omega
  · cases hd : c.dn
    · rw [hd] at h; simp at h ⊢; omega
    · rw [hd] at h; simp at h ⊢; omega
set_option maxRecDepth 100000 in
set_option maxHeartbeats 8000000 in
theorem stands_any (A : Option Addr) (n d i : Nat) (l : List CallD) (c : CallD) (w : World) (hL : CallsM w Any A n l) (hn : n ≤ 1048576) (hnd : n ≤ d) (hi : i < n) (hc : l[i]? = some c) :
    Calls Try.prog 20 #[.slice A n d, .int .i64 i] w fun e w' => e = .returned (.bool (decide (pointE l i c))) ∧ Below w.heap.size w w' := by
  have HL := Lib.hid hL
  have HN := Lib.hid hL.len
  clear hL
  obtain ⟨b, o, c', z, rfl, hFb, hlk, hw, hat⟩ := HL.out.at_ hi
  rw [hc] at hlk
  injection hlk with hlk
  subst hlk
  have HAT := Lib.hid hat
  have HC := Lib.hid hc
  have hi' : (i : Int) < (n : Int) := by omega
  have hid : (i : Int) ≤ (d : Int) := by omega
  clear hw hFb hat hc
  obtain ⟨sb, hsb⟩ : ∃ sb, sb = decide (c.kd = 1 ∨ c.kd = 2 ∨ c.kd = 3) := ⟨_, rfl⟩
  have HSB := Lib.hid hsb
  clear hsb
  go_enter Try.func20, Try.ntmps20
  go_upto_region 2 with (first | (refine wpList_load_call rfl (.tmp 9) rfl rfl HAT.out ?_) | (refine wpList_store_call _ rfl (.tmp 5) (.tmp 10) rfl rfl rfl rfl ?_))
  obtain ⟨w1, hw1⟩ : ∃ W, W = w.alloc (.cells (callCs c z) 48) := ⟨_, rfl⟩
  rw [← hw1]
  have HB : Hid (Below w.heap.size w w1) := Lib.hid (by rw [hw1]; exact (Below.refl _ _).alloc (Nat.le_refl _) _)
  have HK : Hid (Blk w1 w.heap.size 48 (callCs c z)) := Lib.hid (by rw [hw1]; exact Blk.new _ _ _)
  clear hw1
  have z2 : w1.cell? ⟨w.heap.size, 2, none⟩ = some (.int .i64 c.kd) := HK.out.cell 2
  have z11 : w1.cell? ⟨w.heap.size, 11, none⟩ = some (.int .i64 c.pt) := HK.out.cell 11
  refine st1_cond w.heap.size c z w1 _ HK ?_
  intro v11 v12 v13 v14 v15 v16 v17 v18 v19 v20 v21 v22 v23 v24 v25 v26 v27 one hone
  have H1 := Lib.hid hone
  clear hone
  go_upto_region 3 with fail
  refine st2_cond w.heap.size c z w1 _ HK ?_
  intro v29 v30 v31 v32 v33 v34 v35 v36 v37 v38 v39 v40 v41 v42 r2 hr2
  have H2 := Lib.hid hr2
  clear hr2
  cases r2 with
  | true =>
    go_wp2
    go_ret
    refine ⟨ret_bool ?_, HB.out⟩
    exact ⟨fun h => by simp at h, fun h => absurd h.1 (mom_no2 (by simpa using H2.out))⟩
  | false =>
    cases sb with
    | false =>
      have HNS : Hid (¬ (c.kd = 1 ∨ c.kd = 2 ∨ c.kd = 3)) := Lib.hid (of_decide_eq_false HSB.out.symm)
      have HM := Lib.hid (mom_other (by simpa using H2.out) HNS.out)
      by_cases hp : c.pt = -1
      · have HP := Lib.hid hp
        rw [hp] at z11
        clear hp
        go_wp2_with (first | (go_at_call 43; refine (single_any _ _).mono ?_; rintro e w2 ⟨rfl, rfl⟩; rw [← HSB.out]) | (go_at_call 44; go_loud (refine (containsC_any (some ⟨b, o, none⟩) i d w.heap.size (l.take i) c z w1 ((HL.out.below HB.out).take (by omega)) (by omega) HK.out).mono ?_); rintro e w3 ⟨⟨rb, rfl, hrb⟩, hb3⟩; have HRB := Lib.hid hrb; have HB3 := Lib.hid (HB.out.trans (hb3.mono HB.out.size)); clear hrb hb3))
        go_ret
        refine ⟨ret_bool ?_, HB3.out⟩
        have hrb := HRB.out
        constructor
        · intro h
          exact ⟨HM.out.2 HP.out, fun x hx hcl => by have := hrb.2 ⟨x, hx, hcl⟩; rw [this] at h; simp at h⟩
        · intro h
          cases rb with
          | false => rfl
          | true => obtain ⟨x, hx, hcl⟩ := hrb.1 rfl; exact absurd hcl (h.2 x hx)
      · have HP := Lib.hid hp
        have hp' : (c.pt == -1) = false := by simpa using hp
        clear hp
        go_wp2_with (go_at_call 43; refine (single_any _ _).mono ?_; rintro e w2 ⟨rfl, rfl⟩; rw [← HSB.out])
        go_ret
        refine ⟨ret_bool ?_, HB.out⟩
        exact ⟨fun h => by simp at h, fun h => absurd (HM.out.1 h.1) HP.out⟩
    | true =>
      have HNS : Hid (c.kd = 1 ∨ c.kd = 2 ∨ c.kd = 3) := Lib.hid (of_decide_eq_true HSB.out.symm)
      go_upto_region 8 with (go_at_call 43; refine (single_any _ _).mono ?_; rintro e w2 ⟨rfl, rfl⟩; rw [← HSB.out])
      refine st3_cond w.heap.size one c z w1 _ HK ?_
      intro v53 v54 v55 v56 v57 v58 v59 v60 v61 v62 v63 r3 hr3
      have HM := Lib.hid (mom_single (by simpa using H2.out) HNS.out H1.out hr3)
      clear hr3
      cases r3 with
      | true =>
        go_wp2
        go_ret
        refine ⟨ret_bool ?_, HB.out⟩
        exact ⟨fun h => by simp at h, fun h => by have := HM.out.1 h.1; simp at this⟩
      | false =>
        go_wp2_with (go_at_call 44; go_loud (refine (containsC_any (some ⟨b, o, none⟩) i d w.heap.size (l.take i) c z w1 ((HL.out.below HB.out).take (by omega)) (by omega) HK.out).mono ?_); rintro e w3 ⟨⟨rb, rfl, hrb⟩, hb3⟩; have HRB := Lib.hid hrb; have HB3 := Lib.hid (HB.out.trans (hb3.mono HB.out.size)); clear hrb hb3)
        go_ret
        refine ⟨ret_bool ?_, HB3.out⟩
        have hrb := HRB.out
        constructor
        · intro h
          exact ⟨HM.out.2 (by simp), fun x hx hcl => by have := hrb.2 ⟨x, hx, hcl⟩; rw [this] at h; simp at h⟩
        · intro h
          cases rb with
          | false => rfl
          | true => obtain ⟨x, hx, hcl⟩ := hrb.1 rfl; exact absurd hcl (h.2 x hx)
end Go.Proofs.Ytpbnngfiinihmaa
