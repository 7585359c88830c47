/- WALKS: parts of a merge in place (slices.symMergeCmpFunc): its loops. WALKS: stretches change places (slices.swapRangeCmpFunc), a stretch is turned (slices.rotateCmpFunc). WALKS: a merge in place (slices.symMergeCmpFunc). -/
import Derived.Test.YtpbnngfiinihmaaOc12
import Derived.Test.YtpbnngfiinihmaaOc04
import Derived.Test.YtpbnngfiinihmaaOc05
import Derived.Deep.LoopGhost
import Derived.Deep.Cut
import Derived.Deep.QuietTactic
set_option linter.unusedVariables false
set_option linter.unusedSimpArgs false
namespace Go.Proofs.Ytpbnngfiinihmaa
open Go.RowKit
noncomputable def sm0C : Code := codeOr (Try.f57.body.bind (blockIn 0))
set_option maxRecDepth 100000 in
set_option maxHeartbeats 4000000 in
theorem sm0_in (g o n c a m b : Nat) (pl : Addr) (κ : Int → Int) (V : Int → Prop) (xs : Nat → Int) (w : World) {u2 u3 u5 u6 u7 u8 u9 u12 u13 u14 u15 u16 u17 u18 u19 u20 u21 u22 u23 u24 u25 u26 u27 u28 u29 u30 u31 u32 u33 u34 u35 u36 u37 u38 u39 u40 u41 u42 u43 u44 u45 u46 u47 u48 u49 u50 u51 u52 u53 u54 u55 u56 u57 u58 u59 u60 u61 u62 u63 u64 u65 u66 u67 u68 u69 u70 u71 u72 u73 u74 u75 u76 u77 u78 u79 u80 u81 u82 u83 u84 u85 u86 u87 u88 u89 u90 u91 u92 u93 u94 u95 u96 u97 u98 u99 u100 u101 u102 u103 u104 u105 u106 u107 u108 u109 u110 u111 u112 u113 u114 u115 u116 u117 u118 u119 u120 u121 u122 u123 u124 u125 u126 u127 u128 u129 u130 u131 u132 u133 u134 u135 u136 u137 u138 u139 u140 u141 u142 u143 u144 u145 u146 u147 u148 u149 u150 u151 u152 u153 u154 u155 u156 u157 u158 u159 u160 u161 u162 u163 u164 u165 u166 u167 u168 u169 u170 u171 u172 u173 u174 u175 u176 u177 u178 u179 u180 u181 u182 u183 u184 u185 u186 u187 u188 u189 u190 u191 u192 u193 u194 u195 u196 u197 u198 u199 u200 u201 u202 u203 u204 u205 u206 u207 u208 u209 u210 u211 u212 u213 u214 u215 u216 u217 u218 u219 : Value} (Q : Exit → Act → World → Prop) (HQP : Hid (∀ c t (a : Act) w, Q (.panic c) ⟨t, a.defers⟩ w → Q (.panic c) a w))
    (ham : a < m) (hmb : m ≤ b) (hb : b ≤ n) (hn : n ≤ 1152921504606) (HC : Hid (Cmp w g pl κ V)) (HR : Hid (RowI w g o n xs)) (HV : Hid (Vs V n xs)) (HX : Hid (∀ t, m ≤ t → t < b → xs a < xs t))
    (hexit : ∀ (v11 v12 v31 v32 v33 v34 v35 v36 v37 v38 v39 v40 v41 v42 v43 v44 v45 v46 v47 v48 v49 v50 v51 v52 v53 : Value) (i : Nat) (w' : World), m ≤ i → i ≤ b → (m < i → LL κ (xs (i - 1)) (xs a)) → (i < b → LL κ (xs a) (xs i)) → Chg Nil w w' → Q (.exit 0) ⟨(.slice (some ⟨g, o, none⟩) n c :: .int .i64 a :: u2 :: u3 :: .func (.func 18) #[] #[.pointer (some pl)] :: u5 :: u6 :: u7 :: u8 :: u9 :: .int .i64 i :: v11 :: v12 :: u13 :: u14 :: u15 :: u16 :: u17 :: u18 :: u19 :: u20 :: u21 :: u22 :: u23 :: u24 :: u25 :: u26 :: u27 :: u28 :: u29 :: u30 :: v31 :: v32 :: v33 :: v34 :: v35 :: v36 :: v37 :: v38 :: v39 :: v40 :: v41 :: v42 :: v43 :: v44 :: v45 :: v46 :: v47 :: v48 :: v49 :: v50 :: v51 :: v52 :: v53 :: u54 :: u55 :: u56 :: u57 :: u58 :: u59 :: u60 :: u61 :: u62 :: u63 :: u64 :: u65 :: u66 :: u67 :: u68 :: u69 :: u70 :: u71 :: u72 :: u73 :: u74 :: u75 :: u76 :: u77 :: u78 :: u79 :: u80 :: u81 :: u82 :: u83 :: u84 :: u85 :: u86 :: u87 :: u88 :: u89 :: u90 :: u91 :: u92 :: u93 :: u94 :: u95 :: u96 :: u97 :: u98 :: u99 :: u100 :: u101 :: u102 :: u103 :: u104 :: u105 :: u106 :: u107 :: u108 :: u109 :: u110 :: u111 :: u112 :: u113 :: u114 :: u115 :: u116 :: u117 :: u118 :: u119 :: u120 :: u121 :: u122 :: u123 :: u124 :: u125 :: u126 :: u127 :: u128 :: u129 :: u130 :: u131 :: u132 :: u133 :: u134 :: u135 :: u136 :: u137 :: u138 :: u139 :: u140 :: u141 :: u142 :: u143 :: u144 :: u145 :: u146 :: u147 :: u148 :: u149 :: u150 :: u151 :: u152 :: u153 :: u154 :: u155 :: u156 :: u157 :: u158 :: u159 :: u160 :: u161 :: u162 :: u163 :: u164 :: u165 :: u166 :: u167 :: u168 :: u169 :: u170 :: u171 :: u172 :: u173 :: u174 :: u175 :: u176 :: u177 :: u178 :: u179 :: u180 :: u181 :: u182 :: u183 :: u184 :: u185 :: u186 :: u187 :: u188 :: u189 :: u190 :: u191 :: u192 :: u193 :: u194 :: u195 :: u196 :: u197 :: u198 :: u199 :: u200 :: u201 :: u202 :: u203 :: u204 :: u205 :: u206 :: u207 :: u208 :: u209 :: u210 :: u211 :: u212 :: u213 :: u214 :: u215 :: u216 :: u217 :: u218 :: u219 :: []).toArray, []⟩ w') :
    Code.wp Try.prog sm0C Q ⟨(.slice (some ⟨g, o, none⟩) n c :: .int .i64 a :: u2 :: u3 :: .func (.func 18) #[] #[.pointer (some pl)] :: u5 :: u6 :: u7 :: u8 :: u9 :: .int .i64 m :: .int .i64 b :: u12 :: u13 :: u14 :: u15 :: u16 :: u17 :: u18 :: u19 :: u20 :: u21 :: u22 :: u23 :: u24 :: u25 :: u26 :: u27 :: u28 :: u29 :: u30 :: u31 :: u32 :: u33 :: u34 :: u35 :: u36 :: u37 :: u38 :: u39 :: u40 :: u41 :: u42 :: u43 :: u44 :: u45 :: u46 :: u47 :: u48 :: u49 :: u50 :: u51 :: u52 :: u53 :: u54 :: u55 :: u56 :: u57 :: u58 :: u59 :: u60 :: u61 :: u62 :: u63 :: u64 :: u65 :: u66 :: u67 :: u68 :: u69 :: u70 :: u71 :: u72 :: u73 :: u74 :: u75 :: u76 :: u77 :: u78 :: u79 :: u80 :: u81 :: u82 :: u83 :: u84 :: u85 :: u86 :: u87 :: u88 :: u89 :: u90 :: u91 :: u92 :: u93 :: u94 :: u95 :: u96 :: u97 :: u98 :: u99 :: u100 :: u101 :: u102 :: u103 :: u104 :: u105 :: u106 :: u107 :: u108 :: u109 :: u110 :: u111 :: u112 :: u113 :: u114 :: u115 :: u116 :: u117 :: u118 :: u119 :: u120 :: u121 :: u122 :: u123 :: u124 :: u125 :: u126 :: u127 :: u128 :: u129 :: u130 :: u131 :: u132 :: u133 :: u134 :: u135 :: u136 :: u137 :: u138 :: u139 :: u140 :: u141 :: u142 :: u143 :: u144 :: u145 :: u146 :: u147 :: u148 :: u149 :: u150 :: u151 :: u152 :: u153 :: u154 :: u155 :: u156 :: u157 :: u158 :: u159 :: u160 :: u161 :: u162 :: u163 :: u164 :: u165 :: u166 :: u167 :: u168 :: u169 :: u170 :: u171 :: u172 :: u173 :: u174 :: u175 :: u176 :: u177 :: u178 :: u179 :: u180 :: u181 :: u182 :: u183 :: u184 :: u185 :: u186 :: u187 :: u188 :: u189 :: u190 :: u191 :: u192 :: u193 :: u194 :: u195 :: u196 :: u197 :: u198 :: u199 :: u200 :: u201 :: u202 :: u203 :: u204 :: u205 :: u206 :: u207 :: u208 :: u209 :: u210 :: u211 :: u212 :: u213 :: u214 :: u215 :: u216 :: u217 :: u218 :: u219 :: []).toArray, []⟩ w := by
  have HEX := Lib.hid hexit
  clear hexit
  conv => arg 2; whnf
  go_loopg [10, 11] (b - m) (fun g' iv jv wz => ∃ (i j : Nat), g' = j - i ∧ m ≤ i ∧ i ≤ j ∧ j ≤ b ∧ iv = .int .i64 i ∧ jv = .int .i64 j ∧ (m < i → LL κ (xs (i - 1)) (xs a)) ∧ (j < b → LL κ (xs a) (xs j)) ∧ Chg Nil w wz)
  case atStart => exact ⟨m, b, rfl, Nat.le_refl _, hmb, Nat.le_refl _, rfl, rfl, fun h => absurd h (by omega), fun h => absurd h (by omega), Chg.refl _ _⟩
  case round =>
    obtain ⟨i, j, hg, h1, h2, h3, rfl, rfl, hlo, hhi, hc⟩ := hrel
    have HG := Lib.hid hg
    have HLO := Lib.hid hlo
    have HHI := Lib.hid hhi
    have HCH := Lib.hid hc
    clear hg hlo hhi hc
    by_cases hlt : i < j
    · have hw1 := IntWalk.i64_in ((i : Int) + (j : Int)) (by omega)
      obtain ⟨h, hh⟩ : ∃ h, h = (i + j) / 2 := ⟨_, rfl⟩
      have hh1 : ((i : Int) + (j : Int)) / 2 = (h : Int) := by omega
      have hh2 : i ≤ h := by omega
      have hh3 : h < j := by omega
      have hx := HX.out h (by omega) (by omega)
      have HXX := Lib.hid hx
      clear hx hh
      go_upto_region 5 with fail
      refine cmM_piece g o n c pl κ V xs a h wr _ (by exact Lib.hid (fun c t a w h => HQP.out c t a w h)) (by omega) (by omega) hn (Lib.hid (HC.out.next (HCH.out.mono (fun _ _ h => absurd h (fun h => h))))) (HR.out.chg HCH.out (fun h => h)) HV.out ?_
      intro v40 v41 v42 v43 v44 v45 v46 v47 v48 v49 rb w1 hrb hc1
      have HRB := Lib.hid hrb
      have HC1 := Lib.hid (HCH.out.trans hc1 (fun _ _ h => h))
      have hw2 := IntWalk.i64_in ((h : Int) + 1) (by omega)
      clear hrb hc1
      cases rb with
      | false =>
        go_wp2
        go_roundg (h - i)
        case measure => have := HG.out; omega
        case rel => exact ⟨i, h, rfl, h1, by omega, by omega, rfl, rfl, HLO.out, fun _ => (LL.key' HXX.out).2 (fun h => absurd (HRB.out.2 h) (by decide)), HC1.out⟩
      | true =>
        go_wp2
        go_roundg (j - (h + 1))
        case measure => have := HG.out; omega
        case rel => exact ⟨h + 1, j, rfl, by omega, by omega, by omega, by go_num, rfl, fun _ => (LL.key HXX.out).2 (HRB.out.1 (by simp)), HHI.out, HC1.out⟩
    · obtain rfl : i = j := by omega
      go_wp2
      exact HEX.out _ _ _ _ _ _ _ _ _ _ _ _ _ _ _ _ _ _ _ _ _ _ _ _ _ i wr h1 h3 HLO.out HHI.out HCH.out

noncomputable def sm4C : Code := codeOr (Try.f57.body.bind (blockIn 4))
set_option maxRecDepth 100000 in
set_option maxHeartbeats 4000000 in
theorem sm4_in (g o n c a m : Nat) (pl : Addr) (κ : Int → Int) (V : Int → Prop) (xs : Nat → Int) (w : World) {u1 u3 u5 u6 u7 u8 u9 u10 u11 u12 u13 u16 u17 u18 u19 u20 u21 u22 u23 u24 u25 u26 u27 u28 u29 u30 u31 u32 u33 u34 u35 u36 u37 u38 u39 u40 u41 u42 u43 u44 u45 u46 u47 u48 u49 u50 u51 u52 u53 u54 u55 u56 u57 u58 u59 u60 u61 u62 u63 u64 u65 u66 u67 u68 u69 u70 u71 u72 u73 u74 u75 u76 u77 u78 u79 u80 u81 u82 u83 u84 u85 u86 u87 u88 u89 u90 u91 u92 u93 u94 u95 u96 u97 u98 u99 u100 u101 u102 u103 u104 u105 u106 u107 u108 u109 u110 u111 u112 u113 u114 u115 u116 u117 u118 u119 u120 u121 u122 u123 u124 u125 u126 u127 u128 u129 u130 u131 u132 u133 u134 u135 u136 u137 u138 u139 u140 u141 u142 u143 u144 u145 u146 u147 u148 u149 u150 u151 u152 u153 u154 u155 u156 u157 u158 u159 u160 u161 u162 u163 u164 u165 u166 u167 u168 u169 u170 u171 u172 u173 u174 u175 u176 u177 u178 u179 u180 u181 u182 u183 u184 u185 u186 u187 u188 u189 u190 u191 u192 u193 u194 u195 u196 u197 u198 u199 u200 u201 u202 u203 u204 u205 u206 u207 u208 u209 u210 u211 u212 u213 u214 u215 u216 u217 u218 u219 : Value} (Q : Exit → Act → World → Prop) (HQP : Hid (∀ c t (a : Act) w, Q (.panic c) ⟨t, a.defers⟩ w → Q (.panic c) a w))
    (ham : a ≤ m) (hm : m < n) (hn : n ≤ 1152921504606) (HC : Hid (Cmp w g pl κ V)) (HR : Hid (RowI w g o n xs)) (HV : Hid (Vs V n xs)) (HX : Hid (∀ t, a ≤ t → t < m → xs t < xs m))
    (hexit : ∀ (v15 v16 v83 v84 v85 v86 v87 v88 v89 v90 v91 v92 v93 v94 v95 v96 v97 v98 v99 v100 v101 v102 v103 v104 v105 v106 : Value) (i : Nat) (w' : World), a ≤ i → i ≤ m → (a < i → LL κ (xs (i - 1)) (xs m)) → (i < m → LL κ (xs m) (xs i)) → Chg Nil w w' → Q (.exit 4) ⟨(.slice (some ⟨g, o, none⟩) n c :: u1 :: .int .i64 m :: u3 :: .func (.func 18) #[] #[.pointer (some pl)] :: u5 :: u6 :: u7 :: u8 :: u9 :: u10 :: u11 :: u12 :: u13 :: .int .i64 i :: v15 :: v16 :: u17 :: u18 :: u19 :: u20 :: u21 :: u22 :: u23 :: u24 :: u25 :: u26 :: u27 :: u28 :: u29 :: u30 :: u31 :: u32 :: u33 :: u34 :: u35 :: u36 :: u37 :: u38 :: u39 :: u40 :: u41 :: u42 :: u43 :: u44 :: u45 :: u46 :: u47 :: u48 :: u49 :: u50 :: u51 :: u52 :: u53 :: u54 :: u55 :: u56 :: u57 :: u58 :: u59 :: u60 :: u61 :: u62 :: u63 :: u64 :: u65 :: u66 :: u67 :: u68 :: u69 :: u70 :: u71 :: u72 :: u73 :: u74 :: u75 :: u76 :: u77 :: u78 :: u79 :: u80 :: u81 :: u82 :: v83 :: v84 :: v85 :: v86 :: v87 :: v88 :: v89 :: v90 :: v91 :: v92 :: v93 :: v94 :: v95 :: v96 :: v97 :: v98 :: v99 :: v100 :: v101 :: v102 :: v103 :: v104 :: v105 :: v106 :: u107 :: u108 :: u109 :: u110 :: u111 :: u112 :: u113 :: u114 :: u115 :: u116 :: u117 :: u118 :: u119 :: u120 :: u121 :: u122 :: u123 :: u124 :: u125 :: u126 :: u127 :: u128 :: u129 :: u130 :: u131 :: u132 :: u133 :: u134 :: u135 :: u136 :: u137 :: u138 :: u139 :: u140 :: u141 :: u142 :: u143 :: u144 :: u145 :: u146 :: u147 :: u148 :: u149 :: u150 :: u151 :: u152 :: u153 :: u154 :: u155 :: u156 :: u157 :: u158 :: u159 :: u160 :: u161 :: u162 :: u163 :: u164 :: u165 :: u166 :: u167 :: u168 :: u169 :: u170 :: u171 :: u172 :: u173 :: u174 :: u175 :: u176 :: u177 :: u178 :: u179 :: u180 :: u181 :: u182 :: u183 :: u184 :: u185 :: u186 :: u187 :: u188 :: u189 :: u190 :: u191 :: u192 :: u193 :: u194 :: u195 :: u196 :: u197 :: u198 :: u199 :: u200 :: u201 :: u202 :: u203 :: u204 :: u205 :: u206 :: u207 :: u208 :: u209 :: u210 :: u211 :: u212 :: u213 :: u214 :: u215 :: u216 :: u217 :: u218 :: u219 :: []).toArray, []⟩ w') :
    Code.wp Try.prog sm4C Q ⟨(.slice (some ⟨g, o, none⟩) n c :: u1 :: .int .i64 m :: u3 :: .func (.func 18) #[] #[.pointer (some pl)] :: u5 :: u6 :: u7 :: u8 :: u9 :: u10 :: u11 :: u12 :: u13 :: .int .i64 a :: .int .i64 m :: u16 :: u17 :: u18 :: u19 :: u20 :: u21 :: u22 :: u23 :: u24 :: u25 :: u26 :: u27 :: u28 :: u29 :: u30 :: u31 :: u32 :: u33 :: u34 :: u35 :: u36 :: u37 :: u38 :: u39 :: u40 :: u41 :: u42 :: u43 :: u44 :: u45 :: u46 :: u47 :: u48 :: u49 :: u50 :: u51 :: u52 :: u53 :: u54 :: u55 :: u56 :: u57 :: u58 :: u59 :: u60 :: u61 :: u62 :: u63 :: u64 :: u65 :: u66 :: u67 :: u68 :: u69 :: u70 :: u71 :: u72 :: u73 :: u74 :: u75 :: u76 :: u77 :: u78 :: u79 :: u80 :: u81 :: u82 :: u83 :: u84 :: u85 :: u86 :: u87 :: u88 :: u89 :: u90 :: u91 :: u92 :: u93 :: u94 :: u95 :: u96 :: u97 :: u98 :: u99 :: u100 :: u101 :: u102 :: u103 :: u104 :: u105 :: u106 :: u107 :: u108 :: u109 :: u110 :: u111 :: u112 :: u113 :: u114 :: u115 :: u116 :: u117 :: u118 :: u119 :: u120 :: u121 :: u122 :: u123 :: u124 :: u125 :: u126 :: u127 :: u128 :: u129 :: u130 :: u131 :: u132 :: u133 :: u134 :: u135 :: u136 :: u137 :: u138 :: u139 :: u140 :: u141 :: u142 :: u143 :: u144 :: u145 :: u146 :: u147 :: u148 :: u149 :: u150 :: u151 :: u152 :: u153 :: u154 :: u155 :: u156 :: u157 :: u158 :: u159 :: u160 :: u161 :: u162 :: u163 :: u164 :: u165 :: u166 :: u167 :: u168 :: u169 :: u170 :: u171 :: u172 :: u173 :: u174 :: u175 :: u176 :: u177 :: u178 :: u179 :: u180 :: u181 :: u182 :: u183 :: u184 :: u185 :: u186 :: u187 :: u188 :: u189 :: u190 :: u191 :: u192 :: u193 :: u194 :: u195 :: u196 :: u197 :: u198 :: u199 :: u200 :: u201 :: u202 :: u203 :: u204 :: u205 :: u206 :: u207 :: u208 :: u209 :: u210 :: u211 :: u212 :: u213 :: u214 :: u215 :: u216 :: u217 :: u218 :: u219 :: []).toArray, []⟩ w := by
  have HEX := Lib.hid hexit
  clear hexit
  conv => arg 2; whnf
  go_loopg [14, 15] (m - a) (fun g' iv jv wz => ∃ (i j : Nat), g' = j - i ∧ a ≤ i ∧ i ≤ j ∧ j ≤ m ∧ iv = .int .i64 i ∧ jv = .int .i64 j ∧ (a < i → LL κ (xs (i - 1)) (xs m)) ∧ (j < m → LL κ (xs m) (xs j)) ∧ Chg Nil w wz)
  case atStart => exact ⟨a, m, rfl, Nat.le_refl _, ham, Nat.le_refl _, rfl, rfl, fun h => absurd h (by omega), fun h => absurd h (by omega), Chg.refl _ _⟩
  case round =>
    obtain ⟨i, j, hg, h1, h2, h3, rfl, rfl, hlo, hhi, hc⟩ := hrel
    have HG := Lib.hid hg
    have HLO := Lib.hid hlo
    have HHI := Lib.hid hhi
    have HCH := Lib.hid hc
    clear hg hlo hhi hc
    by_cases hlt : i < j
    · have hw1 := IntWalk.i64_in ((i : Int) + (j : Int)) (by omega)
      obtain ⟨h, hh⟩ : ∃ h, h = (i + j) / 2 := ⟨_, rfl⟩
      have hh1 : ((i : Int) + (j : Int)) / 2 = (h : Int) := by omega
      have hh2 : i ≤ h := by omega
      have hh3 : h < j := by omega
      have hx := HX.out h (by omega) (by omega)
      have HXX := Lib.hid hx
      clear hx hh
      go_upto_region 17 with fail
      refine cmW_piece g o n c pl κ V xs m h wr _ (by exact Lib.hid (fun c t a w h => HQP.out c t a w h)) (by omega) (by omega) hn (Lib.hid (HC.out.next (HCH.out.mono (fun _ _ h => absurd h (fun h => h))))) (HR.out.chg HCH.out (fun h => h)) HV.out ?_
      intro v92 v93 v94 v95 v96 v97 v98 v99 v100 v101 v102 rb w1 hrb hc1
      have HRB := Lib.hid hrb
      have HC1 := Lib.hid (HCH.out.trans hc1 (fun _ _ h => h))
      have hw2 := IntWalk.i64_in ((h : Int) + 1) (by omega)
      clear hrb hc1
      cases rb with
      | true =>
        simp only [Bool.not_true]
        go_wp2
        go_roundg (h - i)
        case measure => have := HG.out; omega
        case rel => exact ⟨i, h, rfl, h1, by omega, by omega, rfl, rfl, HLO.out, fun _ => (LL.key HXX.out).2 (HRB.out.1 (by simp)), HC1.out⟩
      | false =>
        simp only [Bool.not_false]
        go_wp2
        go_roundg (j - (h + 1))
        case measure => have := HG.out; omega
        case rel => exact ⟨h + 1, j, rfl, by omega, by omega, by omega, by go_num, rfl, fun _ => (LL.key' HXX.out).2 (fun h => absurd (HRB.out.2 h) (by decide)), HHI.out, HC1.out⟩
    · obtain rfl : i = j := by omega
      go_wp2
      exact HEX.out _ _ _ _ _ _ _ _ _ _ _ _ _ _ _ _ _ _ _ _ _ _ _ _ _ _ i wr h1 h3 HLO.out HHI.out HCH.out

noncomputable def sm8C : Code := codeOr (Try.f57.body.bind (blockIn 8))
set_option maxRecDepth 100000 in
set_option maxHeartbeats 4000000 in
theorem sm8_in (g o n c m q p lo hi : Nat) (pl : Addr) (κ : Int → Int) (V : Int → Prop) (xs : Nat → Int) (w : World) {u1 u2 u3 u5 u6 u7 u8 u9 u10 u11 u12 u13 u14 u15 u16 u17 u18 u19 u23 u24 u25 u26 u27 u28 u29 u30 u31 u32 u33 u34 u35 u36 u37 u38 u39 u40 u41 u42 u43 u44 u45 u46 u47 u48 u49 u50 u51 u52 u53 u54 u55 u56 u57 u58 u59 u60 u61 u62 u63 u64 u65 u66 u67 u68 u69 u70 u71 u72 u73 u74 u75 u76 u77 u78 u79 u80 u81 u82 u83 u84 u85 u86 u87 u88 u89 u90 u91 u92 u93 u94 u95 u96 u97 u98 u99 u100 u101 u102 u103 u104 u105 u106 u107 u108 u109 u110 u111 u112 u113 u114 u115 u116 u117 u118 u119 u120 u121 u122 u123 u124 u125 u126 u127 u128 u129 u130 u131 u132 u133 u134 u135 u136 u137 u138 u139 u140 u141 u142 u143 u144 u145 u146 u147 u148 u149 u150 u151 u152 u153 u154 u155 u156 u157 u158 u159 u160 u161 u162 u163 u164 u165 u166 u167 u168 u169 u170 u171 u172 u173 u174 u175 u176 u177 u178 u179 u180 u181 u182 u183 u184 u185 u186 u187 u188 u189 u190 u191 u192 u193 u194 u195 u196 u197 u198 u199 u200 u201 u202 u203 u204 u205 u206 u207 u208 u209 u210 u211 u212 u213 u214 u215 u216 u217 u218 u219 : Value} (Q : Exit → Act → World → Prop) (HQP : Hid (∀ c t (a : Act) w, Q (.panic c) ⟨t, a.defers⟩ w → Q (.panic c) a w))
    (hlh : lo ≤ hi) (hq : q = p + 1) (hpn : p ≤ 4611686018427) (hhn : hi ≤ 1152921504606) (hn : n ≤ 1152921504606) (HC : Hid (Cmp w g pl κ V)) (HR : Hid (RowI w g o n xs)) (HV : Hid (Vs V n xs)) (HX : Hid (∀ t, lo ≤ t → t < hi → t < n ∧ t ≤ p ∧ p - t < n ∧ xs t < xs (p - t)))
    (hexit : ∀ (v21 v23 v149 v150 v151 v152 v153 v154 v155 v156 v157 v158 v159 v160 v161 v162 v163 v164 v165 v166 v167 v168 v169 v170 v171 v172 v173 v174 : Value) (s : Nat) (w' : World), Fnd κ m q lo hi xs s s → Chg Nil w w' → Q (.exit 8) ⟨(.slice (some ⟨g, o, none⟩) n c :: u1 :: u2 :: u3 :: .func (.func 18) #[] #[.pointer (some pl)] :: u5 :: u6 :: u7 :: u8 :: u9 :: u10 :: u11 :: u12 :: u13 :: u14 :: u15 :: u16 :: u17 :: u18 :: u19 :: .int .i64 s :: v21 :: .int .i64 p :: v23 :: u24 :: u25 :: u26 :: u27 :: u28 :: u29 :: u30 :: u31 :: u32 :: u33 :: u34 :: u35 :: u36 :: u37 :: u38 :: u39 :: u40 :: u41 :: u42 :: u43 :: u44 :: u45 :: u46 :: u47 :: u48 :: u49 :: u50 :: u51 :: u52 :: u53 :: u54 :: u55 :: u56 :: u57 :: u58 :: u59 :: u60 :: u61 :: u62 :: u63 :: u64 :: u65 :: u66 :: u67 :: u68 :: u69 :: u70 :: u71 :: u72 :: u73 :: u74 :: u75 :: u76 :: u77 :: u78 :: u79 :: u80 :: u81 :: u82 :: u83 :: u84 :: u85 :: u86 :: u87 :: u88 :: u89 :: u90 :: u91 :: u92 :: u93 :: u94 :: u95 :: u96 :: u97 :: u98 :: u99 :: u100 :: u101 :: u102 :: u103 :: u104 :: u105 :: u106 :: u107 :: u108 :: u109 :: u110 :: u111 :: u112 :: u113 :: u114 :: u115 :: u116 :: u117 :: u118 :: u119 :: u120 :: u121 :: u122 :: u123 :: u124 :: u125 :: u126 :: u127 :: u128 :: u129 :: u130 :: u131 :: u132 :: u133 :: u134 :: u135 :: u136 :: u137 :: u138 :: u139 :: u140 :: u141 :: u142 :: u143 :: u144 :: u145 :: u146 :: u147 :: u148 :: v149 :: v150 :: v151 :: v152 :: v153 :: v154 :: v155 :: v156 :: v157 :: v158 :: v159 :: v160 :: v161 :: v162 :: v163 :: v164 :: v165 :: v166 :: v167 :: v168 :: v169 :: v170 :: v171 :: v172 :: v173 :: v174 :: u175 :: u176 :: u177 :: u178 :: u179 :: u180 :: u181 :: u182 :: u183 :: u184 :: u185 :: u186 :: u187 :: u188 :: u189 :: u190 :: u191 :: u192 :: u193 :: u194 :: u195 :: u196 :: u197 :: u198 :: u199 :: u200 :: u201 :: u202 :: u203 :: u204 :: u205 :: u206 :: u207 :: u208 :: u209 :: u210 :: u211 :: u212 :: u213 :: u214 :: u215 :: u216 :: u217 :: u218 :: u219 :: []).toArray, []⟩ w') :
    Code.wp Try.prog sm8C Q ⟨(.slice (some ⟨g, o, none⟩) n c :: u1 :: u2 :: u3 :: .func (.func 18) #[] #[.pointer (some pl)] :: u5 :: u6 :: u7 :: u8 :: u9 :: u10 :: u11 :: u12 :: u13 :: u14 :: u15 :: u16 :: u17 :: u18 :: u19 :: .int .i64 lo :: .int .i64 hi :: .int .i64 p :: u23 :: u24 :: u25 :: u26 :: u27 :: u28 :: u29 :: u30 :: u31 :: u32 :: u33 :: u34 :: u35 :: u36 :: u37 :: u38 :: u39 :: u40 :: u41 :: u42 :: u43 :: u44 :: u45 :: u46 :: u47 :: u48 :: u49 :: u50 :: u51 :: u52 :: u53 :: u54 :: u55 :: u56 :: u57 :: u58 :: u59 :: u60 :: u61 :: u62 :: u63 :: u64 :: u65 :: u66 :: u67 :: u68 :: u69 :: u70 :: u71 :: u72 :: u73 :: u74 :: u75 :: u76 :: u77 :: u78 :: u79 :: u80 :: u81 :: u82 :: u83 :: u84 :: u85 :: u86 :: u87 :: u88 :: u89 :: u90 :: u91 :: u92 :: u93 :: u94 :: u95 :: u96 :: u97 :: u98 :: u99 :: u100 :: u101 :: u102 :: u103 :: u104 :: u105 :: u106 :: u107 :: u108 :: u109 :: u110 :: u111 :: u112 :: u113 :: u114 :: u115 :: u116 :: u117 :: u118 :: u119 :: u120 :: u121 :: u122 :: u123 :: u124 :: u125 :: u126 :: u127 :: u128 :: u129 :: u130 :: u131 :: u132 :: u133 :: u134 :: u135 :: u136 :: u137 :: u138 :: u139 :: u140 :: u141 :: u142 :: u143 :: u144 :: u145 :: u146 :: u147 :: u148 :: u149 :: u150 :: u151 :: u152 :: u153 :: u154 :: u155 :: u156 :: u157 :: u158 :: u159 :: u160 :: u161 :: u162 :: u163 :: u164 :: u165 :: u166 :: u167 :: u168 :: u169 :: u170 :: u171 :: u172 :: u173 :: u174 :: u175 :: u176 :: u177 :: u178 :: u179 :: u180 :: u181 :: u182 :: u183 :: u184 :: u185 :: u186 :: u187 :: u188 :: u189 :: u190 :: u191 :: u192 :: u193 :: u194 :: u195 :: u196 :: u197 :: u198 :: u199 :: u200 :: u201 :: u202 :: u203 :: u204 :: u205 :: u206 :: u207 :: u208 :: u209 :: u210 :: u211 :: u212 :: u213 :: u214 :: u215 :: u216 :: u217 :: u218 :: u219 :: []).toArray, []⟩ w := by
  have HEX := Lib.hid hexit
  have HQ := Lib.hid hq
  clear hexit hq
  conv => arg 2; whnf
  go_loopg [20, 21] (hi - lo) (fun g' iv jv wz => ∃ (i j : Nat), g' = j - i ∧ i ≤ j ∧ j ≤ hi ∧ lo ≤ i ∧ iv = .int .i64 i ∧ jv = .int .i64 j ∧ Fnd κ m q lo hi xs i j ∧ Chg Nil w wz)
  case atStart => exact ⟨lo, hi, rfl, hlh, Nat.le_refl _, Nat.le_refl _, rfl, rfl, ⟨Nat.le_refl _, hlh, Nat.le_refl _, fun h => absurd h (by omega), fun h => absurd h (by omega)⟩, Chg.refl _ _⟩
  case round =>
    obtain ⟨i, j, hg, h1, h2, h3, rfl, rfl, hf, hc⟩ := hrel
    have HG := Lib.hid hg
    have HF := Lib.hid hf
    have HCH := Lib.hid hc
    clear hg hf hc
    by_cases hlt : i < j
    · have hw1 := IntWalk.i64_in ((i : Int) + (j : Int)) (by omega)
      obtain ⟨h, hh⟩ : ∃ h, h = (i + j) / 2 := ⟨_, rfl⟩
      have hh1 : ((i : Int) + (j : Int)) / 2 = (h : Int) := by omega
      have hh2 : i ≤ h := by omega
      have hh3 : h < j := by omega
      obtain ⟨x1, x2, x3, hx⟩ := HX.out h (by omega) (by omega)
      have HXX := Lib.hid hx
      clear hx hh
      go_upto_region 35 with fail
      refine cmS_piece g o n c pl κ V xs p h wr _ (by exact Lib.hid (fun c t a w h => HQP.out c t a w h)) x3 x1 hn x2 hpn (Lib.hid (HC.out.next (HCH.out.mono (fun _ _ h => absurd h (fun h => h))))) (HR.out.chg HCH.out (fun h => h)) HV.out ?_
      intro v158 v159 v160 v161 v162 v163 v164 v165 v166 v167 v168 v169 v170 rb w1 hrb hc1
      have HRB := Lib.hid hrb
      have HC1 := Lib.hid (HCH.out.trans hc1 (fun _ _ h => h))
      have hw2 := IntWalk.i64_in ((h : Int) + 1) (by omega)
      clear hrb hc1
      cases rb with
      | true =>
        simp only [Bool.not_true]
        go_wp2
        go_roundg (h - i)
        case measure => have := HG.out; omega
        case rel => exact ⟨i, h, rfl, hh2, by omega, h3, rfl, rfl, ⟨HF.out.lo_, hh2, by omega, HF.out.below, fun _ => by rw [HQ.out, show p + 1 - 1 - h = p - h by omega]; exact (LL.key HXX.out).2 (HRB.out.1 (by simp))⟩, HC1.out⟩
      | false =>
        simp only [Bool.not_false]
        go_wp2
        go_roundg (j - (h + 1))
        case measure => have := HG.out; omega
        case rel => exact ⟨h + 1, j, rfl, by omega, by omega, by omega, by go_num, rfl, ⟨by omega, by omega, HF.out.hi_, fun _ => by rw [HQ.out, show p + 1 - (h + 1) = p - h by omega]; exact (LL.key' HXX.out).2 (fun h => absurd (HRB.out.2 h) (by decide)), HF.out.above⟩, HC1.out⟩
    · obtain rfl : i = j := by omega
      go_wp2
      exact HEX.out _ _ _ _ _ _ _ _ _ _ _ _ _ _ _ _ _ _ _ _ _ _ _ _ _ _ _ _ i wr HF.out HCH.out

noncomputable def sm2C : Code := codeOr (Try.f57.body.bind (blockIn 2))
set_option maxRecDepth 100000 in
set_option maxHeartbeats 4000000 in
theorem sm2_in (g o n c a i : Nat) (xs : Nat → Int) (w : World) {u1 u2 u3 u4 u5 u6 u7 u8 u9 u11 u12 u14 u15 u16 u17 u18 u19 u20 u21 u22 u23 u24 u25 u26 u27 u28 u29 u30 u31 u32 u33 u34 u35 u36 u37 u38 u39 u40 u41 u42 u43 u44 u45 u46 u47 u48 u49 u50 u51 u52 u53 u54 u55 u56 u57 u58 u59 u60 u61 u62 u63 u64 u65 u66 u67 u68 u69 u70 u71 u72 u73 u74 u75 u76 u77 u78 u79 u80 u81 u82 u83 u84 u85 u86 u87 u88 u89 u90 u91 u92 u93 u94 u95 u96 u97 u98 u99 u100 u101 u102 u103 u104 u105 u106 u107 u108 u109 u110 u111 u112 u113 u114 u115 u116 u117 u118 u119 u120 u121 u122 u123 u124 u125 u126 u127 u128 u129 u130 u131 u132 u133 u134 u135 u136 u137 u138 u139 u140 u141 u142 u143 u144 u145 u146 u147 u148 u149 u150 u151 u152 u153 u154 u155 u156 u157 u158 u159 u160 u161 u162 u163 u164 u165 u166 u167 u168 u169 u170 u171 u172 u173 u174 u175 u176 u177 u178 u179 u180 u181 u182 u183 u184 u185 u186 u187 u188 u189 u190 u191 u192 u193 u194 u195 u196 u197 u198 u199 u200 u201 u202 u203 u204 u205 u206 u207 u208 u209 u210 u211 u212 u213 u214 u215 u216 u217 u218 u219 : Value} (Q : Exit → Act → World → Prop) (HQP : Hid (∀ c t (a : Act) w, Q (.panic c) ⟨t, a.defers⟩ w → Q (.panic c) a w))
    (hai : a + 1 ≤ i) (hi : i ≤ n) (hn : n ≤ 1152921504606) (HR : Hid (RowI w g o n xs))
    (hexit : ∀ (v13 v55 v56 v57 v58 v59 v60 v61 v62 v63 v64 v65 v66 v67 v68 v69 v70 v71 v72 v73 v74 v75 v76 : Value) (w' : World) (zs : Nat → Int), RowI w' g o n zs → Rot a (a + 1) i xs zs → Chg (One g) w w' → Q (.exit 2) ⟨(.slice (some ⟨g, o, none⟩) n c :: u1 :: u2 :: u3 :: u4 :: u5 :: u6 :: u7 :: u8 :: u9 :: .int .i64 i :: u11 :: u12 :: v13 :: u14 :: u15 :: u16 :: u17 :: u18 :: u19 :: u20 :: u21 :: u22 :: u23 :: u24 :: u25 :: u26 :: u27 :: u28 :: u29 :: u30 :: u31 :: u32 :: u33 :: u34 :: u35 :: u36 :: u37 :: u38 :: u39 :: u40 :: u41 :: u42 :: u43 :: u44 :: u45 :: u46 :: u47 :: u48 :: u49 :: u50 :: u51 :: u52 :: u53 :: u54 :: v55 :: v56 :: v57 :: v58 :: v59 :: v60 :: v61 :: v62 :: v63 :: v64 :: v65 :: v66 :: v67 :: v68 :: v69 :: v70 :: v71 :: v72 :: v73 :: v74 :: v75 :: v76 :: u77 :: u78 :: u79 :: u80 :: u81 :: u82 :: u83 :: u84 :: u85 :: u86 :: u87 :: u88 :: u89 :: u90 :: u91 :: u92 :: u93 :: u94 :: u95 :: u96 :: u97 :: u98 :: u99 :: u100 :: u101 :: u102 :: u103 :: u104 :: u105 :: u106 :: u107 :: u108 :: u109 :: u110 :: u111 :: u112 :: u113 :: u114 :: u115 :: u116 :: u117 :: u118 :: u119 :: u120 :: u121 :: u122 :: u123 :: u124 :: u125 :: u126 :: u127 :: u128 :: u129 :: u130 :: u131 :: u132 :: u133 :: u134 :: u135 :: u136 :: u137 :: u138 :: u139 :: u140 :: u141 :: u142 :: u143 :: u144 :: u145 :: u146 :: u147 :: u148 :: u149 :: u150 :: u151 :: u152 :: u153 :: u154 :: u155 :: u156 :: u157 :: u158 :: u159 :: u160 :: u161 :: u162 :: u163 :: u164 :: u165 :: u166 :: u167 :: u168 :: u169 :: u170 :: u171 :: u172 :: u173 :: u174 :: u175 :: u176 :: u177 :: u178 :: u179 :: u180 :: u181 :: u182 :: u183 :: u184 :: u185 :: u186 :: u187 :: u188 :: u189 :: u190 :: u191 :: u192 :: u193 :: u194 :: u195 :: u196 :: u197 :: u198 :: u199 :: u200 :: u201 :: u202 :: u203 :: u204 :: u205 :: u206 :: u207 :: u208 :: u209 :: u210 :: u211 :: u212 :: u213 :: u214 :: u215 :: u216 :: u217 :: u218 :: u219 :: []).toArray, []⟩ w') :
    Code.wp Try.prog sm2C Q ⟨(.slice (some ⟨g, o, none⟩) n c :: u1 :: u2 :: u3 :: u4 :: u5 :: u6 :: u7 :: u8 :: u9 :: .int .i64 i :: u11 :: u12 :: .int .i64 a :: u14 :: u15 :: u16 :: u17 :: u18 :: u19 :: u20 :: u21 :: u22 :: u23 :: u24 :: u25 :: u26 :: u27 :: u28 :: u29 :: u30 :: u31 :: u32 :: u33 :: u34 :: u35 :: u36 :: u37 :: u38 :: u39 :: u40 :: u41 :: u42 :: u43 :: u44 :: u45 :: u46 :: u47 :: u48 :: u49 :: u50 :: u51 :: u52 :: u53 :: u54 :: u55 :: u56 :: u57 :: u58 :: u59 :: u60 :: u61 :: u62 :: u63 :: u64 :: u65 :: u66 :: u67 :: u68 :: u69 :: u70 :: u71 :: u72 :: u73 :: u74 :: u75 :: u76 :: u77 :: u78 :: u79 :: u80 :: u81 :: u82 :: u83 :: u84 :: u85 :: u86 :: u87 :: u88 :: u89 :: u90 :: u91 :: u92 :: u93 :: u94 :: u95 :: u96 :: u97 :: u98 :: u99 :: u100 :: u101 :: u102 :: u103 :: u104 :: u105 :: u106 :: u107 :: u108 :: u109 :: u110 :: u111 :: u112 :: u113 :: u114 :: u115 :: u116 :: u117 :: u118 :: u119 :: u120 :: u121 :: u122 :: u123 :: u124 :: u125 :: u126 :: u127 :: u128 :: u129 :: u130 :: u131 :: u132 :: u133 :: u134 :: u135 :: u136 :: u137 :: u138 :: u139 :: u140 :: u141 :: u142 :: u143 :: u144 :: u145 :: u146 :: u147 :: u148 :: u149 :: u150 :: u151 :: u152 :: u153 :: u154 :: u155 :: u156 :: u157 :: u158 :: u159 :: u160 :: u161 :: u162 :: u163 :: u164 :: u165 :: u166 :: u167 :: u168 :: u169 :: u170 :: u171 :: u172 :: u173 :: u174 :: u175 :: u176 :: u177 :: u178 :: u179 :: u180 :: u181 :: u182 :: u183 :: u184 :: u185 :: u186 :: u187 :: u188 :: u189 :: u190 :: u191 :: u192 :: u193 :: u194 :: u195 :: u196 :: u197 :: u198 :: u199 :: u200 :: u201 :: u202 :: u203 :: u204 :: u205 :: u206 :: u207 :: u208 :: u209 :: u210 :: u211 :: u212 :: u213 :: u214 :: u215 :: u216 :: u217 :: u218 :: u219 :: []).toArray, []⟩ w := by
  have HEX := Lib.hid hexit
  clear hexit
  conv => arg 2; whnf
  go_loopg [13] (i - a) (fun g' kv wz => ∃ (k : Nat) (zs : Nat → Int), g' = i - k ∧ a ≤ k ∧ k + 1 ≤ i ∧ kv = .int .i64 k ∧ RowI wz g o n zs ∧ Rot a (a + 1) (k + 1) xs zs ∧ Chg (One g) w wz)
  case atStart => exact ⟨a, xs, rfl, Nat.le_refl _, hai, rfl, HR.out, Rot.id _ _ _, Chg.refl _ _⟩
  case round =>
    obtain ⟨k, zs, hg, h1, h2, rfl, hr, hrot, hc⟩ := hrel
    have HG := Lib.hid hg
    have HRZ := Lib.hid hr
    have HROT := Lib.hid hrot
    have HCH := Lib.hid hc
    have hw1 := IntWalk.i64_in ((i : Int) - 1) (by omega)
    clear hg hr hrot hc
    by_cases hlt : k + 1 < i
    · have hlt' : (k : Int) < (i : Int) - 1 := by omega
      have hw2 := IntWalk.i64_in ((k : Int) + 1) (by omega)
      go_upto_region 11 with fail
      refine swM_piece g o n c _ _ k wr _ (by exact Lib.hid (fun c t a w h => HQP.out c t a w h)) (by omega) (by omega) hn (by omega) (HRZ.out _ (by omega)).1 (HRZ.out _ (by omega)).1 (HRZ.out _ (by omega)).2 (HRZ.out _ (by omega)).2 ?_
      intro v61 v62 v63 v64 v65 v66 v67 v68 v69 v70 v71 v72 v73 v74 v75 v76
      obtain ⟨w2, hw2'⟩ : ∃ w2, w2 = ((wr.drew.setCell ⟨g, o + k, none⟩ (.int .i64 (zs (k + 1)))).setCell ⟨g, o + (k + 1), none⟩ (.int .i64 (zs k))) := ⟨_, rfl⟩
      rw [← hw2']
      have HW2 := Lib.hid hw2'
      clear hw2'
      go_wp2
      go_roundg (i - (k + 1))
      case measure => have := HG.out; omega
      case rel => exact ⟨k + 1, sw2 k (k + 1) zs, rfl, by omega, by omega, by go_num, by rw [HW2.out]; exact HRZ.out.drew.swap (by omega) (by omega), rot_up h1 HROT.out, by rw [HW2.out]; exact HCH.out.trans (((Chg.refl (One g) _).drew.setCell (p := ⟨g, _, none⟩) (fun _ => rfl) _).setCell (p := ⟨g, _, none⟩) (fun _ => rfl) _) (fun _ _ h => h)⟩
    · have hlt' : ¬ (k : Int) < (i : Int) - 1 := by omega
      have e : k + 1 = i := by omega
      have HROT' : Hid (Rot a (a + 1) i xs zs) := Lib.hid (by rw [← e]; exact HROT.out)
      clear e
      go_wp2
      exact HEX.out _ _ _ _ _ _ _ _ _ _ _ _ _ _ _ _ _ _ _ _ _ _ _ wr zs HRZ.out HROT'.out HCH.out

noncomputable def sm6C : Code := codeOr (Try.f57.body.bind (blockIn 6))
set_option maxRecDepth 100000 in
set_option maxHeartbeats 4000000 in
theorem sm6_in (g o n c m i : Nat) (xs : Nat → Int) (w : World) {u1 u2 u3 u4 u5 u6 u7 u8 u9 u10 u11 u12 u13 u15 u16 u18 u19 u20 u21 u22 u23 u24 u25 u26 u27 u28 u29 u30 u31 u32 u33 u34 u35 u36 u37 u38 u39 u40 u41 u42 u43 u44 u45 u46 u47 u48 u49 u50 u51 u52 u53 u54 u55 u56 u57 u58 u59 u60 u61 u62 u63 u64 u65 u66 u67 u68 u69 u70 u71 u72 u73 u74 u75 u76 u77 u78 u79 u80 u81 u82 u83 u84 u85 u86 u87 u88 u89 u90 u91 u92 u93 u94 u95 u96 u97 u98 u99 u100 u101 u102 u103 u104 u105 u106 u107 u108 u109 u110 u111 u112 u113 u114 u115 u116 u117 u118 u119 u120 u121 u122 u123 u124 u125 u126 u127 u128 u129 u130 u131 u132 u133 u134 u135 u136 u137 u138 u139 u140 u141 u142 u143 u144 u145 u146 u147 u148 u149 u150 u151 u152 u153 u154 u155 u156 u157 u158 u159 u160 u161 u162 u163 u164 u165 u166 u167 u168 u169 u170 u171 u172 u173 u174 u175 u176 u177 u178 u179 u180 u181 u182 u183 u184 u185 u186 u187 u188 u189 u190 u191 u192 u193 u194 u195 u196 u197 u198 u199 u200 u201 u202 u203 u204 u205 u206 u207 u208 u209 u210 u211 u212 u213 u214 u215 u216 u217 u218 u219 : Value} (Q : Exit → Act → World → Prop) (HQP : Hid (∀ c t (a : Act) w, Q (.panic c) ⟨t, a.defers⟩ w → Q (.panic c) a w))
    (him : i ≤ m) (hm : m < n) (hn : n ≤ 1152921504606) (HR : Hid (RowI w g o n xs))
    (hexit : ∀ (v17 v108 v109 v110 v111 v112 v113 v114 v115 v116 v117 v118 v119 v120 v121 v122 v123 v124 v125 v126 v127 v128 : Value) (w' : World) (zs : Nat → Int), RowI w' g o n zs → Rot i m (m + 1) xs zs → Chg (One g) w w' → Q (.exit 6) ⟨(.slice (some ⟨g, o, none⟩) n c :: u1 :: u2 :: u3 :: u4 :: u5 :: u6 :: u7 :: u8 :: u9 :: u10 :: u11 :: u12 :: u13 :: .int .i64 i :: u15 :: u16 :: v17 :: u18 :: u19 :: u20 :: u21 :: u22 :: u23 :: u24 :: u25 :: u26 :: u27 :: u28 :: u29 :: u30 :: u31 :: u32 :: u33 :: u34 :: u35 :: u36 :: u37 :: u38 :: u39 :: u40 :: u41 :: u42 :: u43 :: u44 :: u45 :: u46 :: u47 :: u48 :: u49 :: u50 :: u51 :: u52 :: u53 :: u54 :: u55 :: u56 :: u57 :: u58 :: u59 :: u60 :: u61 :: u62 :: u63 :: u64 :: u65 :: u66 :: u67 :: u68 :: u69 :: u70 :: u71 :: u72 :: u73 :: u74 :: u75 :: u76 :: u77 :: u78 :: u79 :: u80 :: u81 :: u82 :: u83 :: u84 :: u85 :: u86 :: u87 :: u88 :: u89 :: u90 :: u91 :: u92 :: u93 :: u94 :: u95 :: u96 :: u97 :: u98 :: u99 :: u100 :: u101 :: u102 :: u103 :: u104 :: u105 :: u106 :: u107 :: v108 :: v109 :: v110 :: v111 :: v112 :: v113 :: v114 :: v115 :: v116 :: v117 :: v118 :: v119 :: v120 :: v121 :: v122 :: v123 :: v124 :: v125 :: v126 :: v127 :: v128 :: u129 :: u130 :: u131 :: u132 :: u133 :: u134 :: u135 :: u136 :: u137 :: u138 :: u139 :: u140 :: u141 :: u142 :: u143 :: u144 :: u145 :: u146 :: u147 :: u148 :: u149 :: u150 :: u151 :: u152 :: u153 :: u154 :: u155 :: u156 :: u157 :: u158 :: u159 :: u160 :: u161 :: u162 :: u163 :: u164 :: u165 :: u166 :: u167 :: u168 :: u169 :: u170 :: u171 :: u172 :: u173 :: u174 :: u175 :: u176 :: u177 :: u178 :: u179 :: u180 :: u181 :: u182 :: u183 :: u184 :: u185 :: u186 :: u187 :: u188 :: u189 :: u190 :: u191 :: u192 :: u193 :: u194 :: u195 :: u196 :: u197 :: u198 :: u199 :: u200 :: u201 :: u202 :: u203 :: u204 :: u205 :: u206 :: u207 :: u208 :: u209 :: u210 :: u211 :: u212 :: u213 :: u214 :: u215 :: u216 :: u217 :: u218 :: u219 :: []).toArray, []⟩ w') :
    Code.wp Try.prog sm6C Q ⟨(.slice (some ⟨g, o, none⟩) n c :: u1 :: u2 :: u3 :: u4 :: u5 :: u6 :: u7 :: u8 :: u9 :: u10 :: u11 :: u12 :: u13 :: .int .i64 i :: u15 :: u16 :: .int .i64 m :: u18 :: u19 :: u20 :: u21 :: u22 :: u23 :: u24 :: u25 :: u26 :: u27 :: u28 :: u29 :: u30 :: u31 :: u32 :: u33 :: u34 :: u35 :: u36 :: u37 :: u38 :: u39 :: u40 :: u41 :: u42 :: u43 :: u44 :: u45 :: u46 :: u47 :: u48 :: u49 :: u50 :: u51 :: u52 :: u53 :: u54 :: u55 :: u56 :: u57 :: u58 :: u59 :: u60 :: u61 :: u62 :: u63 :: u64 :: u65 :: u66 :: u67 :: u68 :: u69 :: u70 :: u71 :: u72 :: u73 :: u74 :: u75 :: u76 :: u77 :: u78 :: u79 :: u80 :: u81 :: u82 :: u83 :: u84 :: u85 :: u86 :: u87 :: u88 :: u89 :: u90 :: u91 :: u92 :: u93 :: u94 :: u95 :: u96 :: u97 :: u98 :: u99 :: u100 :: u101 :: u102 :: u103 :: u104 :: u105 :: u106 :: u107 :: u108 :: u109 :: u110 :: u111 :: u112 :: u113 :: u114 :: u115 :: u116 :: u117 :: u118 :: u119 :: u120 :: u121 :: u122 :: u123 :: u124 :: u125 :: u126 :: u127 :: u128 :: u129 :: u130 :: u131 :: u132 :: u133 :: u134 :: u135 :: u136 :: u137 :: u138 :: u139 :: u140 :: u141 :: u142 :: u143 :: u144 :: u145 :: u146 :: u147 :: u148 :: u149 :: u150 :: u151 :: u152 :: u153 :: u154 :: u155 :: u156 :: u157 :: u158 :: u159 :: u160 :: u161 :: u162 :: u163 :: u164 :: u165 :: u166 :: u167 :: u168 :: u169 :: u170 :: u171 :: u172 :: u173 :: u174 :: u175 :: u176 :: u177 :: u178 :: u179 :: u180 :: u181 :: u182 :: u183 :: u184 :: u185 :: u186 :: u187 :: u188 :: u189 :: u190 :: u191 :: u192 :: u193 :: u194 :: u195 :: u196 :: u197 :: u198 :: u199 :: u200 :: u201 :: u202 :: u203 :: u204 :: u205 :: u206 :: u207 :: u208 :: u209 :: u210 :: u211 :: u212 :: u213 :: u214 :: u215 :: u216 :: u217 :: u218 :: u219 :: []).toArray, []⟩ w := by
  have HEX := Lib.hid hexit
  clear hexit
  conv => arg 2; whnf
  go_loopg [17] m (fun g' kv wz => ∃ (k : Nat) (zs : Nat → Int), g' = k ∧ i ≤ k ∧ k ≤ m ∧ kv = .int .i64 k ∧ RowI wz g o n zs ∧ Rot k m (m + 1) xs zs ∧ Chg (One g) w wz)
  case atStart => exact ⟨m, xs, rfl, him, Nat.le_refl _, rfl, HR.out, Rot.id' _ _ _, Chg.refl _ _⟩
  case round =>
    obtain ⟨k, zs, hg, h1, h2, rfl, hr, hrot, hc⟩ := hrel
    have HG := Lib.hid hg
    have HRZ := Lib.hid hr
    have HROT := Lib.hid hrot
    have HCH := Lib.hid hc
    clear hg hr hrot hc
    by_cases hlt : i < k
    · have hw2 := IntWalk.i64_in ((k : Int) - 1) (by omega)
      go_upto_region 23 with fail
      refine swW_piece g o n c _ _ k wr _ (by exact Lib.hid (fun c t a w h => HQP.out c t a w h)) (by omega) (by omega) hn (by omega) (HRZ.out _ (by omega)).1 (HRZ.out _ (by omega)).1 (HRZ.out _ (by omega)).2 (HRZ.out _ (by omega)).2 ?_
      intro v113 v114 v115 v116 v117 v118 v119 v120 v121 v122 v123 v124 v125 v126 v127 v128
      obtain ⟨w2, hw2'⟩ : ∃ w2, w2 = ((wr.drew.setCell ⟨g, o + k, none⟩ (.int .i64 (zs (k - 1)))).setCell ⟨g, o + (k - 1), none⟩ (.int .i64 (zs k))) := ⟨_, rfl⟩
      rw [← hw2']
      have HW2 := Lib.hid hw2'
      clear hw2'
      go_wp2
      go_roundg (k - 1)
      case measure => have := HG.out; omega
      case rel => exact ⟨k - 1, sw2 k (k - 1) zs, rfl, by omega, by omega, by go_num, by rw [HW2.out]; exact HRZ.out.drew.swap (by omega) (by omega), rot_down (by omega) h2 HROT.out, by rw [HW2.out]; exact HCH.out.trans (((Chg.refl (One g) _).drew.setCell (p := ⟨g, _, none⟩) (fun _ => rfl) _).setCell (p := ⟨g, _, none⟩) (fun _ => rfl) _) (fun _ _ h => h)⟩
    · obtain rfl : k = i := by omega
      go_wp2
      exact HEX.out _ _ _ _ _ _ _ _ _ _ _ _ _ _ _ _ _ _ _ _ _ _ wr zs HRZ.out HROT.out HCH.out
end Go.Proofs.Ytpbnngfiinihmaa

namespace Go.Proofs.Ytpbnngfiinihmaa
open Go.RowKit
set_option maxRecDepth 100000 in
set_option maxHeartbeats 4000000 in
theorem swapRange_any (g o n c a b k : Nat) (cmp : Value) (xs : Nat → Int) (w : World) (hn : n ≤ 1152921504606) (hab : a + k ≤ b) (hb : b + k ≤ n) (HR : RowI w g o n xs) :
    Calls Try.prog 68 #[.slice (some ⟨g, o, none⟩) n c, .int .i64 a, .int .i64 b, .int .i64 k, cmp] w fun e w' => e = .returned (.tuple #[]) ∧ RowI w' g o n (swp a b k xs) ∧ Chg (One g) w w' := by
  have HR0 := Lib.hid HR
  clear HR
  go_enter Try.func68, Try.ntmps68
  go_wp2
  go_loopg [10] k (fun g' i wz => ∃ j : Nat, g' = k - j ∧ j ≤ k ∧ i = .int .i64 j ∧ RowI wz g o n (swp a b j xs) ∧ Chg (One g) w wz)
  case atStart => exact ⟨0, by omega, by omega, rfl, by rw [swp_zero]; exact HR0.out, Chg.refl _ _⟩
  case round =>
    obtain ⟨j, hg, hj, rfl, hr, hc⟩ := hrel
    have HG := Lib.hid hg
    have HR := Lib.hid hr
    have HC := Lib.hid hc
    clear hg hr hc
    by_cases hlt : j < k
    · have hlt' : (j : Int) < (k : Int) := by omega
      go_upto_region 3 with fail
      refine swR_piece g o n c _ _ a b j _ _ (by exact Lib.hid (fun _ _ _ _ h => h)) (by omega) (by omega) hn (by omega) (HR.out _ (by omega)).1 (HR.out _ (by omega)).1 (HR.out _ (by omega)).2 (HR.out _ (by omega)).2 ?_
      intro v16 v17 v18 v19 v20 v21 v22 v23 v24 v25 v26 v27 v28 v29 v30 v31 v32 v33 v34 v35 v36 v37
      obtain ⟨w2, hw2⟩ : ∃ w2, w2 = ((wr.drew.setCell ⟨g, o + (a + j), none⟩ (.int .i64 (swp a b j xs (b + j)))).setCell ⟨g, o + (b + j), none⟩ (.int .i64 (swp a b j xs (a + j)))) := ⟨_, rfl⟩
      rw [← hw2]
      have HW2 := Lib.hid hw2
      clear hw2
      go_wp2
      go_roundg (k - (j + 1))
      case measure => have := HG.out; omega
      case rel => exact ⟨j + 1, rfl, by omega, by go_num, by rw [swp_succ (by omega), HW2.out]; exact HR.out.drew.swap (by omega) (by omega), by rw [HW2.out]; exact HC.out.trans (((Chg.refl (One g) _).drew.setCell (p := ⟨g, _, none⟩) (fun _ => rfl) _).setCell (p := ⟨g, _, none⟩) (fun _ => rfl) _) (fun _ _ h => h)⟩
    · obtain rfl : j = k := by omega
      go_wp2
      go_end0
      exact ⟨rfl, HR.out, HC.out⟩
set_option maxRecDepth 100000 in
set_option maxHeartbeats 4000000 in
theorem rotate_any (g o n c s m e : Nat) (cmp : Value) (xs : Nat → Int) (w : World) (hn : n ≤ 1152921504606) (h1 : s < m) (h2 : m < e) (h3 : e ≤ n) (HR : RowI w g o n xs) :
    Calls Try.prog 64 #[.slice (some ⟨g, o, none⟩) n c, .int .i64 s, .int .i64 m, .int .i64 e, cmp] w fun r w' => r = .returned (.tuple #[]) ∧ (∃ ys, RowI w' g o n ys ∧ Rot s m e xs ys) ∧ Chg (One g) w w' := by
  have HR0 := Lib.hid HR
  clear HR
  have w1 := IntWalk.i64_in ((m : Int) - (s : Int)) (by omega)
  have w2 := IntWalk.i64_in ((e : Int) - (m : Int)) (by omega)
  go_enter Try.func64, Try.ntmps64
  go_wp2
  go_loopg [10, 11] (e - s) (fun g' i j wz => ∃ (p q : Nat) (ys : Nat → Int), g' = p + q ∧ 1 ≤ p ∧ 1 ≤ q ∧ s + p ≤ m ∧ m + q ≤ e ∧ i = .int .i64 p ∧ j = .int .i64 q ∧ RowI wz g o n ys ∧ Chg (One g) w wz ∧ ∀ zs, Rot (m - p) m (m + q) ys zs → Rot s m e xs zs)
  case atStart => exact ⟨m - s, e - m, xs, by omega, by omega, by omega, by omega, by omega, by go_num, by go_num, HR0.out, Chg.refl _ _, fun zs h => by rw [show m - (m - s) = s by omega, show m + (e - m) = e by omega] at h; exact h⟩
  case round =>
    obtain ⟨p, q, ys, hg, hp, hq, hpm, hqe, rfl, rfl, hr, hc, hz⟩ := hrel
    have HG := Lib.hid hg
    have HR := Lib.hid hr
    have HC := Lib.hid hc
    have HZ := Lib.hid hz
    clear hg hr hc hz
    have w3 := IntWalk.i64_in ((m : Int) - (p : Int)) (by omega)
    have w4 := IntWalk.i64_in ((m : Int) + (q : Int)) (by omega)
    have w5 := IntWalk.i64_in ((m : Int) + (q : Int) - (p : Int)) (by omega)
    have w6 := IntWalk.i64_in ((p : Int) - (q : Int)) (by omega)
    have w7 := IntWalk.i64_in ((q : Int) - (p : Int)) (by omega)
    have e1 : (m : Int) - (p : Int) = ((m - p : Nat) : Int) := by omega
    by_cases hne : p = q
    · subst hne
      have hb : ((p : Int) != (p : Int)) = false := by simp
      go_wp2_with (go_at_call 68; go_loud (refine (swapRange_any g o n c (m - p) m p cmp ys wr hn (by omega) (by omega) HR.out).mono ?_); rintro r w1 ⟨rfl, q1, q2⟩)
      go_end0
      exact ⟨rfl, ⟨_, q1, HZ.out _ (rot_eq (by omega))⟩, HC.out.trans q2 (fun _ _ h => h)⟩
    · have hb : ((p : Int) != (q : Int)) = true := by simp; omega
      by_cases hlt : q < p
      · have hlt' : (q : Int) < (p : Int) := by omega
        go_wp2_with (go_at_call 68; go_loud (refine (swapRange_any g o n c (m - p) m q cmp ys wr hn (by omega) (by omega) HR.out).mono ?_); rintro r w1 ⟨rfl, q1, q2⟩; have HQ1 := Lib.hid q1; have HQ2 := Lib.hid q2; clear q1 q2)
        go_roundg (p - q + q)
        case measure => have := HG.out; omega
        case rel => exact ⟨p - q, q, _, rfl, by omega, by omega, by omega, by omega, by go_num, rfl, HQ1.out, HC.out.trans HQ2.out (fun _ _ h => h), fun zs h => HZ.out zs (rot_gt hlt (by omega) h)⟩
      · have hlt' : ¬ (q : Int) < (p : Int) := by omega
        have e2 : (m : Int) + (q : Int) - (p : Int) = ((m + q - p : Nat) : Int) := by omega
        go_wp2_with (go_at_call 68; go_loud (refine (swapRange_any g o n c (m - p) (m + q - p) p cmp ys wr hn (by omega) (by omega) HR.out).mono ?_); rintro r w1 ⟨rfl, q1, q2⟩; have HQ1 := Lib.hid q1; have HQ2 := Lib.hid q2; clear q1 q2)
        go_roundg (p + (q - p))
        case measure => have := HG.out; omega
        case rel => exact ⟨p, q - p, _, rfl, by omega, by omega, by omega, by omega, rfl, by go_num, HQ1.out, HC.out.trans HQ2.out (fun _ _ h => h), fun zs h => HZ.out zs (rot_lt (by omega) (by omega) h)⟩
end Go.Proofs.Ytpbnngfiinihmaa

namespace Go.Proofs.Ytpbnngfiinihmaa
open Go.RowKit
noncomputable def bt39C : Code := codeOr (Try.f57.body.bind (regionAt 39))
set_option maxRecDepth 100000 in
theorem bt39_piece (x y z : Int) (w : World) {u0 u1 u3 u4 u5 u6 u7 u8 u9 u10 u11 u12 u13 u14 u15 u16 u17 u18 u19 u21 u22 u23 u25 u26 u27 u28 u29 u30 u31 u32 u33 u34 u35 u36 u37 u38 u39 u40 u41 u42 u43 u44 u45 u46 u47 u48 u49 u50 u51 u52 u53 u54 u55 u56 u57 u58 u59 u60 u61 u62 u63 u64 u65 u66 u67 u68 u69 u70 u71 u72 u73 u74 u75 u76 u77 u78 u79 u80 u81 u82 u83 u84 u85 u86 u87 u88 u89 u90 u91 u92 u93 u94 u95 u96 u97 u98 u99 u100 u101 u102 u103 u104 u105 u106 u107 u108 u109 u110 u111 u112 u113 u114 u115 u116 u117 u118 u119 u120 u121 u122 u123 u124 u125 u126 u127 u128 u129 u130 u131 u132 u133 u134 u135 u136 u137 u138 u139 u140 u141 u142 u143 u144 u145 u146 u147 u148 u149 u150 u151 u152 u153 u154 u155 u156 u157 u158 u159 u160 u161 u162 u163 u164 u165 u166 u167 u168 u169 u170 u171 u172 u173 u174 u175 u176 u177 u178 u179 u180 u181 u182 u183 u184 u185 u186 u187 u188 u189 u190 u191 u192 u193 u194 u195 u196 u197 u198 u199 u200 u201 u202 u203 u204 u205 u206 u207 u208 u209 u210 u211 u212 u213 u214 u215 u216 u217 u218 u219 : Value} (Q : Exit → Act → World → Prop)
    (hexit : ∀ (v178 v179 v180 v181 v182 v183 v184 : Value) (rb : Bool), (rb = true ↔ x < y ∧ y < z) → Q .normal ⟨(u0 :: u1 :: .int .i64 y :: u3 :: u4 :: u5 :: u6 :: u7 :: u8 :: u9 :: u10 :: u11 :: u12 :: u13 :: u14 :: u15 :: u16 :: u17 :: u18 :: u19 :: .int .i64 x :: u21 :: u22 :: u23 :: .int .i64 z :: u25 :: u26 :: u27 :: u28 :: u29 :: u30 :: u31 :: u32 :: u33 :: u34 :: u35 :: u36 :: u37 :: u38 :: u39 :: u40 :: u41 :: u42 :: u43 :: u44 :: u45 :: u46 :: u47 :: u48 :: u49 :: u50 :: u51 :: u52 :: u53 :: u54 :: u55 :: u56 :: u57 :: u58 :: u59 :: u60 :: u61 :: u62 :: u63 :: u64 :: u65 :: u66 :: u67 :: u68 :: u69 :: u70 :: u71 :: u72 :: u73 :: u74 :: u75 :: u76 :: u77 :: u78 :: u79 :: u80 :: u81 :: u82 :: u83 :: u84 :: u85 :: u86 :: u87 :: u88 :: u89 :: u90 :: u91 :: u92 :: u93 :: u94 :: u95 :: u96 :: u97 :: u98 :: u99 :: u100 :: u101 :: u102 :: u103 :: u104 :: u105 :: u106 :: u107 :: u108 :: u109 :: u110 :: u111 :: u112 :: u113 :: u114 :: u115 :: u116 :: u117 :: u118 :: u119 :: u120 :: u121 :: u122 :: u123 :: u124 :: u125 :: u126 :: u127 :: u128 :: u129 :: u130 :: u131 :: u132 :: u133 :: u134 :: u135 :: u136 :: u137 :: u138 :: u139 :: u140 :: u141 :: u142 :: u143 :: u144 :: u145 :: u146 :: u147 :: u148 :: u149 :: u150 :: u151 :: u152 :: u153 :: u154 :: u155 :: u156 :: u157 :: u158 :: u159 :: u160 :: u161 :: u162 :: u163 :: u164 :: u165 :: u166 :: u167 :: u168 :: u169 :: u170 :: u171 :: u172 :: u173 :: u174 :: u175 :: u176 :: u177 :: v178 :: v179 :: v180 :: v181 :: v182 :: v183 :: v184 :: .bool rb :: u186 :: u187 :: u188 :: u189 :: u190 :: u191 :: u192 :: u193 :: u194 :: u195 :: u196 :: u197 :: u198 :: u199 :: u200 :: u201 :: u202 :: u203 :: u204 :: u205 :: u206 :: u207 :: u208 :: u209 :: u210 :: u211 :: u212 :: u213 :: u214 :: u215 :: u216 :: u217 :: u218 :: u219 :: []).toArray, []⟩ w) :
    Code.wp Try.prog bt39C Q ⟨(u0 :: u1 :: .int .i64 y :: u3 :: u4 :: u5 :: u6 :: u7 :: u8 :: u9 :: u10 :: u11 :: u12 :: u13 :: u14 :: u15 :: u16 :: u17 :: u18 :: u19 :: .int .i64 x :: u21 :: u22 :: u23 :: .int .i64 z :: u25 :: u26 :: u27 :: u28 :: u29 :: u30 :: u31 :: u32 :: u33 :: u34 :: u35 :: u36 :: u37 :: u38 :: u39 :: u40 :: u41 :: u42 :: u43 :: u44 :: u45 :: u46 :: u47 :: u48 :: u49 :: u50 :: u51 :: u52 :: u53 :: u54 :: u55 :: u56 :: u57 :: u58 :: u59 :: u60 :: u61 :: u62 :: u63 :: u64 :: u65 :: u66 :: u67 :: u68 :: u69 :: u70 :: u71 :: u72 :: u73 :: u74 :: u75 :: u76 :: u77 :: u78 :: u79 :: u80 :: u81 :: u82 :: u83 :: u84 :: u85 :: u86 :: u87 :: u88 :: u89 :: u90 :: u91 :: u92 :: u93 :: u94 :: u95 :: u96 :: u97 :: u98 :: u99 :: u100 :: u101 :: u102 :: u103 :: u104 :: u105 :: u106 :: u107 :: u108 :: u109 :: u110 :: u111 :: u112 :: u113 :: u114 :: u115 :: u116 :: u117 :: u118 :: u119 :: u120 :: u121 :: u122 :: u123 :: u124 :: u125 :: u126 :: u127 :: u128 :: u129 :: u130 :: u131 :: u132 :: u133 :: u134 :: u135 :: u136 :: u137 :: u138 :: u139 :: u140 :: u141 :: u142 :: u143 :: u144 :: u145 :: u146 :: u147 :: u148 :: u149 :: u150 :: u151 :: u152 :: u153 :: u154 :: u155 :: u156 :: u157 :: u158 :: u159 :: u160 :: u161 :: u162 :: u163 :: u164 :: u165 :: u166 :: u167 :: u168 :: u169 :: u170 :: u171 :: u172 :: u173 :: u174 :: u175 :: u176 :: u177 :: u178 :: u179 :: u180 :: u181 :: u182 :: u183 :: u184 :: u185 :: u186 :: u187 :: u188 :: u189 :: u190 :: u191 :: u192 :: u193 :: u194 :: u195 :: u196 :: u197 :: u198 :: u199 :: u200 :: u201 :: u202 :: u203 :: u204 :: u205 :: u206 :: u207 :: u208 :: u209 :: u210 :: u211 :: u212 :: u213 :: u214 :: u215 :: u216 :: u217 :: u218 :: u219 :: []).toArray, []⟩ w := by
  have HEX := Lib.hid hexit
  clear hexit
  conv => arg 2; whnf
  by_cases h1 : x < y
  · by_cases h2 : y < z
    · go_wp2_with fail
      exact HEX.out _ _ _ _ _ _ _ true ⟨fun _ => ⟨h1, h2⟩, fun _ => rfl⟩
    · go_wp2_with fail
      exact HEX.out _ _ _ _ _ _ _ false ⟨fun h => absurd h (by decide), fun h => (by exfalso; omega)⟩
  · go_wp2_with fail
    exact HEX.out _ _ _ _ _ _ _ false ⟨fun h => absurd h (by decide), fun h => (by exfalso; omega)⟩
noncomputable def bt41C : Code := codeOr (Try.f57.body.bind (regionAt 41))
set_option maxRecDepth 100000 in
theorem bt41_piece (x y z : Int) (w : World) {u0 u2 u3 u4 u5 u6 u7 u8 u9 u10 u11 u12 u13 u14 u15 u16 u17 u19 u21 u22 u23 u24 u25 u26 u27 u28 u29 u30 u31 u32 u33 u34 u35 u36 u37 u38 u39 u40 u41 u42 u43 u44 u45 u46 u47 u48 u49 u50 u51 u52 u53 u54 u55 u56 u57 u58 u59 u60 u61 u62 u63 u64 u65 u66 u67 u68 u69 u70 u71 u72 u73 u74 u75 u76 u77 u78 u79 u80 u81 u82 u83 u84 u85 u86 u87 u88 u89 u90 u91 u92 u93 u94 u95 u96 u97 u98 u99 u100 u101 u102 u103 u104 u105 u106 u107 u108 u109 u110 u111 u112 u113 u114 u115 u116 u117 u118 u119 u120 u121 u122 u123 u124 u125 u126 u127 u128 u129 u130 u131 u132 u133 u134 u135 u136 u137 u138 u139 u140 u141 u142 u143 u144 u145 u146 u147 u148 u149 u150 u151 u152 u153 u154 u155 u156 u157 u158 u159 u160 u161 u162 u163 u164 u165 u166 u167 u168 u169 u170 u171 u172 u173 u174 u175 u176 u177 u178 u179 u180 u181 u182 u183 u184 u185 u186 u187 u188 u189 u190 u191 u192 u193 u194 u195 u196 u197 u198 u199 u200 u201 u202 u203 u204 u205 u206 u207 u208 u209 u210 u211 u212 u213 u214 u215 u216 u217 u218 u219 : Value} (Q : Exit → Act → World → Prop)
    (hexit : ∀ (v192 v193 v194 v195 v196 v197 v198 : Value) (rb : Bool), (rb = true ↔ x < y ∧ y < z) → Q .normal ⟨(u0 :: .int .i64 x :: u2 :: u3 :: u4 :: u5 :: u6 :: u7 :: u8 :: u9 :: u10 :: u11 :: u12 :: u13 :: u14 :: u15 :: u16 :: u17 :: .int .i64 z :: u19 :: .int .i64 y :: u21 :: u22 :: u23 :: u24 :: u25 :: u26 :: u27 :: u28 :: u29 :: u30 :: u31 :: u32 :: u33 :: u34 :: u35 :: u36 :: u37 :: u38 :: u39 :: u40 :: u41 :: u42 :: u43 :: u44 :: u45 :: u46 :: u47 :: u48 :: u49 :: u50 :: u51 :: u52 :: u53 :: u54 :: u55 :: u56 :: u57 :: u58 :: u59 :: u60 :: u61 :: u62 :: u63 :: u64 :: u65 :: u66 :: u67 :: u68 :: u69 :: u70 :: u71 :: u72 :: u73 :: u74 :: u75 :: u76 :: u77 :: u78 :: u79 :: u80 :: u81 :: u82 :: u83 :: u84 :: u85 :: u86 :: u87 :: u88 :: u89 :: u90 :: u91 :: u92 :: u93 :: u94 :: u95 :: u96 :: u97 :: u98 :: u99 :: u100 :: u101 :: u102 :: u103 :: u104 :: u105 :: u106 :: u107 :: u108 :: u109 :: u110 :: u111 :: u112 :: u113 :: u114 :: u115 :: u116 :: u117 :: u118 :: u119 :: u120 :: u121 :: u122 :: u123 :: u124 :: u125 :: u126 :: u127 :: u128 :: u129 :: u130 :: u131 :: u132 :: u133 :: u134 :: u135 :: u136 :: u137 :: u138 :: u139 :: u140 :: u141 :: u142 :: u143 :: u144 :: u145 :: u146 :: u147 :: u148 :: u149 :: u150 :: u151 :: u152 :: u153 :: u154 :: u155 :: u156 :: u157 :: u158 :: u159 :: u160 :: u161 :: u162 :: u163 :: u164 :: u165 :: u166 :: u167 :: u168 :: u169 :: u170 :: u171 :: u172 :: u173 :: u174 :: u175 :: u176 :: u177 :: u178 :: u179 :: u180 :: u181 :: u182 :: u183 :: u184 :: u185 :: u186 :: u187 :: u188 :: u189 :: u190 :: u191 :: v192 :: v193 :: v194 :: v195 :: v196 :: v197 :: v198 :: .bool rb :: u200 :: u201 :: u202 :: u203 :: u204 :: u205 :: u206 :: u207 :: u208 :: u209 :: u210 :: u211 :: u212 :: u213 :: u214 :: u215 :: u216 :: u217 :: u218 :: u219 :: []).toArray, []⟩ w) :
    Code.wp Try.prog bt41C Q ⟨(u0 :: .int .i64 x :: u2 :: u3 :: u4 :: u5 :: u6 :: u7 :: u8 :: u9 :: u10 :: u11 :: u12 :: u13 :: u14 :: u15 :: u16 :: u17 :: .int .i64 z :: u19 :: .int .i64 y :: u21 :: u22 :: u23 :: u24 :: u25 :: u26 :: u27 :: u28 :: u29 :: u30 :: u31 :: u32 :: u33 :: u34 :: u35 :: u36 :: u37 :: u38 :: u39 :: u40 :: u41 :: u42 :: u43 :: u44 :: u45 :: u46 :: u47 :: u48 :: u49 :: u50 :: u51 :: u52 :: u53 :: u54 :: u55 :: u56 :: u57 :: u58 :: u59 :: u60 :: u61 :: u62 :: u63 :: u64 :: u65 :: u66 :: u67 :: u68 :: u69 :: u70 :: u71 :: u72 :: u73 :: u74 :: u75 :: u76 :: u77 :: u78 :: u79 :: u80 :: u81 :: u82 :: u83 :: u84 :: u85 :: u86 :: u87 :: u88 :: u89 :: u90 :: u91 :: u92 :: u93 :: u94 :: u95 :: u96 :: u97 :: u98 :: u99 :: u100 :: u101 :: u102 :: u103 :: u104 :: u105 :: u106 :: u107 :: u108 :: u109 :: u110 :: u111 :: u112 :: u113 :: u114 :: u115 :: u116 :: u117 :: u118 :: u119 :: u120 :: u121 :: u122 :: u123 :: u124 :: u125 :: u126 :: u127 :: u128 :: u129 :: u130 :: u131 :: u132 :: u133 :: u134 :: u135 :: u136 :: u137 :: u138 :: u139 :: u140 :: u141 :: u142 :: u143 :: u144 :: u145 :: u146 :: u147 :: u148 :: u149 :: u150 :: u151 :: u152 :: u153 :: u154 :: u155 :: u156 :: u157 :: u158 :: u159 :: u160 :: u161 :: u162 :: u163 :: u164 :: u165 :: u166 :: u167 :: u168 :: u169 :: u170 :: u171 :: u172 :: u173 :: u174 :: u175 :: u176 :: u177 :: u178 :: u179 :: u180 :: u181 :: u182 :: u183 :: u184 :: u185 :: u186 :: u187 :: u188 :: u189 :: u190 :: u191 :: u192 :: u193 :: u194 :: u195 :: u196 :: u197 :: u198 :: u199 :: u200 :: u201 :: u202 :: u203 :: u204 :: u205 :: u206 :: u207 :: u208 :: u209 :: u210 :: u211 :: u212 :: u213 :: u214 :: u215 :: u216 :: u217 :: u218 :: u219 :: []).toArray, []⟩ w := by
  have HEX := Lib.hid hexit
  clear hexit
  conv => arg 2; whnf
  by_cases h1 : x < y
  · by_cases h2 : y < z
    · go_wp2_with fail
      exact HEX.out _ _ _ _ _ _ _ true ⟨fun _ => ⟨h1, h2⟩, fun _ => rfl⟩
    · go_wp2_with fail
      exact HEX.out _ _ _ _ _ _ _ false ⟨fun h => absurd h (by decide), fun h => (by exfalso; omega)⟩
  · go_wp2_with fail
    exact HEX.out _ _ _ _ _ _ _ false ⟨fun h => absurd h (by decide), fun h => (by exfalso; omega)⟩
noncomputable def bt43C : Code := codeOr (Try.f57.body.bind (regionAt 43))
set_option maxRecDepth 100000 in
theorem bt43_piece (x y z : Int) (w : World) {u0 u1 u2 u4 u5 u6 u7 u8 u9 u10 u11 u12 u13 u14 u15 u16 u17 u19 u20 u21 u22 u23 u25 u26 u27 u28 u29 u30 u31 u32 u33 u34 u35 u36 u37 u38 u39 u40 u41 u42 u43 u44 u45 u46 u47 u48 u49 u50 u51 u52 u53 u54 u55 u56 u57 u58 u59 u60 u61 u62 u63 u64 u65 u66 u67 u68 u69 u70 u71 u72 u73 u74 u75 u76 u77 u78 u79 u80 u81 u82 u83 u84 u85 u86 u87 u88 u89 u90 u91 u92 u93 u94 u95 u96 u97 u98 u99 u100 u101 u102 u103 u104 u105 u106 u107 u108 u109 u110 u111 u112 u113 u114 u115 u116 u117 u118 u119 u120 u121 u122 u123 u124 u125 u126 u127 u128 u129 u130 u131 u132 u133 u134 u135 u136 u137 u138 u139 u140 u141 u142 u143 u144 u145 u146 u147 u148 u149 u150 u151 u152 u153 u154 u155 u156 u157 u158 u159 u160 u161 u162 u163 u164 u165 u166 u167 u168 u169 u170 u171 u172 u173 u174 u175 u176 u177 u178 u179 u180 u181 u182 u183 u184 u185 u186 u187 u188 u189 u190 u191 u192 u193 u194 u195 u196 u197 u198 u199 u200 u201 u202 u203 u204 u205 u206 u207 u208 u209 u210 u211 u212 u213 u214 u215 u216 u217 u218 u219 : Value} (Q : Exit → Act → World → Prop)
    (hexit : ∀ (v206 v207 v208 v209 v210 v211 v212 : Value) (rb : Bool), (rb = true ↔ x < y ∧ y < z) → Q .normal ⟨(u0 :: u1 :: u2 :: .int .i64 z :: u4 :: u5 :: u6 :: u7 :: u8 :: u9 :: u10 :: u11 :: u12 :: u13 :: u14 :: u15 :: u16 :: u17 :: .int .i64 x :: u19 :: u20 :: u21 :: u22 :: u23 :: .int .i64 y :: u25 :: u26 :: u27 :: u28 :: u29 :: u30 :: u31 :: u32 :: u33 :: u34 :: u35 :: u36 :: u37 :: u38 :: u39 :: u40 :: u41 :: u42 :: u43 :: u44 :: u45 :: u46 :: u47 :: u48 :: u49 :: u50 :: u51 :: u52 :: u53 :: u54 :: u55 :: u56 :: u57 :: u58 :: u59 :: u60 :: u61 :: u62 :: u63 :: u64 :: u65 :: u66 :: u67 :: u68 :: u69 :: u70 :: u71 :: u72 :: u73 :: u74 :: u75 :: u76 :: u77 :: u78 :: u79 :: u80 :: u81 :: u82 :: u83 :: u84 :: u85 :: u86 :: u87 :: u88 :: u89 :: u90 :: u91 :: u92 :: u93 :: u94 :: u95 :: u96 :: u97 :: u98 :: u99 :: u100 :: u101 :: u102 :: u103 :: u104 :: u105 :: u106 :: u107 :: u108 :: u109 :: u110 :: u111 :: u112 :: u113 :: u114 :: u115 :: u116 :: u117 :: u118 :: u119 :: u120 :: u121 :: u122 :: u123 :: u124 :: u125 :: u126 :: u127 :: u128 :: u129 :: u130 :: u131 :: u132 :: u133 :: u134 :: u135 :: u136 :: u137 :: u138 :: u139 :: u140 :: u141 :: u142 :: u143 :: u144 :: u145 :: u146 :: u147 :: u148 :: u149 :: u150 :: u151 :: u152 :: u153 :: u154 :: u155 :: u156 :: u157 :: u158 :: u159 :: u160 :: u161 :: u162 :: u163 :: u164 :: u165 :: u166 :: u167 :: u168 :: u169 :: u170 :: u171 :: u172 :: u173 :: u174 :: u175 :: u176 :: u177 :: u178 :: u179 :: u180 :: u181 :: u182 :: u183 :: u184 :: u185 :: u186 :: u187 :: u188 :: u189 :: u190 :: u191 :: u192 :: u193 :: u194 :: u195 :: u196 :: u197 :: u198 :: u199 :: u200 :: u201 :: u202 :: u203 :: u204 :: u205 :: v206 :: v207 :: v208 :: v209 :: v210 :: v211 :: v212 :: .bool rb :: u214 :: u215 :: u216 :: u217 :: u218 :: u219 :: []).toArray, []⟩ w) :
    Code.wp Try.prog bt43C Q ⟨(u0 :: u1 :: u2 :: .int .i64 z :: u4 :: u5 :: u6 :: u7 :: u8 :: u9 :: u10 :: u11 :: u12 :: u13 :: u14 :: u15 :: u16 :: u17 :: .int .i64 x :: u19 :: u20 :: u21 :: u22 :: u23 :: .int .i64 y :: u25 :: u26 :: u27 :: u28 :: u29 :: u30 :: u31 :: u32 :: u33 :: u34 :: u35 :: u36 :: u37 :: u38 :: u39 :: u40 :: u41 :: u42 :: u43 :: u44 :: u45 :: u46 :: u47 :: u48 :: u49 :: u50 :: u51 :: u52 :: u53 :: u54 :: u55 :: u56 :: u57 :: u58 :: u59 :: u60 :: u61 :: u62 :: u63 :: u64 :: u65 :: u66 :: u67 :: u68 :: u69 :: u70 :: u71 :: u72 :: u73 :: u74 :: u75 :: u76 :: u77 :: u78 :: u79 :: u80 :: u81 :: u82 :: u83 :: u84 :: u85 :: u86 :: u87 :: u88 :: u89 :: u90 :: u91 :: u92 :: u93 :: u94 :: u95 :: u96 :: u97 :: u98 :: u99 :: u100 :: u101 :: u102 :: u103 :: u104 :: u105 :: u106 :: u107 :: u108 :: u109 :: u110 :: u111 :: u112 :: u113 :: u114 :: u115 :: u116 :: u117 :: u118 :: u119 :: u120 :: u121 :: u122 :: u123 :: u124 :: u125 :: u126 :: u127 :: u128 :: u129 :: u130 :: u131 :: u132 :: u133 :: u134 :: u135 :: u136 :: u137 :: u138 :: u139 :: u140 :: u141 :: u142 :: u143 :: u144 :: u145 :: u146 :: u147 :: u148 :: u149 :: u150 :: u151 :: u152 :: u153 :: u154 :: u155 :: u156 :: u157 :: u158 :: u159 :: u160 :: u161 :: u162 :: u163 :: u164 :: u165 :: u166 :: u167 :: u168 :: u169 :: u170 :: u171 :: u172 :: u173 :: u174 :: u175 :: u176 :: u177 :: u178 :: u179 :: u180 :: u181 :: u182 :: u183 :: u184 :: u185 :: u186 :: u187 :: u188 :: u189 :: u190 :: u191 :: u192 :: u193 :: u194 :: u195 :: u196 :: u197 :: u198 :: u199 :: u200 :: u201 :: u202 :: u203 :: u204 :: u205 :: u206 :: u207 :: u208 :: u209 :: u210 :: u211 :: u212 :: u213 :: u214 :: u215 :: u216 :: u217 :: u218 :: u219 :: []).toArray, []⟩ w := by
  have HEX := Lib.hid hexit
  clear hexit
  conv => arg 2; whnf
  by_cases h1 : x < y
  · by_cases h2 : y < z
    · go_wp2_with fail
      exact HEX.out _ _ _ _ _ _ _ true ⟨fun _ => ⟨h1, h2⟩, fun _ => rfl⟩
    · go_wp2_with fail
      exact HEX.out _ _ _ _ _ _ _ false ⟨fun h => absurd h (by decide), fun h => (by exfalso; omega)⟩
  · go_wp2_with fail
    exact HEX.out _ _ _ _ _ _ _ false ⟨fun h => absurd h (by decide), fun h => (by exfalso; omega)⟩
theorem Mrg.empty {κ : Int → Int} {a m b : Nat} {xs : Nat → Int} (h : Mrg κ a m b xs) (he : ¬ ((a : Int) < m ∧ (m : Int) < b)) : Mrgd κ a b xs xs := by
  have h1 := h.am
  have h2 := h.mb
  refine Mrgd.id ?_
  by_cases e : a = m
  · rw [e]; exact h.right
  · have : m = b := by omega
    rw [← this]; exact h.left
set_option maxRecDepth 100000 in
set_option maxHeartbeats 8000000 in
theorem symMerge_any (g o n c : Nat) (pl : Addr) (κ : Int → Int) (V : Int → Prop) (hn : n ≤ 1152921504606) : ∀ (N a m b : Nat) (xs : Nat → Int) (w : World), b - a ≤ N → a < m → m < b → b ≤ n → Cmp w g pl κ V → RowI w g o n xs → Vs V n xs → Mrg κ a m b xs →
    Calls Try.prog 57 #[.slice (some ⟨g, o, none⟩) n c, .int .i64 a, .int .i64 m, .int .i64 b, .func (.func 18) #[] #[.pointer (some pl)]] w fun r w' => r = .returned (.tuple #[]) ∧ (∃ ys, RowI w' g o n ys ∧ Mrgd κ a b xs ys) ∧ Chg (One g) w w' := by
  intro N
  induction N with
  | zero => intro a m b xs w h1 h2 h3; omega
  | succ N ih =>
    intro a m b xs w hN ham hmb hb hC hR hV hM
    have IH := Lib.hid ih
    have HC0 := Lib.hid hC
    have HR0 := Lib.hid hR
    have HV0 := Lib.hid hV
    have HM := Lib.hid hM
    have hw1 := IntWalk.i64_in ((m : Int) - (a : Int)) (by omega)
    have hw2 := IntWalk.i64_in ((b : Int) - (m : Int)) (by omega)
    clear ih hC hR hV hM
    by_cases h1 : m = a + 1
    · have hd : ((m : Int) - (a : Int) == 1) = true := by rw [beq_iff_eq]; omega
      go_enter Try.func57, Try.ntmps57
      go_upto_region 3 with fail
      refine sm0_in g o n c a m b pl κ V xs w _ (by exact Lib.hid (fun _ _ _ _ h => h)) ham (by omega) hb hn HC0 HR0 HV0 (Lib.hid (fun t h1 h2 => HM.out.cross a t (Nat.le_refl _) ham h1 h2)) ?_
      intro v11 v12 v31 v32 v33 v34 v35 v36 v37 v38 v39 v40 v41 v42 v43 v44 v45 v46 v47 v48 v49 v50 v51 v52 v53 i w1 hi1 hi2 hlo hhi hc1
      have HLO := Lib.hid hlo
      have HHI := Lib.hid hhi
      have HC1 := Lib.hid hc1
      have HR1 := Lib.hid (HR0.out.chg hc1 (fun h => h))
      clear hlo hhi hc1
      go_upto_region 9 with fail
      refine sm2_in g o n c a i xs w1 _ (by exact Lib.hid (fun _ _ _ _ h => h)) (by omega) (by omega) hn HR1 ?_
      intro v13 v55 v56 v57 v58 v59 v60 v61 v62 v63 v64 v65 v66 v67 v68 v69 v70 v71 v72 v73 v74 v75 v76 w2 zs hr2 hrot hc2
      have HR2 := Lib.hid hr2
      have HROT : Hid (Rot a m i xs zs) := Lib.hid (by rw [h1]; exact hrot)
      have HC2 : Hid (Chg (One g) w w2) := Lib.hid ((HC1.out.mono (fun _ _ h => absurd h (fun h => h))).trans hc2 (fun _ _ h => h))
      clear hr2 hrot hc2
      go_wp2
      refine bodyPost_ret (results_none (by kernel_rfl) _ _ _) rfl ?_
      exact ⟨rfl, ⟨zs, HR2.out, merge_left1 HM.out h1 hi1 hi2 HLO.out HHI.out HROT.out⟩, HC2.out⟩
    · have hd : ((m : Int) - (a : Int) == 1) = false := by rw [beq_eq_false_iff_ne]; omega
      by_cases h2 : b = m + 1
      · have hd2 : ((b : Int) - (m : Int) == 1) = true := by rw [beq_iff_eq]; omega
        go_enter Try.func57, Try.ntmps57
        go_upto_region 15 with fail
        refine sm4_in g o n c a m pl κ V xs w _ (by exact Lib.hid (fun _ _ _ _ h => h)) (by omega) (by omega) hn HC0 HR0 HV0 (Lib.hid (fun t h1 h2 => HM.out.cross t m h1 h2 (Nat.le_refl _) hmb)) ?_
        intro v15 v16 v83 v84 v85 v86 v87 v88 v89 v90 v91 v92 v93 v94 v95 v96 v97 v98 v99 v100 v101 v102 v103 v104 v105 v106 i w1 hi1 hi2 hlo hhi hc1
        have HLO := Lib.hid hlo
        have HHI := Lib.hid hhi
        have HC1 := Lib.hid hc1
        have HR1 := Lib.hid (HR0.out.chg hc1 (fun h => h))
        clear hlo hhi hc1
        go_upto_region 21 with fail
        refine sm6_in g o n c m i xs w1 _ (by exact Lib.hid (fun _ _ _ _ h => h)) (by omega) (by omega) hn HR1 ?_
        intro v17 v108 v109 v110 v111 v112 v113 v114 v115 v116 v117 v118 v119 v120 v121 v122 v123 v124 v125 v126 v127 v128 w2 zs hr2 hrot hc2
        have HR2 := Lib.hid hr2
        have HROT : Hid (Rot i m b xs zs) := Lib.hid (by rw [h2]; exact hrot)
        have HC2 : Hid (Chg (One g) w w2) := Lib.hid ((HC1.out.mono (fun _ _ h => absurd h (fun h => h))).trans hc2 (fun _ _ h => h))
        clear hr2 hrot hc2
        go_wp2
        refine bodyPost_ret (results_none (by kernel_rfl) _ _ _) rfl ?_
        exact ⟨rfl, ⟨zs, HR2.out, merge_right1 HM.out h2 hi1 hi2 HLO.out HHI.out HROT.out⟩, HC2.out⟩
      · have hd2 : ((b : Int) - (m : Int) == 1) = false := by rw [beq_eq_false_iff_ne]; omega
        obtain ⟨mid, hmid⟩ : ∃ mid, mid = (a + b) / 2 := ⟨_, rfl⟩
        have hw3 := IntWalk.i64_in ((a : Int) + (b : Int)) (by omega)
        have hh1 : ((a : Int) + (b : Int)) / 2 = (mid : Int) := by omega
        have hw4 := IntWalk.i64_in ((mid : Int) + (m : Int)) (by omega)
        have hw7 := IntWalk.i64_in ((mid : Int) + (m : Int) - (b : Int)) (by omega)
        have hw8 := IntWalk.i64_in ((mid : Int) + (m : Int) - 1) (by omega)
        have hh2 : (mid : Int) + (m : Int) - 1 = ((mid + m - 1 : Nat) : Int) := by omega
        have HMID := Lib.hid hmid
        by_cases h3 : mid < m
        · have hd3 : (mid : Int) < (m : Int) := by omega
          have hh3 : (mid : Int) + (m : Int) - (b : Int) = ((mid + m - b : Nat) : Int) := by omega
          clear hmid
          go_enter Try.func57, Try.ntmps57
          go_upto_region 33 with fail
          have hmid := HMID.out
          refine sm8_in g o n c m (mid + m) (mid + m - 1) (mid + m - b) mid pl κ V xs w _ (by exact Lib.hid (fun _ _ _ _ h => h)) (by omega) (by omega) (by omega) (by omega) hn HC0 HR0 HV0 (Lib.hid (fun t h1 h2 => ⟨by omega, by omega, by omega, HM.out.cross t (mid + m - 1 - t) (by omega) (by omega) (by omega) (by omega)⟩)) ?_
          intro v21 v23 v149 v150 v151 v152 v153 v154 v155 v156 v157 v158 v159 v160 v161 v162 v163 v164 v165 v166 v167 v168 v169 v170 v171 v172 v173 v174 s w1 hf hc1
          have hs0 := hf.lo_
          have hs9 := hf.hi_
          obtain ⟨e, he⟩ : ∃ e, e = mid + m - s := ⟨_, rfl⟩
          have hs1 : a ≤ s := by omega
          have hs2 : s ≤ m := by omega
          have he1 : m ≤ e := by omega
          have he2 : e ≤ b := by omega
          have hse : s + e = mid + m := by omega
          have HLO : Hid (a < s → e < b → LL κ (xs (s - 1)) (xs e)) := Lib.hid (fun h1 h2 => by rw [he]; exact hf.below (by omega))
          have HHI : Hid (s < m → m < e → LL κ (xs (e - 1)) (xs s)) := Lib.hid (fun h1 h2 => by have := hf.above (by omega); rw [show mid + m - 1 - s = e - 1 by omega] at this; exact this)
          have HC1 : Hid (Chg (One g) w w1) := Lib.hid (hc1.mono (fun _ _ h => absurd h (fun h => h)))
          have HR1 := Lib.hid (HR0.out.chg hc1 (fun h => h))
          have hw5 := IntWalk.i64_in ((mid : Int) + (m : Int) - (s : Int)) (by omega)
          have hw6 : (mid : Int) + (m : Int) - (s : Int) = (e : Int) := by omega
          have hq1 : mid - a ≤ N := by omega
          have hq2 : b - mid ≤ N := by omega
          have hq3 : a < mid := by omega
          have hq4 : mid < b := by omega
          clear hf hc1 he hs0 hs9 hmid
          go_upto_region 39 with fail
          refine bt39_piece _ _ _ _ _ ?_
          intro v178 v179 v180 v181 v182 v183 v184 rb hrb
          have HRB := Lib.hid hrb
          clear hrb
          cases rb with
          | false =>
            have hno : ¬ ((s : Int) < m ∧ (m : Int) < e) := fun h => absurd (HRB.out.2 h) (by decide)
            obtain ⟨ys, HR2, HROT⟩ : ∃ ys, Hid (RowI w1 g o n ys) ∧ Hid (Rot s m e xs ys) := ⟨xs, HR1, Lib.hid (by
              by_cases h : s = m
              · rw [h]; exact Rot.id' _ _ _
              · rw [show e = m by omega]; exact Rot.id _ _ _)⟩
            clear HRB hno
            go_upto_region 41 with fail
            have HF1 : Hid (Mrg κ a s mid ys) := Lib.hid (merge_first HM.out hs1 hs2 he1 he2 hse HROT.out)
            refine bt41_piece _ _ _ _ _ ?_
            intro v192 v193 v194 v195 v196 v197 v198 rb hrb
            have HRB := Lib.hid hrb
            clear hrb
            cases rb with
            | false =>
              obtain ⟨zs, HR3, HD1⟩ : ∃ zs, Hid (RowI w1 g o n zs) ∧ Hid (Mrgd κ a mid ys zs) := ⟨ys, HR2, Lib.hid (HF1.out.empty (fun h => absurd (HRB.out.2 h) (by decide)))⟩
              clear HRB
              go_upto_region 43 with fail
              have HF2 : Hid (Mrg κ mid e b zs) := Lib.hid (merge_second HM.out hs1 hs2 he1 he2 hse HROT.out HD1.out.out)
              refine bt43_piece _ _ _ _ _ ?_
              intro v206 v207 v208 v209 v210 v211 v212 rb hrb
              have HRB := Lib.hid hrb
              clear hrb
              cases rb with
              | false =>
                obtain ⟨us, HR4, HD2⟩ : ∃ us, Hid (RowI w1 g o n us) ∧ Hid (Mrgd κ mid b zs us) := ⟨zs, HR3, Lib.hid (HF2.out.empty (fun h => absurd (HRB.out.2 h) (by decide)))⟩
                go_wp2
                go_end0
                exact ⟨rfl, ⟨us, HR4.out, merge_join HM.out HMID.out hs1 hs2 he1 he2 hse (fun h1 h2 => HLO.out h1 h2) (fun h1 h2 => HHI.out h1 h2) HROT.out HD1.out HD2.out⟩, HC1.out⟩
              | true =>
                have hlt := HRB.out.1 rfl
                have HC9 := Lib.hid (HC0.out.next HC1.out)
                have HV9 : Hid (Vs V n zs) := Lib.hid ((HV0.out.same (HROT.out.same hs2 he1) HROT.out.2.2 (by omega)).same HD1.out.same HD1.out.out (by omega))
                go_wp2_with (go_at_call 57; go_loud (refine (IH.out mid e b zs w1 (by omega) (by omega) (by omega) hb HC9.out HR3.out HV9.out HF2.out).mono ?_); rintro r w9 ⟨rfl, ⟨us, q1, q2⟩, q3⟩; have HR4 := Lib.hid q1; have HD2 := Lib.hid q2; have HC4 := Lib.hid (HC1.out.trans q3 (fun _ _ h => h)); clear q1 q2 q3)
                go_end0
                exact ⟨rfl, ⟨us, HR4.out, merge_join HM.out HMID.out hs1 hs2 he1 he2 hse (fun h1 h2 => HLO.out h1 h2) (fun h1 h2 => HHI.out h1 h2) HROT.out HD1.out HD2.out⟩, HC4.out⟩
            | true =>
              have hlt := HRB.out.1 rfl
              have HC8 := Lib.hid (HC0.out.next HC1.out)
              have HV8 : Hid (Vs V n ys) := Lib.hid (HV0.out.same (HROT.out.same hs2 he1) HROT.out.2.2 (by omega))
              clear HRB
              go_upto_region 43 with (go_at_call 57; go_loud (refine (IH.out a s mid ys w1 (by omega) (by omega) (by omega) (by omega) HC8.out HR2.out HV8.out HF1.out).mono ?_); rintro r w8 ⟨rfl, ⟨zs, q1, q2⟩, q3⟩; have HR3 := Lib.hid q1; have HD1 := Lib.hid q2; have HC3 := Lib.hid (HC1.out.trans q3 (fun _ _ h => h)); clear q1 q2 q3 hlt)
              have HF2 : Hid (Mrg κ mid e b zs) := Lib.hid (merge_second HM.out hs1 hs2 he1 he2 hse HROT.out HD1.out.out)
              refine bt43_piece _ _ _ _ _ ?_
              intro v206 v207 v208 v209 v210 v211 v212 rb hrb
              have HRB := Lib.hid hrb
              clear hrb
              cases rb with
              | false =>
                obtain ⟨us, HR4, HD2⟩ : ∃ us, Hid (RowI w8 g o n us) ∧ Hid (Mrgd κ mid b zs us) := ⟨zs, HR3, Lib.hid (HF2.out.empty (fun h => absurd (HRB.out.2 h) (by decide)))⟩
                go_wp2
                go_end0
                exact ⟨rfl, ⟨us, HR4.out, merge_join HM.out HMID.out hs1 hs2 he1 he2 hse (fun h1 h2 => HLO.out h1 h2) (fun h1 h2 => HHI.out h1 h2) HROT.out HD1.out HD2.out⟩, HC3.out⟩
              | true =>
                have hlt := HRB.out.1 rfl
                have HC9 := Lib.hid (HC0.out.next HC3.out)
                have HV9 : Hid (Vs V n zs) := Lib.hid ((HV0.out.same (HROT.out.same hs2 he1) HROT.out.2.2 (by omega)).same HD1.out.same HD1.out.out (by omega))
                go_wp2_with (go_at_call 57; go_loud (refine (IH.out mid e b zs w8 (by omega) (by omega) (by omega) hb HC9.out HR3.out HV9.out HF2.out).mono ?_); rintro r w9 ⟨rfl, ⟨us, q1, q2⟩, q3⟩; have HR4 := Lib.hid q1; have HD2 := Lib.hid q2; have HC4 := Lib.hid (HC3.out.trans q3 (fun _ _ h => h)); clear q1 q2 q3)
                go_end0
                exact ⟨rfl, ⟨us, HR4.out, merge_join HM.out HMID.out hs1 hs2 he1 he2 hse (fun h1 h2 => HLO.out h1 h2) (fun h1 h2 => HHI.out h1 h2) HROT.out HD1.out HD2.out⟩, HC4.out⟩
          | true =>
            have hlt := HRB.out.1 rfl
            clear HRB
            go_upto_region 41 with (go_at_call 64; go_loud (refine (rotate_any g o n c s m e _ xs w1 hn (by omega) (by omega) (by omega) HR1.out).mono ?_); rintro r w7 ⟨rfl, ⟨ys, q1, q2⟩, q3⟩; have HR2 := Lib.hid q1; have HROT := Lib.hid q2; have HC2 := Lib.hid (HC1.out.trans q3 (fun _ _ h => h)); clear q1 q2 q3 hlt)
            have HF1 : Hid (Mrg κ a s mid ys) := Lib.hid (merge_first HM.out hs1 hs2 he1 he2 hse HROT.out)
            refine bt41_piece _ _ _ _ _ ?_
            intro v192 v193 v194 v195 v196 v197 v198 rb hrb
            have HRB := Lib.hid hrb
            clear hrb
            cases rb with
            | false =>
              obtain ⟨zs, HR3, HD1⟩ : ∃ zs, Hid (RowI w7 g o n zs) ∧ Hid (Mrgd κ a mid ys zs) := ⟨ys, HR2, Lib.hid (HF1.out.empty (fun h => absurd (HRB.out.2 h) (by decide)))⟩
              clear HRB
              go_upto_region 43 with fail
              have HF2 : Hid (Mrg κ mid e b zs) := Lib.hid (merge_second HM.out hs1 hs2 he1 he2 hse HROT.out HD1.out.out)
              refine bt43_piece _ _ _ _ _ ?_
              intro v206 v207 v208 v209 v210 v211 v212 rb hrb
              have HRB := Lib.hid hrb
              clear hrb
              cases rb with
              | false =>
                obtain ⟨us, HR4, HD2⟩ : ∃ us, Hid (RowI w7 g o n us) ∧ Hid (Mrgd κ mid b zs us) := ⟨zs, HR3, Lib.hid (HF2.out.empty (fun h => absurd (HRB.out.2 h) (by decide)))⟩
                go_wp2
                go_end0
                exact ⟨rfl, ⟨us, HR4.out, merge_join HM.out HMID.out hs1 hs2 he1 he2 hse (fun h1 h2 => HLO.out h1 h2) (fun h1 h2 => HHI.out h1 h2) HROT.out HD1.out HD2.out⟩, HC2.out⟩
              | true =>
                have hlt := HRB.out.1 rfl
                have HC9 := Lib.hid (HC0.out.next HC2.out)
                have HV9 : Hid (Vs V n zs) := Lib.hid ((HV0.out.same (HROT.out.same hs2 he1) HROT.out.2.2 (by omega)).same HD1.out.same HD1.out.out (by omega))
                go_wp2_with (go_at_call 57; go_loud (refine (IH.out mid e b zs w7 (by omega) (by omega) (by omega) hb HC9.out HR3.out HV9.out HF2.out).mono ?_); rintro r w9 ⟨rfl, ⟨us, q1, q2⟩, q3⟩; have HR4 := Lib.hid q1; have HD2 := Lib.hid q2; have HC4 := Lib.hid (HC2.out.trans q3 (fun _ _ h => h)); clear q1 q2 q3)
                go_end0
                exact ⟨rfl, ⟨us, HR4.out, merge_join HM.out HMID.out hs1 hs2 he1 he2 hse (fun h1 h2 => HLO.out h1 h2) (fun h1 h2 => HHI.out h1 h2) HROT.out HD1.out HD2.out⟩, HC4.out⟩
            | true =>
              have hlt := HRB.out.1 rfl
              have HC8 := Lib.hid (HC0.out.next HC2.out)
              have HV8 : Hid (Vs V n ys) := Lib.hid (HV0.out.same (HROT.out.same hs2 he1) HROT.out.2.2 (by omega))
              clear HRB
              go_upto_region 43 with (go_at_call 57; go_loud (refine (IH.out a s mid ys w7 (by omega) (by omega) (by omega) (by omega) HC8.out HR2.out HV8.out HF1.out).mono ?_); rintro r w8 ⟨rfl, ⟨zs, q1, q2⟩, q3⟩; have HR3 := Lib.hid q1; have HD1 := Lib.hid q2; have HC3 := Lib.hid (HC2.out.trans q3 (fun _ _ h => h)); clear q1 q2 q3 hlt)
              have HF2 : Hid (Mrg κ mid e b zs) := Lib.hid (merge_second HM.out hs1 hs2 he1 he2 hse HROT.out HD1.out.out)
              refine bt43_piece _ _ _ _ _ ?_
              intro v206 v207 v208 v209 v210 v211 v212 rb hrb
              have HRB := Lib.hid hrb
              clear hrb
              cases rb with
              | false =>
                obtain ⟨us, HR4, HD2⟩ : ∃ us, Hid (RowI w8 g o n us) ∧ Hid (Mrgd κ mid b zs us) := ⟨zs, HR3, Lib.hid (HF2.out.empty (fun h => absurd (HRB.out.2 h) (by decide)))⟩
                go_wp2
                go_end0
                exact ⟨rfl, ⟨us, HR4.out, merge_join HM.out HMID.out hs1 hs2 he1 he2 hse (fun h1 h2 => HLO.out h1 h2) (fun h1 h2 => HHI.out h1 h2) HROT.out HD1.out HD2.out⟩, HC3.out⟩
              | true =>
                have hlt := HRB.out.1 rfl
                have HC9 := Lib.hid (HC0.out.next HC3.out)
                have HV9 : Hid (Vs V n zs) := Lib.hid ((HV0.out.same (HROT.out.same hs2 he1) HROT.out.2.2 (by omega)).same HD1.out.same HD1.out.out (by omega))
                go_wp2_with (go_at_call 57; go_loud (refine (IH.out mid e b zs w8 (by omega) (by omega) (by omega) hb HC9.out HR3.out HV9.out HF2.out).mono ?_); rintro r w9 ⟨rfl, ⟨us, q1, q2⟩, q3⟩; have HR4 := Lib.hid q1; have HD2 := Lib.hid q2; have HC4 := Lib.hid (HC3.out.trans q3 (fun _ _ h => h)); clear q1 q2 q3)
                go_end0
                exact ⟨rfl, ⟨us, HR4.out, merge_join HM.out HMID.out hs1 hs2 he1 he2 hse (fun h1 h2 => HLO.out h1 h2) (fun h1 h2 => HHI.out h1 h2) HROT.out HD1.out HD2.out⟩, HC4.out⟩
        · have hd3 : ¬ (mid : Int) < (m : Int) := by omega
          clear hmid
          go_enter Try.func57, Try.ntmps57
          go_upto_region 33 with fail
          have hmid := HMID.out
          refine sm8_in g o n c m (mid + m) (mid + m - 1) a m pl κ V xs w _ (by exact Lib.hid (fun _ _ _ _ h => h)) (by omega) (by omega) (by omega) (by omega) hn HC0 HR0 HV0 (Lib.hid (fun t h1 h2 => ⟨by omega, by omega, by omega, HM.out.cross t (mid + m - 1 - t) (by omega) (by omega) (by omega) (by omega)⟩)) ?_
          intro v21 v23 v149 v150 v151 v152 v153 v154 v155 v156 v157 v158 v159 v160 v161 v162 v163 v164 v165 v166 v167 v168 v169 v170 v171 v172 v173 v174 s w1 hf hc1
          have hs0 := hf.lo_
          have hs9 := hf.hi_
          obtain ⟨e, he⟩ : ∃ e, e = mid + m - s := ⟨_, rfl⟩
          have hs1 : a ≤ s := by omega
          have hs2 : s ≤ m := by omega
          have he1 : m ≤ e := by omega
          have he2 : e ≤ b := by omega
          have hse : s + e = mid + m := by omega
          have HLO : Hid (a < s → e < b → LL κ (xs (s - 1)) (xs e)) := Lib.hid (fun h1 h2 => by rw [he]; exact hf.below (by omega))
          have HHI : Hid (s < m → m < e → LL κ (xs (e - 1)) (xs s)) := Lib.hid (fun h1 h2 => by have := hf.above (by omega); rw [show mid + m - 1 - s = e - 1 by omega] at this; exact this)
          have HC1 : Hid (Chg (One g) w w1) := Lib.hid (hc1.mono (fun _ _ h => absurd h (fun h => h)))
          have HR1 := Lib.hid (HR0.out.chg hc1 (fun h => h))
          have hw5 := IntWalk.i64_in ((mid : Int) + (m : Int) - (s : Int)) (by omega)
          have hw6 : (mid : Int) + (m : Int) - (s : Int) = (e : Int) := by omega
          have hq1 : mid - a ≤ N := by omega
          have hq2 : b - mid ≤ N := by omega
          have hq3 : a < mid := by omega
          have hq4 : mid < b := by omega
          clear hf hc1 he hs0 hs9 hmid
          go_upto_region 39 with fail
          refine bt39_piece _ _ _ _ _ ?_
          intro v178 v179 v180 v181 v182 v183 v184 rb hrb
          have HRB := Lib.hid hrb
          clear hrb
          cases rb with
          | false =>
            have hno : ¬ ((s : Int) < m ∧ (m : Int) < e) := fun h => absurd (HRB.out.2 h) (by decide)
            obtain ⟨ys, HR2, HROT⟩ : ∃ ys, Hid (RowI w1 g o n ys) ∧ Hid (Rot s m e xs ys) := ⟨xs, HR1, Lib.hid (by
              by_cases h : s = m
              · rw [h]; exact Rot.id' _ _ _
              · rw [show e = m by omega]; exact Rot.id _ _ _)⟩
            clear HRB hno
            go_upto_region 41 with fail
            have HF1 : Hid (Mrg κ a s mid ys) := Lib.hid (merge_first HM.out hs1 hs2 he1 he2 hse HROT.out)
            refine bt41_piece _ _ _ _ _ ?_
            intro v192 v193 v194 v195 v196 v197 v198 rb hrb
            have HRB := Lib.hid hrb
            clear hrb
            cases rb with
            | false =>
              obtain ⟨zs, HR3, HD1⟩ : ∃ zs, Hid (RowI w1 g o n zs) ∧ Hid (Mrgd κ a mid ys zs) := ⟨ys, HR2, Lib.hid (HF1.out.empty (fun h => absurd (HRB.out.2 h) (by decide)))⟩
              clear HRB
              go_upto_region 43 with fail
              have HF2 : Hid (Mrg κ mid e b zs) := Lib.hid (merge_second HM.out hs1 hs2 he1 he2 hse HROT.out HD1.out.out)
              refine bt43_piece _ _ _ _ _ ?_
              intro v206 v207 v208 v209 v210 v211 v212 rb hrb
              have HRB := Lib.hid hrb
              clear hrb
              cases rb with
              | false =>
                obtain ⟨us, HR4, HD2⟩ : ∃ us, Hid (RowI w1 g o n us) ∧ Hid (Mrgd κ mid b zs us) := ⟨zs, HR3, Lib.hid (HF2.out.empty (fun h => absurd (HRB.out.2 h) (by decide)))⟩
                go_wp2
                go_end0
                exact ⟨rfl, ⟨us, HR4.out, merge_join HM.out HMID.out hs1 hs2 he1 he2 hse (fun h1 h2 => HLO.out h1 h2) (fun h1 h2 => HHI.out h1 h2) HROT.out HD1.out HD2.out⟩, HC1.out⟩
              | true =>
                have hlt := HRB.out.1 rfl
                have HC9 := Lib.hid (HC0.out.next HC1.out)
                have HV9 : Hid (Vs V n zs) := Lib.hid ((HV0.out.same (HROT.out.same hs2 he1) HROT.out.2.2 (by omega)).same HD1.out.same HD1.out.out (by omega))
                go_wp2_with (go_at_call 57; go_loud (refine (IH.out mid e b zs w1 (by omega) (by omega) (by omega) hb HC9.out HR3.out HV9.out HF2.out).mono ?_); rintro r w9 ⟨rfl, ⟨us, q1, q2⟩, q3⟩; have HR4 := Lib.hid q1; have HD2 := Lib.hid q2; have HC4 := Lib.hid (HC1.out.trans q3 (fun _ _ h => h)); clear q1 q2 q3)
                go_end0
                exact ⟨rfl, ⟨us, HR4.out, merge_join HM.out HMID.out hs1 hs2 he1 he2 hse (fun h1 h2 => HLO.out h1 h2) (fun h1 h2 => HHI.out h1 h2) HROT.out HD1.out HD2.out⟩, HC4.out⟩
            | true =>
              have hlt := HRB.out.1 rfl
              have HC8 := Lib.hid (HC0.out.next HC1.out)
              have HV8 : Hid (Vs V n ys) := Lib.hid (HV0.out.same (HROT.out.same hs2 he1) HROT.out.2.2 (by omega))
              clear HRB
              go_upto_region 43 with (go_at_call 57; go_loud (refine (IH.out a s mid ys w1 (by omega) (by omega) (by omega) (by omega) HC8.out HR2.out HV8.out HF1.out).mono ?_); rintro r w8 ⟨rfl, ⟨zs, q1, q2⟩, q3⟩; have HR3 := Lib.hid q1; have HD1 := Lib.hid q2; have HC3 := Lib.hid (HC1.out.trans q3 (fun _ _ h => h)); clear q1 q2 q3 hlt)
              have HF2 : Hid (Mrg κ mid e b zs) := Lib.hid (merge_second HM.out hs1 hs2 he1 he2 hse HROT.out HD1.out.out)
              refine bt43_piece _ _ _ _ _ ?_
              intro v206 v207 v208 v209 v210 v211 v212 rb hrb
              have HRB := Lib.hid hrb
              clear hrb
              cases rb with
              | false =>
                obtain ⟨us, HR4, HD2⟩ : ∃ us, Hid (RowI w8 g o n us) ∧ Hid (Mrgd κ mid b zs us) := ⟨zs, HR3, Lib.hid (HF2.out.empty (fun h => absurd (HRB.out.2 h) (by decide)))⟩
                go_wp2
                go_end0
                exact ⟨rfl, ⟨us, HR4.out, merge_join HM.out HMID.out hs1 hs2 he1 he2 hse (fun h1 h2 => HLO.out h1 h2) (fun h1 h2 => HHI.out h1 h2) HROT.out HD1.out HD2.out⟩, HC3.out⟩
              | true =>
                have hlt := HRB.out.1 rfl
                have HC9 := Lib.hid (HC0.out.next HC3.out)
                have HV9 : Hid (Vs V n zs) := Lib.hid ((HV0.out.same (HROT.out.same hs2 he1) HROT.out.2.2 (by omega)).same HD1.out.same HD1.out.out (by omega))
                go_wp2_with (go_at_call 57; go_loud (refine (IH.out mid e b zs w8 (by omega) (by omega) (by omega) hb HC9.out HR3.out HV9.out HF2.out).mono ?_); rintro r w9 ⟨rfl, ⟨us, q1, q2⟩, q3⟩; have HR4 := Lib.hid q1; have HD2 := Lib.hid q2; have HC4 := Lib.hid (HC3.out.trans q3 (fun _ _ h => h)); clear q1 q2 q3)
                go_end0
                exact ⟨rfl, ⟨us, HR4.out, merge_join HM.out HMID.out hs1 hs2 he1 he2 hse (fun h1 h2 => HLO.out h1 h2) (fun h1 h2 => HHI.out h1 h2) HROT.out HD1.out HD2.out⟩, HC4.out⟩
          | true =>
            have hlt := HRB.out.1 rfl
            clear HRB
            go_upto_region 41 with (go_at_call 64; go_loud (refine (rotate_any g o n c s m e _ xs w1 hn (by omega) (by omega) (by omega) HR1.out).mono ?_); rintro r w7 ⟨rfl, ⟨ys, q1, q2⟩, q3⟩; have HR2 := Lib.hid q1; have HROT := Lib.hid q2; have HC2 := Lib.hid (HC1.out.trans q3 (fun _ _ h => h)); clear q1 q2 q3 hlt)
            have HF1 : Hid (Mrg κ a s mid ys) := Lib.hid (merge_first HM.out hs1 hs2 he1 he2 hse HROT.out)
            refine bt41_piece _ _ _ _ _ ?_
            intro v192 v193 v194 v195 v196 v197 v198 rb hrb
            have HRB := Lib.hid hrb
            clear hrb
            cases rb with
            | false =>
              obtain ⟨zs, HR3, HD1⟩ : ∃ zs, Hid (RowI w7 g o n zs) ∧ Hid (Mrgd κ a mid ys zs) := ⟨ys, HR2, Lib.hid (HF1.out.empty (fun h => absurd (HRB.out.2 h) (by decide)))⟩
              clear HRB
              go_upto_region 43 with fail
              have HF2 : Hid (Mrg κ mid e b zs) := Lib.hid (merge_second HM.out hs1 hs2 he1 he2 hse HROT.out HD1.out.out)
              refine bt43_piece _ _ _ _ _ ?_
              intro v206 v207 v208 v209 v210 v211 v212 rb hrb
              have HRB := Lib.hid hrb
              clear hrb
              cases rb with
              | false =>
                obtain ⟨us, HR4, HD2⟩ : ∃ us, Hid (RowI w7 g o n us) ∧ Hid (Mrgd κ mid b zs us) := ⟨zs, HR3, Lib.hid (HF2.out.empty (fun h => absurd (HRB.out.2 h) (by decide)))⟩
                go_wp2
                go_end0
                exact ⟨rfl, ⟨us, HR4.out, merge_join HM.out HMID.out hs1 hs2 he1 he2 hse (fun h1 h2 => HLO.out h1 h2) (fun h1 h2 => HHI.out h1 h2) HROT.out HD1.out HD2.out⟩, HC2.out⟩
              | true =>
                have hlt := HRB.out.1 rfl
                have HC9 := Lib.hid (HC0.out.next HC2.out)
                have HV9 : Hid (Vs V n zs) := Lib.hid ((HV0.out.same (HROT.out.same hs2 he1) HROT.out.2.2 (by omega)).same HD1.out.same HD1.out.out (by omega))
                go_wp2_with (go_at_call 57; go_loud (refine (IH.out mid e b zs w7 (by omega) (by omega) (by omega) hb HC9.out HR3.out HV9.out HF2.out).mono ?_); rintro r w9 ⟨rfl, ⟨us, q1, q2⟩, q3⟩; have HR4 := Lib.hid q1; have HD2 := Lib.hid q2; have HC4 := Lib.hid (HC2.out.trans q3 (fun _ _ h => h)); clear q1 q2 q3)
                go_end0
                exact ⟨rfl, ⟨us, HR4.out, merge_join HM.out HMID.out hs1 hs2 he1 he2 hse (fun h1 h2 => HLO.out h1 h2) (fun h1 h2 => HHI.out h1 h2) HROT.out HD1.out HD2.out⟩, HC4.out⟩
            | true =>
              have hlt := HRB.out.1 rfl
              have HC8 := Lib.hid (HC0.out.next HC2.out)
              have HV8 : Hid (Vs V n ys) := Lib.hid (HV0.out.same (HROT.out.same hs2 he1) HROT.out.2.2 (by omega))
              clear HRB
              go_upto_region 43 with (go_at_call 57; go_loud (refine (IH.out a s mid ys w7 (by omega) (by omega) (by omega) (by omega) HC8.out HR2.out HV8.out HF1.out).mono ?_); rintro r w8 ⟨rfl, ⟨zs, q1, q2⟩, q3⟩; have HR3 := Lib.hid q1; have HD1 := Lib.hid q2; have HC3 := Lib.hid (HC2.out.trans q3 (fun _ _ h => h)); clear q1 q2 q3 hlt)
              have HF2 : Hid (Mrg κ mid e b zs) := Lib.hid (merge_second HM.out hs1 hs2 he1 he2 hse HROT.out HD1.out.out)
              refine bt43_piece _ _ _ _ _ ?_
              intro v206 v207 v208 v209 v210 v211 v212 rb hrb
              have HRB := Lib.hid hrb
              clear hrb
              cases rb with
              | false =>
                obtain ⟨us, HR4, HD2⟩ : ∃ us, Hid (RowI w8 g o n us) ∧ Hid (Mrgd κ mid b zs us) := ⟨zs, HR3, Lib.hid (HF2.out.empty (fun h => absurd (HRB.out.2 h) (by decide)))⟩
                go_wp2
                go_end0
                exact ⟨rfl, ⟨us, HR4.out, merge_join HM.out HMID.out hs1 hs2 he1 he2 hse (fun h1 h2 => HLO.out h1 h2) (fun h1 h2 => HHI.out h1 h2) HROT.out HD1.out HD2.out⟩, HC3.out⟩
              | true =>
                have hlt := HRB.out.1 rfl
                have HC9 := Lib.hid (HC0.out.next HC3.out)
                have HV9 : Hid (Vs V n zs) := Lib.hid ((HV0.out.same (HROT.out.same hs2 he1) HROT.out.2.2 (by omega)).same HD1.out.same HD1.out.out (by omega))
                go_wp2_with (go_at_call 57; go_loud (refine (IH.out mid e b zs w8 (by omega) (by omega) (by omega) hb HC9.out HR3.out HV9.out HF2.out).mono ?_); rintro r w9 ⟨rfl, ⟨us, q1, q2⟩, q3⟩; have HR4 := Lib.hid q1; have HD2 := Lib.hid q2; have HC4 := Lib.hid (HC3.out.trans q3 (fun _ _ h => h)); clear q1 q2 q3)
                go_end0
                exact ⟨rfl, ⟨us, HR4.out, merge_join HM.out HMID.out hs1 hs2 he1 he2 hse (fun h1 h2 => HLO.out h1 h2) (fun h1 h2 => HHI.out h1 h2) HROT.out HD1.out HD2.out⟩, HC4.out⟩
end Go.Proofs.Ytpbnngfiinihmaa
