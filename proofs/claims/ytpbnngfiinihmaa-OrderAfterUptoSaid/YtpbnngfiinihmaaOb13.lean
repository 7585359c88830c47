/- WALKS: a merge in place (slices.symMergeCmpFunc). Sorting by blocks (what slices.stableCmpFunc does), as a plain law. No program in sight. WALKS: a stable sort (slices.stableCmpFunc, slices.SortStableFunc). WALKS: the closure of order.Line: the points of two calls compared. -/
import Derived.Test.YtpbnngfiinihmaaOb12
import Derived.Test.YtpbnngfiinihmaaOb02
import Derived.Test.YtpbnngfiinihmaaOb05
set_option linter.unusedVariables false
set_option linter.unusedSimpArgs false
namespace Go.Proofs.Ytpbnngfiinihmaa
open Go.RowKit
noncomputable def bt39C : Code := codeOr (Try.f57.body.bind (regionAt 39))
set_option maxRecDepth 100000 in
theorem bt39_piece (x y z : Int) (w : World) {u0 u1 u3 u4 u5 u6 u7 u8 u9 u10 u11 u12 u13 u14 u15 u16 u17 u18 u19 u21 u22 u23 u25 u26 u27 u28 u29 u30 u31 u32 u33 u34 u35 u36 u37 u38 u39 u40 u41 u42 u43 u44 u45 u46 u47 u48 u49 u50 u51 u52 u53 u54 u55 u56 u57 u58 u59 u60 u61 u62 u63 u64 u65 u66 u67 u68 u69 u70 u71 u72 u73 u74 u75 u76 u77 u78 u79 u80 u81 u82 u83 u84 u85 u86 u87 u88 u89 u90 u91 u92 u93 u94 u95 u96 u97 u98 u99 u100 u101 u102 u103 u104 u105 u106 u107 u108 u109 u110 u111 u112 u113 u114 u115 u116 u117 u118 u119 u120 u121 u122 u123 u124 u125 u126 u127 u128 u129 u130 u131 u132 u133 u134 u135 u136 u137 u138 u139 u140 u141 u142 u143 u144 u145 u146 u147 u148 u149 u150 u151 u152 u153 u154 u155 u156 u157 u158 u159 u160 u161 u162 u163 u164 u165 u166 u167 u168 u169 u170 u171 u172 u173 u174 u175 u176 u177 u178 u179 u180 u181 u182 u183 u184 u185 u186 u187 u188 u189 u190 u191 u192 u193 u194 u195 u196 u197 u198 u199 u200 u201 u202 u203 u204 u205 u206 u207 u208 u209 u210 u211 u212 u213 u214 u215 u216 u217 u218 u219 : Value} (Q : Exit → Act → World → Prop)
    (hexit : ∀ (v178 v179 v180 v181 v182 v183 v184 : Value) (rb : Bool), (rb = true ↔ x < y ∧ y < z) → Q .normal ⟨(u0 :: u1 :: .int .i64 y :: u3 :: u4 :: u5 :: u6 :: u7 :: u8 :: u9 :: u10 :: u11 :: u12 :: u13 :: u14 :: u15 :: u16 :: u17 :: u18 :: u19 :: .int .i64 x :: u21 :: u22 :: u23 :: .int .i64 z :: u25 :: u26 :: u27 :: u28 :: u29 :: u30 :: u31 :: u32 :: u33 :: u34 :: u35 :: u36 :: u37 :: u38 :: u39 :: u40 :: u41 :: u42 :: u43 :: u44 :: u45 :: u46 :: u47 :: u48 :: u49 :: u50 :: u51 :: u52 :: u53 :: u54 :: u55 :: u56 :: u57 :: u58 :: u59 :: u60 :: u61 :: u62 :: u63 :: u64 :: u65 :: u66 :: u67 :: u68 :: u69 :: u70 :: u71 :: u72 :: u73 :: u74 :: u75 :: u76 :: u77 :: u78 :: u79 :: u80 :: u81 :: u82 :: u83 :: u84 :: u85 :: u86 :: u87 :: u88 :: u89 :: u90 :: u91 :: u92 :: u93 :: u94 :: u95 :: u96 :: u97 :: u98 :: u99 :: u100 :: u101 :: u102 :: u103 :: u104 :: u105 :: u106 :: u107 :: u108 :: u109 :: u110 :: u111 :: u112 :: u113 :: u114 :: u115 :: u116 :: u117 :: u118 :: u119 :: u120 :: u121 :: u122 :: u123 :: u124 :: u125 :: u126 :: u127 :: u128 :: u129 :: u130 :: u131 :: u132 :: u133 :: u134 :: u135 :: u136 :: u137 :: u138 :: u139 :: u140 :: u141 :: u142 :: u143 :: u144 :: u145 :: u146 :: u147 :: u148 :: u149 :: u150 :: u151 :: u152 :: u153 :: u154 :: u155 :: u156 :: u157 :: u158 :: u159 :: u160 :: u161 :: u162 :: u163 :: u164 :: u165 :: u166 :: u167 :: u168 :: u169 :: u170 :: u171 :: u172 :: u173 :: u174 :: u175 :: u176 :: u177 :: v178 :: v179 :: v180 :: v181 :: v182 :: v183 :: v184 :: .bool rb :: u186 :: u187 :: u188 :: u189 :: u190 :: u191 :: u192 :: u193 :: u194 :: u195 :: u196 :: u197 :: u198 :: u199 :: u200 :: u201 :: u202 :: u203 :: u204 :: u205 :: u206 :: u207 :: u208 :: u209 :: u210 :: u211 :: u212 :: u213 :: u214 :: u215 :: u216 :: u217 :: u218 :: u219 :: []).toArray, []⟩ w) :
    Code.wp Try.prog bt39C Q ⟨(u0 :: u1 :: .int .i64 y :: u3 :: u4 :: u5 :: u6 :: u7 :: u8 :: u9 :: u10 :: u11 :: u12 :: u13 :: u14 :: u15 :: u16 :: u17 :: u18 :: u19 :: .int .i64 x :: u21 :: u22 :: u23 :: .int .i64 z :: u25 :: u26 :: u27 :: u28 :: u29 :: u30 :: u31 :: u32 :: u33 :: u34 :: u35 :: u36 :: u37 :: u38 :: u39 :: u40 :: u41 :: u42 :: u43 :: u44 :: u45 :: u46 :: u47 :: u48 :: u49 :: u50 :: u51 :: u52 :: u53 :: u54 :: u55 :: u56 :: u57 :: u58 :: u59 :: u60 :: u61 :: u62 :: u63 :: u64 :: u65 :: u66 :: u67 :: u68 :: u69 :: u70 :: u71 :: u72 :: u73 :: u74 :: u75 :: u76 :: u77 :: u78 :: u79 :: u80 :: u81 :: u82 :: u83 :: u84 :: u85 :: u86 :: u87 :: u88 :: u89 :: u90 :: u91 :: u92 :: u93 :: u94 :: u95 :: u96 :: u97 :: u98 :: u99 :: u100 :: u101 :: u102 :: u103 :: u104 :: u105 :: u106 :: u107 :: u108 :: u109 :: u110 :: u111 :: u112 :: u113 :: u114 :: u115 :: u116 :: u117 :: u118 :: u119 :: u120 :: u121 :: u122 :: u123 :: u124 :: u125 :: u126 :: u127 :: u128 :: u129 :: u130 :: u131 :: u132 :: u133 :: u134 :: u135 :: u136 :: u137 :: u138 :: u139 :: u140 :: u141 :: u142 :: u143 :: u144 :: u145 :: u146 :: u147 :: u148 :: u149 :: u150 :: u151 :: u152 :: u153 :: u154 :: u155 :: u156 :: u157 :: u158 :: u159 :: u160 :: u161 :: u162 :: u163 :: u164 :: u165 :: u166 :: u167 :: u168 :: u169 :: u170 :: u171 :: u172 :: u173 :: u174 :: u175 :: u176 :: u177 :: u178 :: u179 :: u180 :: u181 :: u182 :: u183 :: u184 :: u185 :: u186 :: u187 :: u188 :: u189 :: u190 :: u191 :: u192 :: u193 :: u194 :: u195 :: u196 :: u197 :: u198 :: u199 :: u200 :: u201 :: u202 :: u203 :: u204 :: u205 :: u206 :: u207 :: u208 :: u209 :: u210 :: u211 :: u212 :: u213 :: u214 :: u215 :: u216 :: u217 :: u218 :: u219 :: []).toArray, []⟩ w := by
  have HEX := Lib.hid hexit
  clear hexit
  conv => arg 2; whnf
  by_cases h1 : x < y
  · by_cases h2 : y < z
    · go_wp2_with fail
      exact HEX.out _ _ _ _ _ _ _ true ⟨fun _ => ⟨h1, h2⟩, fun _ => rfl⟩
    · go_wp2_with fail
      exact HEX.out _ _ _ _ _ _ _ false ⟨fun h => absurd h (by decide), fun h => (by exfalso; omega)⟩
  · go_wp2_with fail
    exact HEX.out _ _ _ _ _ _ _ false ⟨fun h => absurd h (by decide), fun h => (by exfalso; omega)⟩
noncomputable def bt41C : Code := codeOr (Try.f57.body.bind (regionAt 41))
set_option maxRecDepth 100000 in
theorem bt41_piece (x y z : Int) (w : World) {u0 u2 u3 u4 u5 u6 u7 u8 u9 u10 u11 u12 u13 u14 u15 u16 u17 u19 u21 u22 u23 u24 u25 u26 u27 u28 u29 u30 u31 u32 u33 u34 u35 u36 u37 u38 u39 u40 u41 u42 u43 u44 u45 u46 u47 u48 u49 u50 u51 u52 u53 u54 u55 u56 u57 u58 u59 u60 u61 u62 u63 u64 u65 u66 u67 u68 u69 u70 u71 u72 u73 u74 u75 u76 u77 u78 u79 u80 u81 u82 u83 u84 u85 u86 u87 u88 u89 u90 u91 u92 u93 u94 u95 u96 u97 u98 u99 u100 u101 u102 u103 u104 u105 u106 u107 u108 u109 u110 u111 u112 u113 u114 u115 u116 u117 u118 u119 u120 u121 u122 u123 u124 u125 u126 u127 u128 u129 u130 u131 u132 u133 u134 u135 u136 u137 u138 u139 u140 u141 u142 u143 u144 u145 u146 u147 u148 u149 u150 u151 u152 u153 u154 u155 u156 u157 u158 u159 u160 u161 u162 u163 u164 u165 u166 u167 u168 u169 u170 u171 u172 u173 u174 u175 u176 u177 u178 u179 u180 u181 u182 u183 u184 u185 u186 u187 u188 u189 u190 u191 u192 u193 u194 u195 u196 u197 u198 u199 u200 u201 u202 u203 u204 u205 u206 u207 u208 u209 u210 u211 u212 u213 u214 u215 u216 u217 u218 u219 : Value} (Q : Exit → Act → World → Prop)
    (hexit : ∀ (v192 v193 v194 v195 v196 v197 v198 : Value) (rb : Bool), (rb = true ↔ x < y ∧ y < z) → Q .normal ⟨(u0 :: .int .i64 x :: u2 :: u3 :: u4 :: u5 :: u6 :: u7 :: u8 :: u9 :: u10 :: u11 :: u12 :: u13 :: u14 :: u15 :: u16 :: u17 :: .int .i64 z :: u19 :: .int .i64 y :: u21 :: u22 :: u23 :: u24 :: u25 :: u26 :: u27 :: u28 :: u29 :: u30 :: u31 :: u32 :: u33 :: u34 :: u35 :: u36 :: u37 :: u38 :: u39 :: u40 :: u41 :: u42 :: u43 :: u44 :: u45 :: u46 :: u47 :: u48 :: u49 :: u50 :: u51 :: u52 :: u53 :: u54 :: u55 :: u56 :: u57 :: u58 :: u59 :: u60 :: u61 :: u62 :: u63 :: u64 :: u65 :: u66 :: u67 :: u68 :: u69 :: u70 :: u71 :: u72 :: u73 :: u74 :: u75 :: u76 :: u77 :: u78 :: u79 :: u80 :: u81 :: u82 :: u83 :: u84 :: u85 :: u86 :: u87 :: u88 :: u89 :: u90 :: u91 :: u92 :: u93 :: u94 :: u95 :: u96 :: u97 :: u98 :: u99 :: u100 :: u101 :: u102 :: u103 :: u104 :: u105 :: u106 :: u107 :: u108 :: u109 :: u110 :: u111 :: u112 :: u113 :: u114 :: u115 :: u116 :: u117 :: u118 :: u119 :: u120 :: u121 :: u122 :: u123 :: u124 :: u125 :: u126 :: u127 :: u128 :: u129 :: u130 :: u131 :: u132 :: u133 :: u134 :: u135 :: u136 :: u137 :: u138 :: u139 :: u140 :: u141 :: u142 :: u143 :: u144 :: u145 :: u146 :: u147 :: u148 :: u149 :: u150 :: u151 :: u152 :: u153 :: u154 :: u155 :: u156 :: u157 :: u158 :: u159 :: u160 :: u161 :: u162 :: u163 :: u164 :: u165 :: u166 :: u167 :: u168 :: u169 :: u170 :: u171 :: u172 :: u173 :: u174 :: u175 :: u176 :: u177 :: u178 :: u179 :: u180 :: u181 :: u182 :: u183 :: u184 :: u185 :: u186 :: u187 :: u188 :: u189 :: u190 :: u191 :: v192 :: v193 :: v194 :: v195 :: v196 :: v197 :: v198 :: .bool rb :: u200 :: u201 :: u202 :: u203 :: u204 :: u205 :: u206 :: u207 :: u208 :: u209 :: u210 :: u211 :: u212 :: u213 :: u214 :: u215 :: u216 :: u217 :: u218 :: u219 :: []).toArray, []⟩ w) :
    Code.wp Try.prog bt41C Q ⟨(u0 :: .int .i64 x :: u2 :: u3 :: u4 :: u5 :: u6 :: u7 :: u8 :: u9 :: u10 :: u11 :: u12 :: u13 :: u14 :: u15 :: u16 :: u17 :: .int .i64 z :: u19 :: .int .i64 y :: u21 :: u22 :: u23 :: u24 :: u25 :: u26 :: u27 :: u28 :: u29 :: u30 :: u31 :: u32 :: u33 :: u34 :: u35 :: u36 :: u37 :: u38 :: u39 :: u40 :: u41 :: u42 :: u43 :: u44 :: u45 :: u46 :: u47 :: u48 :: u49 :: u50 :: u51 :: u52 :: u53 :: u54 :: u55 :: u56 :: u57 :: u58 :: u59 :: u60 :: u61 :: u62 :: u63 :: u64 :: u65 :: u66 :: u67 :: u68 :: u69 :: u70 :: u71 :: u72 :: u73 :: u74 :: u75 :: u76 :: u77 :: u78 :: u79 :: u80 :: u81 :: u82 :: u83 :: u84 :: u85 :: u86 :: u87 :: u88 :: u89 :: u90 :: u91 :: u92 :: u93 :: u94 :: u95 :: u96 :: u97 :: u98 :: u99 :: u100 :: u101 :: u102 :: u103 :: u104 :: u105 :: u106 :: u107 :: u108 :: u109 :: u110 :: u111 :: u112 :: u113 :: u114 :: u115 :: u116 :: u117 :: u118 :: u119 :: u120 :: u121 :: u122 :: u123 :: u124 :: u125 :: u126 :: u127 :: u128 :: u129 :: u130 :: u131 :: u132 :: u133 :: u134 :: u135 :: u136 :: u137 :: u138 :: u139 :: u140 :: u141 :: u142 :: u143 :: u144 :: u145 :: u146 :: u147 :: u148 :: u149 :: u150 :: u151 :: u152 :: u153 :: u154 :: u155 :: u156 :: u157 :: u158 :: u159 :: u160 :: u161 :: u162 :: u163 :: u164 :: u165 :: u166 :: u167 :: u168 :: u169 :: u170 :: u171 :: u172 :: u173 :: u174 :: u175 :: u176 :: u177 :: u178 :: u179 :: u180 :: u181 :: u182 :: u183 :: u184 :: u185 :: u186 :: u187 :: u188 :: u189 :: u190 :: u191 :: u192 :: u193 :: u194 :: u195 :: u196 :: u197 :: u198 :: u199 :: u200 :: u201 :: u202 :: u203 :: u204 :: u205 :: u206 :: u207 :: u208 :: u209 :: u210 :: u211 :: u212 :: u213 :: u214 :: u215 :: u216 :: u217 :: u218 :: u219 :: []).toArray, []⟩ w := by
  have HEX := Lib.hid hexit
  clear hexit
  conv => arg 2; whnf
  by_cases h1 : x < y
  · by_cases h2 : y < z
    · go_wp2_with fail
      exact HEX.out _ _ _ _ _ _ _ true ⟨fun _ => ⟨h1, h2⟩, fun _ => rfl⟩
    · go_wp2_with fail
      exact HEX.out _ _ _ _ _ _ _ false ⟨fun h => absurd h (by decide), fun h => (by exfalso; omega)⟩
  · go_wp2_with fail
    exact HEX.out _ _ _ _ _ _ _ false ⟨fun h => absurd h (by decide), fun h => (by exfalso; omega)⟩
noncomputable def bt43C : Code := codeOr (Try.f57.body.bind (regionAt 43))
set_option maxRecDepth 100000 in
theorem bt43_piece (x y z : Int) (w : World) {u0 u1 u2 u4 u5 u6 u7 u8 u9 u10 u11 u12 u13 u14 u15 u16 u17 u19 u20 u21 u22 u23 u25 u26 u27 u28 u29 u30 u31 u32 u33 u34 u35 u36 u37 u38 u39 u40 u41 u42 u43 u44 u45 u46 u47 u48 u49 u50 u51 u52 u53 u54 u55 u56 u57 u58 u59 u60 u61 u62 u63 u64 u65 u66 u67 u68 u69 u70 u71 u72 u73 u74 u75 u76 u77 u78 u79 u80 u81 u82 u83 u84 u85 u86 u87 u88 u89 u90 u91 u92 u93 u94 u95 u96 u97 u98 u99 u100 u101 u102 u103 u104 u105 u106 u107 u108 u109 u110 u111 u112 u113 u114 u115 u116 u117 u118 u119 u120 u121 u122 u123 u124 u125 u126 u127 u128 u129 u130 u131 u132 u133 u134 u135 u136 u137 u138 u139 u140 u141 u142 u143 u144 u145 u146 u147 u148 u149 u150 u151 u152 u153 u154 u155 u156 u157 u158 u159 u160 u161 u162 u163 u164 u165 u166 u167 u168 u169 u170 u171 u172 u173 u174 u175 u176 u177 u178 u179 u180 u181 u182 u183 u184 u185 u186 u187 u188 u189 u190 u191 u192 u193 u194 u195 u196 u197 u198 u199 u200 u201 u202 u203 u204 u205 u206 u207 u208 u209 u210 u211 u212 u213 u214 u215 u216 u217 u218 u219 : Value} (Q : Exit → Act → World → Prop)
    (hexit : ∀ (v206 v207 v208 v209 v210 v211 v212 : Value) (rb : Bool), (rb = true ↔ x < y ∧ y < z) → Q .normal ⟨(u0 :: u1 :: u2 :: .int .i64 z :: u4 :: u5 :: u6 :: u7 :: u8 :: u9 :: u10 :: u11 :: u12 :: u13 :: u14 :: u15 :: u16 :: u17 :: .int .i64 x :: u19 :: u20 :: u21 :: u22 :: u23 :: .int .i64 y :: u25 :: u26 :: u27 :: u28 :: u29 :: u30 :: u31 :: u32 :: u33 :: u34 :: u35 :: u36 :: u37 :: u38 :: u39 :: u40 :: u41 :: u42 :: u43 :: u44 :: u45 :: u46 :: u47 :: u48 :: u49 :: u50 :: u51 :: u52 :: u53 :: u54 :: u55 :: u56 :: u57 :: u58 :: u59 :: u60 :: u61 :: u62 :: u63 :: u64 :: u65 :: u66 :: u67 :: u68 :: u69 :: u70 :: u71 :: u72 :: u73 :: u74 :: u75 :: u76 :: u77 :: u78 :: u79 :: u80 :: u81 :: u82 :: u83 :: u84 :: u85 :: u86 :: u87 :: u88 :: u89 :: u90 :: u91 :: u92 :: u93 :: u94 :: u95 :: u96 :: u97 :: u98 :: u99 :: u100 :: u101 :: u102 :: u103 :: u104 :: u105 :: u106 :: u107 :: u108 :: u109 :: u110 :: u111 :: u112 :: u113 :: u114 :: u115 :: u116 :: u117 :: u118 :: u119 :: u120 :: u121 :: u122 :: u123 :: u124 :: u125 :: u126 :: u127 :: u128 :: u129 :: u130 :: u131 :: u132 :: u133 :: u134 :: u135 :: u136 :: u137 :: u138 :: u139 :: u140 :: u141 :: u142 :: u143 :: u144 :: u145 :: u146 :: u147 :: u148 :: u149 :: u150 :: u151 :: u152 :: u153 :: u154 :: u155 :: u156 :: u157 :: u158 :: u159 :: u160 :: u161 :: u162 :: u163 :: u164 :: u165 :: u166 :: u167 :: u168 :: u169 :: u170 :: u171 :: u172 :: u173 :: u174 :: u175 :: u176 :: u177 :: u178 :: u179 :: u180 :: u181 :: u182 :: u183 :: u184 :: u185 :: u186 :: u187 :: u188 :: u189 :: u190 :: u191 :: u192 :: u193 :: u194 :: u195 :: u196 :: u197 :: u198 :: u199 :: u200 :: u201 :: u202 :: u203 :: u204 :: u205 :: v206 :: v207 :: v208 :: v209 :: v210 :: v211 :: v212 :: .bool rb :: u214 :: u215 :: u216 :: u217 :: u218 :: u219 :: []).toArray, []⟩ w) :
    Code.wp Try.prog bt43C Q ⟨(u0 :: u1 :: u2 :: .int .i64 z :: u4 :: u5 :: u6 :: u7 :: u8 :: u9 :: u10 :: u11 :: u12 :: u13 :: u14 :: u15 :: u16 :: u17 :: .int .i64 x :: u19 :: u20 :: u21 :: u22 :: u23 :: .int .i64 y :: u25 :: u26 :: u27 :: u28 :: u29 :: u30 :: u31 :: u32 :: u33 :: u34 :: u35 :: u36 :: u37 :: u38 :: u39 :: u40 :: u41 :: u42 :: u43 :: u44 :: u45 :: u46 :: u47 :: u48 :: u49 :: u50 :: u51 :: u52 :: u53 :: u54 :: u55 :: u56 :: u57 :: u58 :: u59 :: u60 :: u61 :: u62 :: u63 :: u64 :: u65 :: u66 :: u67 :: u68 :: u69 :: u70 :: u71 :: u72 :: u73 :: u74 :: u75 :: u76 :: u77 :: u78 :: u79 :: u80 :: u81 :: u82 :: u83 :: u84 :: u85 :: u86 :: u87 :: u88 :: u89 :: u90 :: u91 :: u92 :: u93 :: u94 :: u95 :: u96 :: u97 :: u98 :: u99 :: u100 :: u101 :: u102 :: u103 :: u104 :: u105 :: u106 :: u107 :: u108 :: u109 :: u110 :: u111 :: u112 :: u113 :: u114 :: u115 :: u116 :: u117 :: u118 :: u119 :: u120 :: u121 :: u122 :: u123 :: u124 :: u125 :: u126 :: u127 :: u128 :: u129 :: u130 :: u131 :: u132 :: u133 :: u134 :: u135 :: u136 :: u137 :: u138 :: u139 :: u140 :: u141 :: u142 :: u143 :: u144 :: u145 :: u146 :: u147 :: u148 :: u149 :: u150 :: u151 :: u152 :: u153 :: u154 :: u155 :: u156 :: u157 :: u158 :: u159 :: u160 :: u161 :: u162 :: u163 :: u164 :: u165 :: u166 :: u167 :: u168 :: u169 :: u170 :: u171 :: u172 :: u173 :: u174 :: u175 :: u176 :: u177 :: u178 :: u179 :: u180 :: u181 :: u182 :: u183 :: u184 :: u185 :: u186 :: u187 :: u188 :: u189 :: u190 :: u191 :: u192 :: u193 :: u194 :: u195 :: u196 :: u197 :: u198 :: u199 :: u200 :: u201 :: u202 :: u203 :: u204 :: u205 :: u206 :: u207 :: u208 :: u209 :: u210 :: u211 :: u212 :: u213 :: u214 :: u215 :: u216 :: u217 :: u218 :: u219 :: []).toArray, []⟩ w := by
  have HEX := Lib.hid hexit
  clear hexit
  conv => arg 2; whnf
  by_cases h1 : x < y
  · by_cases h2 : y < z
    · go_wp2_with fail
      exact HEX.out _ _ _ _ _ _ _ true ⟨fun _ => ⟨h1, h2⟩, fun _ => rfl⟩
    · go_wp2_with fail
      exact HEX.out _ _ _ _ _ _ _ false ⟨fun h => absurd h (by decide), fun h => (by exfalso; omega)⟩
  · go_wp2_with fail
    exact HEX.out _ _ _ _ _ _ _ false ⟨fun h => absurd h (by decide), fun h => (by exfalso; omega)⟩
theorem Mrg.empty {κ : Int → Int} {a m b : Nat} {xs : Nat → Int} (h : Mrg κ a m b xs) (he : ¬ ((a : Int) < m ∧ (m : Int) < b)) : Mrgd κ a b xs xs := by
  have h1 := h.am
  have h2 := h.mb
  refine Mrgd.id ?_
  by_cases e : a = m
  · rw [e]; exact h.right
  · have : m = b := by omega
    rw [← this]; exact h.left
set_option maxRecDepth 100000 in
set_option maxHeartbeats 8000000 in
theorem symMerge_any (g o n c : Nat) (pl : Addr) (κ : Int → Int) (V : Int → Prop) (hn : n ≤ 1152921504606) : ∀ (N a m b : Nat) (xs : Nat → Int) (w : World), b - a ≤ N → a < m → m < b → b ≤ n → Cmp w g pl κ V → RowI w g o n xs → Vs V n xs → Mrg κ a m b xs →
    Calls Try.prog 57 #[.slice (some ⟨g, o, none⟩) n c, .int .i64 a, .int .i64 m, .int .i64 b, .func (.func 18) #[] #[.pointer (some pl)]] w fun r w' => r = .returned (.tuple #[]) ∧ (∃ ys, RowI w' g o n ys ∧ Mrgd κ a b xs ys) ∧ Chg (One g) w w' := by
  intro N
  induction N with
  | zero => intro a m b xs w h1 h2 h3; omega
  | succ N ih =>
    intro a m b xs w hN ham hmb hb hC hR hV hM
    have IH := Lib.hid ih
    have HC0 := Lib.hid hC
    have HR0 := Lib.hid hR
    have HV0 := Lib.hid hV
    have HM := Lib.hid hM
    have hw1 := IntWalk.i64_in ((m : Int) - (a : Int)) (by omega)
    have hw2 := IntWalk.i64_in ((b : Int) - (m : Int)) (by omega)
    clear ih hC hR hV hM
    by_cases h1 : m = a + 1
    · have hd : ((m : Int) - (a : Int) == 1) = true := by rw [beq_iff_eq]; omega
      go_enter Try.func57, Try.ntmps57
      go_upto_region 3 with fail
      refine sm0_in g o n c a m b pl κ V xs w _ (by exact Lib.hid (fun _ _ _ _ h => h)) ham (by omega) hb hn HC0 HR0 HV0 (Lib.hid (fun t h1 h2 => HM.out.cross a t (Nat.le_refl _) ham h1 h2)) ?_
      intro v11 v12 v31 v32 v33 v34 v35 v36 v37 v38 v39 v40 v41 v42 v43 v44 v45 v46 v47 v48 v49 v50 v51 v52 v53 i w1 hi1 hi2 hlo hhi hc1
      have HLO := Lib.hid hlo
      have HHI := Lib.hid hhi
      have HC1 := Lib.hid hc1
      have HR1 := Lib.hid (HR0.out.chg hc1 (fun h => h))
      clear hlo hhi hc1
      go_upto_region 9 with fail
      refine sm2_in g o n c a i xs w1 _ (by exact Lib.hid (fun _ _ _ _ h => h)) (by omega) (by omega) hn HR1 ?_
      intro v13 v55 v56 v57 v58 v59 v60 v61 v62 v63 v64 v65 v66 v67 v68 v69 v70 v71 v72 v73 v74 v75 v76 w2 zs hr2 hrot hc2
      have HR2 := Lib.hid hr2
      have HROT : Hid (Rot a m i xs zs) := Lib.hid (by rw [h1]; exact hrot)
      have HC2 : Hid (Chg (One g) w w2) := Lib.hid ((HC1.out.mono (fun _ _ h => absurd h (fun h => h))).trans hc2 (fun _ _ h => h))
      clear hr2 hrot hc2
      go_wp2
      refine bodyPost_ret (results_none (by kernel_rfl) _ _ _) rfl ?_
      exact ⟨rfl, ⟨zs, HR2.out, merge_left1 HM.out h1 hi1 hi2 HLO.out HHI.out HROT.out⟩, HC2.out⟩
    · have hd : ((m : Int) - (a : Int) == 1) = false := by rw [beq_eq_false_iff_ne]; omega
      by_cases h2 : b = m + 1
      · have hd2 : ((b : Int) - (m : Int) == 1) = true := by rw [beq_iff_eq]; omega
        go_enter Try.func57, Try.ntmps57
        go_upto_region 15 with fail
        refine sm4_in g o n c a m pl κ V xs w _ (by exact Lib.hid (fun _ _ _ _ h => h)) (by omega) (by omega) hn HC0 HR0 HV0 (Lib.hid (fun t h1 h2 => HM.out.cross t m h1 h2 (Nat.le_refl _) hmb)) ?_
        intro v15 v16 v83 v84 v85 v86 v87 v88 v89 v90 v91 v92 v93 v94 v95 v96 v97 v98 v99 v100 v101 v102 v103 v104 v105 v106 i w1 hi1 hi2 hlo hhi hc1
        have HLO := Lib.hid hlo
        have HHI := Lib.hid hhi
        have HC1 := Lib.hid hc1
        have HR1 := Lib.hid (HR0.out.chg hc1 (fun h => h))
        clear hlo hhi hc1
        go_upto_region 21 with fail
        refine sm6_in g o n c m i xs w1 _ (by exact Lib.hid (fun _ _ _ _ h => h)) (by omega) (by omega) hn HR1 ?_
        intro v17 v108 v109 v110 v111 v112 v113 v114 v115 v116 v117 v118 v119 v120 v121 v122 v123 v124 v125 v126 v127 v128 w2 zs hr2 hrot hc2
        have HR2 := Lib.hid hr2
        have HROT : Hid (Rot i m b xs zs) := Lib.hid (by rw [h2]; exact hrot)
        have HC2 : Hid (Chg (One g) w w2) := Lib.hid ((HC1.out.mono (fun _ _ h => absurd h (fun h => h))).trans hc2 (fun _ _ h => h))
        clear hr2 hrot hc2
        go_wp2
        refine bodyPost_ret (results_none (by kernel_rfl) _ _ _) rfl ?_
        exact ⟨rfl, ⟨zs, HR2.out, merge_right1 HM.out h2 hi1 hi2 HLO.out HHI.out HROT.out⟩, HC2.out⟩
      · have hd2 : ((b : Int) - (m : Int) == 1) = false := by rw [beq_eq_false_iff_ne]; omega
        obtain ⟨mid, hmid⟩ : ∃ mid, mid = (a + b) / 2 := ⟨_, rfl⟩
        have hw3 := IntWalk.i64_in ((a : Int) + (b : Int)) (by omega)
        have hh1 : ((a : Int) + (b : Int)) / 2 = (mid : Int) := by omega
        have hw4 := IntWalk.i64_in ((mid : Int) + (m : Int)) (by omega)
        have hw7 := IntWalk.i64_in ((mid : Int) + (m : Int) - (b : Int)) (by omega)
        have hw8 := IntWalk.i64_in ((mid : Int) + (m : Int) - 1) (by omega)
        have hh2 : (mid : Int) + (m : Int) - 1 = ((mid + m - 1 : Nat) : Int) := by omega
        have HMID := Lib.hid hmid
        by_cases h3 : mid < m
        · have hd3 : (mid : Int) < (m : Int) := by omega
          have hh3 : (mid : Int) + (m : Int) - (b : Int) = ((mid + m - b : Nat) : Int) := by omega
          clear hmid
          go_enter Try.func57, Try.ntmps57
          go_upto_region 33 with fail
          have hmid := HMID.out
          refine sm8_in g o n c m (mid + m) (mid + m - 1) (mid + m - b) mid pl κ V xs w _ (by exact Lib.hid (fun _ _ _ _ h => h)) (by omega) (by omega) (by omega) (by omega) hn HC0 HR0 HV0 (Lib.hid (fun t h1 h2 => ⟨by omega, by omega, by omega, HM.out.cross t (mid + m - 1 - t) (by omega) (by omega) (by omega) (by omega)⟩)) ?_
          intro v21 v23 v149 v150 v151 v152 v153 v154 v155 v156 v157 v158 v159 v160 v161 v162 v163 v164 v165 v166 v167 v168 v169 v170 v171 v172 v173 v174 s w1 hf hc1
          have hs0 := hf.lo_
          have hs9 := hf.hi_
          obtain ⟨e, he⟩ : ∃ e, e = mid + m - s := ⟨_, rfl⟩
          have hs1 : a ≤ s := by omega
          have hs2 : s ≤ m := by omega
          have he1 : m ≤ e := by omega
          have he2 : e ≤ b := by omega
          have hse : s + e = mid + m := by omega
          have HLO : Hid (a < s → e < b → LL κ (xs (s - 1)) (xs e)) := Lib.hid (fun h1 h2 => by rw [he]; exact hf.below (by omega))
          have HHI : Hid (s < m → m < e → LL κ (xs (e - 1)) (xs s)) := Lib.hid (fun h1 h2 => by have := hf.above (by omega); rw [show mid + m - 1 - s = e - 1 by omega] at this; exact this)
          have HC1 : Hid (Chg (One g) w w1) := Lib.hid (hc1.mono (fun _ _ h => absurd h (fun h => h)))
          have HR1 := Lib.hid (HR0.out.chg hc1 (fun h => h))
          have hw5 := IntWalk.i64_in ((mid : Int) + (m : Int) - (s : Int)) (by omega)
          have hw6 : (mid : Int) + (m : Int) - (s : Int) = (e : Int) := by omega
          have hq1 : mid - a ≤ N := by omega
          have hq2 : b - mid ≤ N := by omega
          have hq3 : a < mid := by omega
          have hq4 : mid < b := by omega
          clear hf hc1 he hs0 hs9 hmid
          go_upto_region 39 with fail
          refine bt39_piece _ _ _ _ _ ?_
          intro v178 v179 v180 v181 v182 v183 v184 rb hrb
          have HRB := Lib.hid hrb
          clear hrb
          cases rb with
          | false =>
            have hno : ¬ ((s : Int) < m ∧ (m : Int) < e) := fun h => absurd (HRB.out.2 h) (by decide)
            obtain ⟨ys, HR2, HROT⟩ : ∃ ys, Hid (RowI w1 g o n ys) ∧ Hid (Rot s m e xs ys) := ⟨xs, HR1, Lib.hid (by
              by_cases h : s = m
              · rw [h]; exact Rot.id' _ _ _
              · rw [show e = m by omega]; exact Rot.id _ _ _)⟩
            clear HRB hno
            go_upto_region 41 with fail
            have HF1 : Hid (Mrg κ a s mid ys) := Lib.hid (merge_first HM.out hs1 hs2 he1 he2 hse HROT.out)
            refine bt41_piece _ _ _ _ _ ?_
            intro v192 v193 v194 v195 v196 v197 v198 rb hrb
            have HRB := Lib.hid hrb
            clear hrb
            cases rb with
            | false =>
              obtain ⟨zs, HR3, HD1⟩ : ∃ zs, Hid (RowI w1 g o n zs) ∧ Hid (Mrgd κ a mid ys zs) := ⟨ys, HR2, Lib.hid (HF1.out.empty (fun h => absurd (HRB.out.2 h) (by decide)))⟩
              clear HRB
              go_upto_region 43 with fail
              have HF2 : Hid (Mrg κ mid e b zs) := Lib.hid (merge_second HM.out hs1 hs2 he1 he2 hse HROT.out HD1.out.out)
              refine bt43_piece _ _ _ _ _ ?_
              intro v206 v207 v208 v209 v210 v211 v212 rb hrb
              have HRB := Lib.hid hrb
              clear hrb
              cases rb with
              | false =>
                obtain ⟨us, HR4, HD2⟩ : ∃ us, Hid (RowI w1 g o n us) ∧ Hid (Mrgd κ mid b zs us) := ⟨zs, HR3, Lib.hid (HF2.out.empty (fun h => absurd (HRB.out.2 h) (by decide)))⟩
                go_wp2
                go_end0
                exact ⟨rfl, ⟨us, HR4.out, merge_join HM.out HMID.out hs1 hs2 he1 he2 hse (fun h1 h2 => HLO.out h1 h2) (fun h1 h2 => HHI.out h1 h2) HROT.out HD1.out HD2.out⟩, HC1.out⟩
              | true =>
                have hlt := HRB.out.1 rfl
                have HC9 := Lib.hid (HC0.out.next HC1.out)
                have HV9 : Hid (Vs V n zs) := Lib.hid ((HV0.out.same (HROT.out.same hs2 he1) HROT.out.2.2 (by omega)).same HD1.out.same HD1.out.out (by omega))
                go_wp2_with (go_at_call 57; go_loud (refine (IH.out mid e b zs w1 (by omega) (by omega) (by omega) hb HC9.out HR3.out HV9.out HF2.out).mono ?_); rintro r w9 ⟨rfl, ⟨us, q1, q2⟩, q3⟩; have HR4 := Lib.hid q1; have HD2 := Lib.hid q2; have HC4 := Lib.hid (HC1.out.trans q3 (fun _ _ h => h)); clear q1 q2 q3)
                go_end0
                exact ⟨rfl, ⟨us, HR4.out, merge_join HM.out HMID.out hs1 hs2 he1 he2 hse (fun h1 h2 => HLO.out h1 h2) (fun h1 h2 => HHI.out h1 h2) HROT.out HD1.out HD2.out⟩, HC4.out⟩
            | true =>
              have hlt := HRB.out.1 rfl
              have HC8 := Lib.hid (HC0.out.next HC1.out)
              have HV8 : Hid (Vs V n ys) := Lib.hid (HV0.out.same (HROT.out.same hs2 he1) HROT.out.2.2 (by omega))
              clear HRB
              go_upto_region 43 with (go_at_call 57; go_loud (refine (IH.out a s mid ys w1 (by omega) (by omega) (by omega) (by omega) HC8.out HR2.out HV8.out HF1.out).mono ?_); rintro r w8 ⟨rfl, ⟨zs, q1, q2⟩, q3⟩; have HR3 := Lib.hid q1; have HD1 := Lib.hid q2; have HC3 := Lib.hid (HC1.out.trans q3 (fun _ _ h => h)); clear q1 q2 q3 hlt)
              have HF2 : Hid (Mrg κ mid e b zs) := Lib.hid (merge_second HM.out hs1 hs2 he1 he2 hse HROT.out HD1.out.out)
              refine bt43_piece _ _ _ _ _ ?_
              intro v206 v207 v208 v209 v210 v211 v212 rb hrb
              have HRB := Lib.hid hrb
              clear hrb
              cases rb with
              | false =>
                obtain ⟨us, HR4, HD2⟩ : ∃ us, Hid (RowI w8 g o n us) ∧ Hid (Mrgd κ mid b zs us) := ⟨zs, HR3, Lib.hid (HF2.out.empty (fun h => absurd (HRB.out.2 h) (by decide)))⟩
                go_wp2
                go_end0
                exact ⟨rfl, ⟨us, HR4.out, merge_join HM.out HMID.out hs1 hs2 he1 he2 hse (fun h1 h2 => HLO.out h1 h2) (fun h1 h2 => HHI.out h1 h2) HROT.out HD1.out HD2.out⟩, HC3.out⟩
              | true =>
                have hlt := HRB.out.1 rfl
                have HC9 := Lib.hid (HC0.out.next HC3.out)
                have HV9 : Hid (Vs V n zs) := Lib.hid ((HV0.out.same (HROT.out.same hs2 he1) HROT.out.2.2 (by omega)).same HD1.out.same HD1.out.out (by omega))
                go_wp2_with (go_at_call 57; go_loud (refine (IH.out mid e b zs w8 (by omega) (by omega) (by omega) hb HC9.out HR3.out HV9.out HF2.out).mono ?_); rintro r w9 ⟨rfl, ⟨us, q1, q2⟩, q3⟩; have HR4 := Lib.hid q1; have HD2 := Lib.hid q2; have HC4 := Lib.hid (HC3.out.trans q3 (fun _ _ h => h)); clear q1 q2 q3)
                go_end0
                exact ⟨rfl, ⟨us, HR4.out, merge_join HM.out HMID.out hs1 hs2 he1 he2 hse (fun h1 h2 => HLO.out h1 h2) (fun h1 h2 => HHI.out h1 h2) HROT.out HD1.out HD2.out⟩, HC4.out⟩
          | true =>
            have hlt := HRB.out.1 rfl
            clear HRB
            go_upto_region 41 with (go_at_call 64; go_loud (refine (rotate_any g o n c s m e _ xs w1 hn (by omega) (by omega) (by omega) HR1.out).mono ?_); rintro r w7 ⟨rfl, ⟨ys, q1, q2⟩, q3⟩; have HR2 := Lib.hid q1; have HROT := Lib.hid q2; have HC2 := Lib.hid (HC1.out.trans q3 (fun _ _ h => h)); clear q1 q2 q3 hlt)
            have HF1 : Hid (Mrg κ a s mid ys) := Lib.hid (merge_first HM.out hs1 hs2 he1 he2 hse HROT.out)
            refine bt41_piece _ _ _ _ _ ?_
            intro v192 v193 v194 v195 v196 v197 v198 rb hrb
            have HRB := Lib.hid hrb
            clear hrb
            cases rb with
            | false =>
              obtain ⟨zs, HR3, HD1⟩ : ∃ zs, Hid (RowI w7 g o n zs) ∧ Hid (Mrgd κ a mid ys zs) := ⟨ys, HR2, Lib.hid (HF1.out.empty (fun h => absurd (HRB.out.2 h) (by decide)))⟩
              clear HRB
              go_upto_region 43 with fail
              have HF2 : Hid (Mrg κ mid e b zs) := Lib.hid (merge_second HM.out hs1 hs2 he1 he2 hse HROT.out HD1.out.out)
              refine bt43_piece _ _ _ _ _ ?_
              intro v206 v207 v208 v209 v210 v211 v212 rb hrb
              have HRB := Lib.hid hrb
              clear hrb
              cases rb with
              | false =>
                obtain ⟨us, HR4, HD2⟩ : ∃ us, Hid (RowI w7 g o n us) ∧ Hid (Mrgd κ mid b zs us) := ⟨zs, HR3, Lib.hid (HF2.out.empty (fun h => absurd (HRB.out.2 h) (by decide)))⟩
                go_wp2
                go_end0
                exact ⟨rfl, ⟨us, HR4.out, merge_join HM.out HMID.out hs1 hs2 he1 he2 hse (fun h1 h2 => HLO.out h1 h2) (fun h1 h2 => HHI.out h1 h2) HROT.out HD1.out HD2.out⟩, HC2.out⟩
              | true =>
                have hlt := HRB.out.1 rfl
                have HC9 := Lib.hid (HC0.out.next HC2.out)
                have HV9 : Hid (Vs V n zs) := Lib.hid ((HV0.out.same (HROT.out.same hs2 he1) HROT.out.2.2 (by omega)).same HD1.out.same HD1.out.out (by omega))
                go_wp2_with (go_at_call 57; go_loud (refine (IH.out mid e b zs w7 (by omega) (by omega) (by omega) hb HC9.out HR3.out HV9.out HF2.out).mono ?_); rintro r w9 ⟨rfl, ⟨us, q1, q2⟩, q3⟩; have HR4 := Lib.hid q1; have HD2 := Lib.hid q2; have HC4 := Lib.hid (HC2.out.trans q3 (fun _ _ h => h)); clear q1 q2 q3)
                go_end0
                exact ⟨rfl, ⟨us, HR4.out, merge_join HM.out HMID.out hs1 hs2 he1 he2 hse (fun h1 h2 => HLO.out h1 h2) (fun h1 h2 => HHI.out h1 h2) HROT.out HD1.out HD2.out⟩, HC4.out⟩
            | true =>
              have hlt := HRB.out.1 rfl
              have HC8 := Lib.hid (HC0.out.next HC2.out)
              have HV8 : Hid (Vs V n ys) := Lib.hid (HV0.out.same (HROT.out.same hs2 he1) HROT.out.2.2 (by omega))
              clear HRB
              go_upto_region 43 with (go_at_call 57; go_loud (refine (IH.out a s mid ys w7 (by omega) (by omega) (by omega) (by omega) HC8.out HR2.out HV8.out HF1.out).mono ?_); rintro r w8 ⟨rfl, ⟨zs, q1, q2⟩, q3⟩; have HR3 := Lib.hid q1; have HD1 := Lib.hid q2; have HC3 := Lib.hid (HC2.out.trans q3 (fun _ _ h => h)); clear q1 q2 q3 hlt)
              have HF2 : Hid (Mrg κ mid e b zs) := Lib.hid (merge_second HM.out hs1 hs2 he1 he2 hse HROT.out HD1.out.out)
              refine bt43_piece _ _ _ _ _ ?_
              intro v206 v207 v208 v209 v210 v211 v212 rb hrb
              have HRB := Lib.hid hrb
              clear hrb
              cases rb with
              | false =>
                obtain ⟨us, HR4, HD2⟩ : ∃ us, Hid (RowI w8 g o n us) ∧ Hid (Mrgd κ mid b zs us) := ⟨zs, HR3, Lib.hid (HF2.out.empty (fun h => absurd (HRB.out.2 h) (by decide)))⟩
                go_wp2
                go_end0
                exact ⟨rfl, ⟨us, HR4.out, merge_join HM.out HMID.out hs1 hs2 he1 he2 hse (fun h1 h2 => HLO.out h1 h2) (fun h1 h2 => HHI.out h1 h2) HROT.out HD1.out HD2.out⟩, HC3.out⟩
              | true =>
                have hlt := HRB.out.1 rfl
                have HC9 := Lib.hid (HC0.out.next HC3.out)
                have HV9 : Hid (Vs V n zs) := Lib.hid ((HV0.out.same (HROT.out.same hs2 he1) HROT.out.2.2 (by omega)).same HD1.out.same HD1.out.out (by omega))
                go_wp2_with (go_at_call 57; go_loud (refine (IH.out mid e b zs w8 (by omega) (by omega) (by omega) hb HC9.out HR3.out HV9.out HF2.out).mono ?_); rintro r w9 ⟨rfl, ⟨us, q1, q2⟩, q3⟩; have HR4 := Lib.hid q1; have HD2 := Lib.hid q2; have HC4 := Lib.hid (HC3.out.trans q3 (fun _ _ h => h)); clear q1 q2 q3)
                go_end0
                exact ⟨rfl, ⟨us, HR4.out, merge_join HM.out HMID.out hs1 hs2 he1 he2 hse (fun h1 h2 => HLO.out h1 h2) (fun h1 h2 => HHI.out h1 h2) HROT.out HD1.out HD2.out⟩, HC4.out⟩
        · have hd3 : ¬ (mid : Int) < (m : Int) := by omega
          clear hmid
          go_enter Try.func57, Try.ntmps57
          go_upto_region 33 with fail
          have hmid := HMID.out
          refine sm8_in g o n c m (mid + m) (mid + m - 1) a m pl κ V xs w _ (by exact Lib.hid (fun _ _ _ _ h => h)) (by omega) (by omega) (by omega) (by omega) hn HC0 HR0 HV0 (Lib.hid (fun t h1 h2 => ⟨by omega, by omega, by omega, HM.out.cross t (mid + m - 1 - t) (by omega) (by omega) (by omega) (by omega)⟩)) ?_
          intro v21 v23 v149 v150 v151 v152 v153 v154 v155 v156 v157 v158 v159 v160 v161 v162 v163 v164 v165 v166 v167 v168 v169 v170 v171 v172 v173 v174 s w1 hf hc1
          have hs0 := hf.lo_
          have hs9 := hf.hi_
          obtain ⟨e, he⟩ : ∃ e, e = mid + m - s := ⟨_, rfl⟩
          have hs1 : a ≤ s := by omega
          have hs2 : s ≤ m := by omega
          have he1 : m ≤ e := by omega
          have he2 : e ≤ b := by omega
          have hse : s + e = mid + m := by omega
          have HLO : Hid (a < s → e < b → LL κ (xs (s - 1)) (xs e)) := Lib.hid (fun h1 h2 => by rw [he]; exact hf.below (by omega))
          have HHI : Hid (s < m → m < e → LL κ (xs (e - 1)) (xs s)) := Lib.hid (fun h1 h2 => by have := hf.above (by omega); rw [show mid + m - 1 - s = e - 1 by omega] at this; exact this)
          have HC1 : Hid (Chg (One g) w w1) := Lib.hid (hc1.mono (fun _ _ h => absurd h (fun h => h)))
          have HR1 := Lib.hid (HR0.out.chg hc1 (fun h => h))
          have hw5 := IntWalk.i64_in ((mid : Int) + (m : Int) - (s : Int)) (by omega)
          have hw6 : (mid : Int) + (m : Int) - (s : Int) = (e : Int) := by omega
          have hq1 : mid - a ≤ N := by omega
          have hq2 : b - mid ≤ N := by omega
          have hq3 : a < mid := by omega
          have hq4 : mid < b := by omega
          clear hf hc1 he hs0 hs9 hmid
          go_upto_region 39 with fail
          refine bt39_piece _ _ _ _ _ ?_
          intro v178 v179 v180 v181 v182 v183 v184 rb hrb
          have HRB := Lib.hid hrb
          clear hrb
          cases rb with
          | false =>
            have hno : ¬ ((s : Int) < m ∧ (m : Int) < e) := fun h => absurd (HRB.out.2 h) (by decide)
            obtain ⟨ys, HR2, HROT⟩ : ∃ ys, Hid (RowI w1 g o n ys) ∧ Hid (Rot s m e xs ys) := ⟨xs, HR1, Lib.hid (by
              by_cases h : s = m
              · rw [h]; exact Rot.id' _ _ _
              · rw [show e = m by omega]; exact Rot.id _ _ _)⟩
            clear HRB hno
            go_upto_region 41 with fail
            have HF1 : Hid (Mrg κ a s mid ys) := Lib.hid (merge_first HM.out hs1 hs2 he1 he2 hse HROT.out)
            refine bt41_piece _ _ _ _ _ ?_
            intro v192 v193 v194 v195 v196 v197 v198 rb hrb
            have HRB := Lib.hid hrb
            clear hrb
            cases rb with
            | false =>
              obtain ⟨zs, HR3, HD1⟩ : ∃ zs, Hid (RowI w1 g o n zs) ∧ Hid (Mrgd κ a mid ys zs) := ⟨ys, HR2, Lib.hid (HF1.out.empty (fun h => absurd (HRB.out.2 h) (by decide)))⟩
              clear HRB
              go_upto_region 43 with fail
              have HF2 : Hid (Mrg κ mid e b zs) := Lib.hid (merge_second HM.out hs1 hs2 he1 he2 hse HROT.out HD1.out.out)
              refine bt43_piece _ _ _ _ _ ?_
              intro v206 v207 v208 v209 v210 v211 v212 rb hrb
              have HRB := Lib.hid hrb
              clear hrb
              cases rb with
              | false =>
                obtain ⟨us, HR4, HD2⟩ : ∃ us, Hid (RowI w1 g o n us) ∧ Hid (Mrgd κ mid b zs us) := ⟨zs, HR3, Lib.hid (HF2.out.empty (fun h => absurd (HRB.out.2 h) (by decide)))⟩
                go_wp2
                go_end0
                exact ⟨rfl, ⟨us, HR4.out, merge_join HM.out HMID.out hs1 hs2 he1 he2 hse (fun h1 h2 => HLO.out h1 h2) (fun h1 h2 => HHI.out h1 h2) HROT.out HD1.out HD2.out⟩, HC1.out⟩
              | true =>
                have hlt := HRB.out.1 rfl
                have HC9 := Lib.hid (HC0.out.next HC1.out)
                have HV9 : Hid (Vs V n zs) := Lib.hid ((HV0.out.same (HROT.out.same hs2 he1) HROT.out.2.2 (by omega)).same HD1.out.same HD1.out.out (by omega))
                go_wp2_with (go_at_call 57; go_loud (refine (IH.out mid e b zs w1 (by omega) (by omega) (by omega) hb HC9.out HR3.out HV9.out HF2.out).mono ?_); rintro r w9 ⟨rfl, ⟨us, q1, q2⟩, q3⟩; have HR4 := Lib.hid q1; have HD2 := Lib.hid q2; have HC4 := Lib.hid (HC1.out.trans q3 (fun _ _ h => h)); clear q1 q2 q3)
                go_end0
                exact ⟨rfl, ⟨us, HR4.out, merge_join HM.out HMID.out hs1 hs2 he1 he2 hse (fun h1 h2 => HLO.out h1 h2) (fun h1 h2 => HHI.out h1 h2) HROT.out HD1.out HD2.out⟩, HC4.out⟩
            | true =>
              have hlt := HRB.out.1 rfl
              have HC8 := Lib.hid (HC0.out.next HC1.out)
              have HV8 : Hid (Vs V n ys) := Lib.hid (HV0.out.same (HROT.out.same hs2 he1) HROT.out.2.2 (by omega))
              clear HRB
              go_upto_region 43 with (go_at_call 57; go_loud (refine (IH.out a s mid ys w1 (by omega) (by omega) (by omega) (by omega) HC8.out HR2.out HV8.out HF1.out).mono ?_); rintro r w8 ⟨rfl, ⟨zs, q1, q2⟩, q3⟩; have HR3 := Lib.hid q1; have HD1 := Lib.hid q2; have HC3 := Lib.hid (HC1.out.trans q3 (fun _ _ h => h)); clear q1 q2 q3 hlt)
              have HF2 : Hid (Mrg κ mid e b zs) := Lib.hid (merge_second HM.out hs1 hs2 he1 he2 hse HROT.out HD1.out.out)
              refine bt43_piece _ _ _ _ _ ?_
              intro v206 v207 v208 v209 v210 v211 v212 rb hrb
              have HRB := Lib.hid hrb
              clear hrb
              cases rb with
              | false =>
                obtain ⟨us, HR4, HD2⟩ : ∃ us, Hid (RowI w8 g o n us) ∧ Hid (Mrgd κ mid b zs us) := ⟨zs, HR3, Lib.hid (HF2.out.empty (fun h => absurd (HRB.out.2 h) (by decide)))⟩
                go_wp2
                go_end0
                exact ⟨rfl, ⟨us, HR4.out, merge_join HM.out HMID.out hs1 hs2 he1 he2 hse (fun h1 h2 => HLO.out h1 h2) (fun h1 h2 => HHI.out h1 h2) HROT.out HD1.out HD2.out⟩, HC3.out⟩
              | true =>
                have hlt := HRB.out.1 rfl
                have HC9 := Lib.hid (HC0.out.next HC3.out)
                have HV9 : Hid (Vs V n zs) := Lib.hid ((HV0.out.same (HROT.out.same hs2 he1) HROT.out.2.2 (by omega)).same HD1.out.same HD1.out.out (by omega))
                go_wp2_with (go_at_call 57; go_loud (refine (IH.out mid e b zs w8 (by omega) (by omega) (by omega) hb HC9.out HR3.out HV9.out HF2.out).mono ?_); rintro r w9 ⟨rfl, ⟨us, q1, q2⟩, q3⟩; have HR4 := Lib.hid q1; have HD2 := Lib.hid q2; have HC4 := Lib.hid (HC3.out.trans q3 (fun _ _ h => h)); clear q1 q2 q3)
                go_end0
                exact ⟨rfl, ⟨us, HR4.out, merge_join HM.out HMID.out hs1 hs2 he1 he2 hse (fun h1 h2 => HLO.out h1 h2) (fun h1 h2 => HHI.out h1 h2) HROT.out HD1.out HD2.out⟩, HC4.out⟩
          | true =>
            have hlt := HRB.out.1 rfl
            clear HRB
            go_upto_region 41 with (go_at_call 64; go_loud (refine (rotate_any g o n c s m e _ xs w1 hn (by omega) (by omega) (by omega) HR1.out).mono ?_); rintro r w7 ⟨rfl, ⟨ys, q1, q2⟩, q3⟩; have HR2 := Lib.hid q1; have HROT := Lib.hid q2; have HC2 := Lib.hid (HC1.out.trans q3 (fun _ _ h => h)); clear q1 q2 q3 hlt)
            have HF1 : Hid (Mrg κ a s mid ys) := Lib.hid (merge_first HM.out hs1 hs2 he1 he2 hse HROT.out)
            refine bt41_piece _ _ _ _ _ ?_
            intro v192 v193 v194 v195 v196 v197 v198 rb hrb
            have HRB := Lib.hid hrb
            clear hrb
            cases rb with
            | false =>
              obtain ⟨zs, HR3, HD1⟩ : ∃ zs, Hid (RowI w7 g o n zs) ∧ Hid (Mrgd κ a mid ys zs) := ⟨ys, HR2, Lib.hid (HF1.out.empty (fun h => absurd (HRB.out.2 h) (by decide)))⟩
              clear HRB
              go_upto_region 43 with fail
              have HF2 : Hid (Mrg κ mid e b zs) := Lib.hid (merge_second HM.out hs1 hs2 he1 he2 hse HROT.out HD1.out.out)
              refine bt43_piece _ _ _ _ _ ?_
              intro v206 v207 v208 v209 v210 v211 v212 rb hrb
              have HRB := Lib.hid hrb
              clear hrb
              cases rb with
              | false =>
                obtain ⟨us, HR4, HD2⟩ : ∃ us, Hid (RowI w7 g o n us) ∧ Hid (Mrgd κ mid b zs us) := ⟨zs, HR3, Lib.hid (HF2.out.empty (fun h => absurd (HRB.out.2 h) (by decide)))⟩
                go_wp2
                go_end0
                exact ⟨rfl, ⟨us, HR4.out, merge_join HM.out HMID.out hs1 hs2 he1 he2 hse (fun h1 h2 => HLO.out h1 h2) (fun h1 h2 => HHI.out h1 h2) HROT.out HD1.out HD2.out⟩, HC2.out⟩
              | true =>
                have hlt := HRB.out.1 rfl
                have HC9 := Lib.hid (HC0.out.next HC2.out)
                have HV9 : Hid (Vs V n zs) := Lib.hid ((HV0.out.same (HROT.out.same hs2 he1) HROT.out.2.2 (by omega)).same HD1.out.same HD1.out.out (by omega))
                go_wp2_with (go_at_call 57; go_loud (refine (IH.out mid e b zs w7 (by omega) (by omega) (by omega) hb HC9.out HR3.out HV9.out HF2.out).mono ?_); rintro r w9 ⟨rfl, ⟨us, q1, q2⟩, q3⟩; have HR4 := Lib.hid q1; have HD2 := Lib.hid q2; have HC4 := Lib.hid (HC2.out.trans q3 (fun _ _ h => h)); clear q1 q2 q3)
                go_end0
                exact ⟨rfl, ⟨us, HR4.out, merge_join HM.out HMID.out hs1 hs2 he1 he2 hse (fun h1 h2 => HLO.out h1 h2) (fun h1 h2 => HHI.out h1 h2) HROT.out HD1.out HD2.out⟩, HC4.out⟩
            | true =>
              have hlt := HRB.out.1 rfl
              have HC8 := Lib.hid (HC0.out.next HC2.out)
              have HV8 : Hid (Vs V n ys) := Lib.hid (HV0.out.same (HROT.out.same hs2 he1) HROT.out.2.2 (by omega))
              clear HRB
              go_upto_region 43 with (go_at_call 57; go_loud (refine (IH.out a s mid ys w7 (by omega) (by omega) (by omega) (by omega) HC8.out HR2.out HV8.out HF1.out).mono ?_); rintro r w8 ⟨rfl, ⟨zs, q1, q2⟩, q3⟩; have HR3 := Lib.hid q1; have HD1 := Lib.hid q2; have HC3 := Lib.hid (HC2.out.trans q3 (fun _ _ h => h)); clear q1 q2 q3 hlt)
              have HF2 : Hid (Mrg κ mid e b zs) := Lib.hid (merge_second HM.out hs1 hs2 he1 he2 hse HROT.out HD1.out.out)
              refine bt43_piece _ _ _ _ _ ?_
              intro v206 v207 v208 v209 v210 v211 v212 rb hrb
              have HRB := Lib.hid hrb
              clear hrb
              cases rb with
              | false =>
                obtain ⟨us, HR4, HD2⟩ : ∃ us, Hid (RowI w8 g o n us) ∧ Hid (Mrgd κ mid b zs us) := ⟨zs, HR3, Lib.hid (HF2.out.empty (fun h => absurd (HRB.out.2 h) (by decide)))⟩
                go_wp2
                go_end0
                exact ⟨rfl, ⟨us, HR4.out, merge_join HM.out HMID.out hs1 hs2 he1 he2 hse (fun h1 h2 => HLO.out h1 h2) (fun h1 h2 => HHI.out h1 h2) HROT.out HD1.out HD2.out⟩, HC3.out⟩
              | true =>
                have hlt := HRB.out.1 rfl
                have HC9 := Lib.hid (HC0.out.next HC3.out)
                have HV9 : Hid (Vs V n zs) := Lib.hid ((HV0.out.same (HROT.out.same hs2 he1) HROT.out.2.2 (by omega)).same HD1.out.same HD1.out.out (by omega))
                go_wp2_with (go_at_call 57; go_loud (refine (IH.out mid e b zs w8 (by omega) (by omega) (by omega) hb HC9.out HR3.out HV9.out HF2.out).mono ?_); rintro r w9 ⟨rfl, ⟨us, q1, q2⟩, q3⟩; have HR4 := Lib.hid q1; have HD2 := Lib.hid q2; have HC4 := Lib.hid (HC3.out.trans q3 (fun _ _ h => h)); clear q1 q2 q3)
                go_end0
                exact ⟨rfl, ⟨us, HR4.out, merge_join HM.out HMID.out hs1 hs2 he1 he2 hse (fun h1 h2 => HLO.out h1 h2) (fun h1 h2 => HHI.out h1 h2) HROT.out HD1.out HD2.out⟩, HC4.out⟩
end Go.Proofs.Ytpbnngfiinihmaa

namespace Go.Proofs.Ytpbnngfiinihmaa
/-- block k of size bs, in a row of n -/
def BkOk (κ : Int → Int) (n : Nat) (xs ys : Nat → Int) (lo hi : Nat) : Prop := Srt κ lo (min hi n) ys ∧ SameS lo (min hi n) xs ys
section
variable {κ : Int → Int} {n bs k0 : Nat} {xs ys zs : Nat → Int} {lo hi : Nat}
theorem BkOk.congr (h : BkOk κ n xs ys lo hi) (he : ∀ i, lo ≤ i → i < hi → zs i = ys i) : BkOk κ n xs zs lo hi :=
  ⟨h.1.congr (fun i h1 h2 => he i h1 (by omega)), h.2.trans (SameS.of_eq fun i h1 h2 => he i h1 (by omega))⟩
/-- the first k0 blocks are sorted, the rest is as it was -/
def Bk1 (κ : Int → Int) (n : Nat) (xs ys : Nat → Int) (k0 : Nat) : Prop := (∀ k, k < k0 → BkOk κ n xs ys (k * 20) (k * 20 + 20)) ∧ ∀ i, k0 * 20 ≤ i → ys i = xs i
/-- all blocks are sorted -/
def Bks (κ : Int → Int) (n : Nat) (xs ys : Nat → Int) (bs : Nat) : Prop := ∀ k, k * bs < n → BkOk κ n xs ys (k * bs) (k * bs + bs)
theorem Bk1.zero (κ : Int → Int) (n : Nat) (xs : Nat → Int) : Bk1 κ n xs xs 0 := ⟨fun k h => absurd h (by omega), fun _ _ => rfl⟩
theorem Bk1.step (h : Bk1 κ n xs ys k0) (hn : k0 * 20 + 20 ≤ n) (hm : Mrgd κ (k0 * 20) (k0 * 20 + 20) ys zs) : Bk1 κ n xs zs (k0 + 1) := by
  refine ⟨fun k hk => ?_, fun i hi => by rw [hm.out i (by omega)]; exact h.2 i (by omega)⟩
  by_cases c : k = k0
  · subst c
    have hmin : min (k * 20 + 20) n = k * 20 + 20 := by omega
    exact ⟨by rw [hmin]; exact hm.srt, by rw [hmin]; exact (SameS.of_eq fun i h1 _ => h.2 i h1).trans hm.same⟩
  · exact (h.1 k (by omega)).congr (fun i h1 h2 => hm.out i (by omega))
theorem Bk1.fin (h : Bk1 κ n xs ys k0) (hn : k0 * 20 ≤ n) (hn2 : n < k0 * 20 + 20) (hm : Mrgd κ (k0 * 20) n ys zs) : Bks κ n xs zs 20 := by
  intro k hk
  by_cases c : k = k0
  · subst c
    have hmin : min (k * 20 + 20) n = n := by omega
    exact ⟨by rw [hmin]; exact hm.srt, by rw [hmin]; exact (SameS.of_eq fun i h1 _ => h.2 i h1).trans hm.same⟩
  · exact (h.1 k (by omega)).congr (fun i h1 h2 => hm.out i (by omega))
/-- the first k0 double blocks are merged, the rest stands in blocks -/
structure Bk2 (κ : Int → Int) (n : Nat) (xs ys : Nat → Int) (bs k0 : Nat) : Prop where
  lo : ∀ k, k < k0 → BkOk κ n xs ys (k * (2 * bs)) (k * (2 * bs) + 2 * bs)
  hi : ∀ k, 2 * k0 ≤ k → k * bs < n → BkOk κ n xs ys (k * bs) (k * bs + bs)
theorem Bk2.zero (h : Bks κ n xs ys bs) : Bk2 κ n xs ys bs 0 := ⟨fun k h => absurd h (by omega), fun k _ hk => h k hk⟩
theorem two_mul_bs (k0 bs : Nat) : (2 * k0) * bs = k0 * (2 * bs) := by rw [Nat.mul_comm 2 k0, Nat.mul_assoc]
/-- what the merge of the next double block is given -/
theorem Bk2.mrg (h : Bk2 κ n xs ys bs k0) (hup : ∀ i j, i < j → j < n → xs i < xs j) (hb : 0 < bs) (hn : k0 * (2 * bs) + bs < n) : Mrg κ (k0 * (2 * bs)) (k0 * (2 * bs) + bs) (min (k0 * (2 * bs) + 2 * bs) n) ys := by
  obtain ⟨A, hA⟩ : ∃ A, A = k0 * (2 * bs) := ⟨_, rfl⟩
  have e1 := two_mul_bs k0 bs
  have e2 : (2 * k0 + 1) * bs = A + bs := by rw [Nat.add_mul, e1, hA, Nat.one_mul]
  rw [← hA] at e1 hn ⊢
  obtain ⟨s1, m1⟩ := h.hi (2 * k0) (Nat.le_refl _) (by omega)
  obtain ⟨s2, m2⟩ := h.hi (2 * k0 + 1) (by omega) (by omega)
  rw [e1] at s1 m1
  rw [e2] at s2 m2
  have q1 : min (A + bs) n = A + bs := by omega
  have q2 : min (A + bs + bs) n = min (A + 2 * bs) n := by omega
  rw [q1] at s1 m1
  rw [q2] at s2 m2
  refine ⟨by omega, by omega, s1, s2, fun i j h1 h2 h3 h4 => ?_⟩
  obtain ⟨i', a1, a2, a3⟩ := (m1 (ys i)).2 ⟨i, h1, h2, rfl⟩
  obtain ⟨j', b1, b2, b3⟩ := (m2 (ys j)).2 ⟨j, h3, h4, rfl⟩
  rw [← a3, ← b3]
  exact hup i' j' (by omega) (by omega)
theorem Bk2.block (h : Bk2 κ n xs ys bs k0) (hb : 0 < bs) (hn : k0 * (2 * bs) + bs < n) (hm : Mrgd κ (k0 * (2 * bs)) (min (k0 * (2 * bs) + 2 * bs) n) ys zs) : BkOk κ n xs zs (k0 * (2 * bs)) (k0 * (2 * bs) + 2 * bs) := by
  obtain ⟨A, hA⟩ : ∃ A, A = k0 * (2 * bs) := ⟨_, rfl⟩
  have e1 := two_mul_bs k0 bs
  have e2 : (2 * k0 + 1) * bs = A + bs := by rw [Nat.add_mul, e1, hA, Nat.one_mul]
  rw [← hA] at e1 hn hm ⊢
  obtain ⟨s1, m1⟩ := h.hi (2 * k0) (Nat.le_refl _) (by omega)
  obtain ⟨s2, m2⟩ := h.hi (2 * k0 + 1) (by omega) (by omega)
  rw [e1] at s1 m1
  rw [e2] at s2 m2
  have q1 : min (A + bs) n = A + bs := by omega
  have q2 : min (A + bs + bs) n = min (A + 2 * bs) n := by omega
  rw [q1] at s1 m1
  rw [q2] at s2 m2
  exact ⟨hm.srt, (SameS.join (m := A + bs) (by omega) (by omega) m1 m2).trans hm.same⟩
theorem Bk2.step (h : Bk2 κ n xs ys bs k0) (hb : 0 < bs) (hn : k0 * (2 * bs) + 2 * bs ≤ n) (hm : Mrgd κ (k0 * (2 * bs)) (k0 * (2 * bs) + 2 * bs) ys zs) : Bk2 κ n xs zs bs (k0 + 1) := by
  have hbk := h.block hb (by omega) (zs := zs) (by rw [Nat.min_eq_left hn]; exact hm)
  refine ⟨fun k hk => ?_, fun k hk hkn => ?_⟩
  · by_cases c : k = k0
    · subst c; exact hbk
    · refine (h.lo k (by omega)).congr (fun i h1 h2 => hm.out i (fun hx => ?_))
      have : (k + 1) * (2 * bs) ≤ k0 * (2 * bs) := Nat.mul_le_mul_right _ (by omega)
      rw [Nat.add_mul, Nat.one_mul] at this
      omega
  · refine (h.hi k (by omega) hkn).congr (fun i h1 h2 => hm.out i (fun hx => ?_))
    have e3 : (2 * k0 + 2) * bs ≤ k * bs := Nat.mul_le_mul_right _ (by omega)
    rw [Nat.add_mul, two_mul_bs] at e3
    omega
/-- behind the last double block -/
theorem Bk2.fin (h : Bk2 κ n xs ys bs k0) (hb : 0 < bs) (hn : k0 * (2 * bs) ≤ n) (hn2 : n < k0 * (2 * bs) + 2 * bs) (hn3 : n ≤ k0 * (2 * bs) + bs) : Bks κ n xs ys (2 * bs) := by
  intro k hk
  by_cases c : k < k0
  · exact h.lo k c
  · have hk0 : k = k0 := by
      rcases Nat.lt_or_ge k0 k with h' | h'
      · have : (k0 + 1) * (2 * bs) ≤ k * (2 * bs) := Nat.mul_le_mul_right _ (by omega)
        rw [Nat.add_mul, Nat.one_mul] at this
        omega
      · omega
    subst hk0
    have e1 := two_mul_bs k bs
    obtain ⟨s1, m1⟩ := h.hi (2 * k) (Nat.le_refl _) (by omega)
    rw [e1] at s1 m1
    have q1 : min (k * (2 * bs) + bs) n = min (k * (2 * bs) + 2 * bs) n := by omega
    rw [q1] at s1 m1
    exact ⟨s1, m1⟩
theorem Bk2.fin2 (h : Bk2 κ n xs ys bs k0) (hb : 0 < bs) (hn2 : n < k0 * (2 * bs) + 2 * bs) (hn3 : k0 * (2 * bs) + bs < n) (hm : Mrgd κ (k0 * (2 * bs)) n ys zs) : Bks κ n xs zs (2 * bs) := by
  have hbk := h.block hb hn3 (zs := zs) (by rw [Nat.min_eq_right (by omega)]; exact hm)
  intro k hk
  by_cases c : k < k0
  · refine (h.lo k c).congr (fun i h1 h2 => hm.out i (fun hx => ?_))
    have : (k + 1) * (2 * bs) ≤ k0 * (2 * bs) := Nat.mul_le_mul_right _ (by omega)
    rw [Nat.add_mul, Nat.one_mul] at this
    omega
  · have hk0 : k = k0 := by
      rcases Nat.lt_or_ge k0 k with h' | h'
      · have : (k0 + 1) * (2 * bs) ≤ k * (2 * bs) := Nat.mul_le_mul_right _ (by omega)
        rw [Nat.add_mul, Nat.one_mul] at this
        omega
      · omega
    subst hk0
    exact hbk
theorem Bks.whole (h : Bks κ n xs ys bs) (hn : 0 < n) (hb : n ≤ bs) : Srt κ 0 n ys ∧ SameS 0 n xs ys := by
  obtain ⟨s1, m1⟩ := h 0 (by omega)
  rw [Nat.zero_mul, Nat.min_eq_right (by omega)] at s1 m1
  exact ⟨s1, m1⟩
theorem Bk2.vs {V : Int → Prop} (h : Bk2 κ n xs ys bs k0) (hb : 0 < bs) (hk : k0 * (2 * bs) ≤ n) (hv : ∀ i, i < n → V (xs i)) : ∀ i, i < n → V (ys i) := by
  intro i hi
  by_cases c : i < k0 * (2 * bs)
  · have hq := Nat.div_add_mod i (2 * bs)
    have hr := Nat.mod_lt i (show 0 < 2 * bs by omega)
    rw [Nat.mul_comm] at hq
    have hlt : i / (2 * bs) < k0 := (Nat.div_lt_iff_lt_mul (by omega)).2 c
    obtain ⟨_, m⟩ := h.lo _ hlt
    obtain ⟨j, h1, h2, h3⟩ := (m (ys i)).2 ⟨i, by omega, by omega, rfl⟩
    rw [← h3]; exact hv j (by omega)
  · have hq := Nat.div_add_mod i bs
    have hr := Nat.mod_lt i hb
    rw [Nat.mul_comm] at hq
    have hge : 2 * k0 ≤ i / bs := (Nat.le_div_iff_mul_le hb).2 (by rw [two_mul_bs]; omega)
    obtain ⟨_, m⟩ := h.hi _ hge (by omega)
    obtain ⟨j, h1, h2, h3⟩ := (m (ys i)).2 ⟨i, by omega, by omega, rfl⟩
    rw [← h3]; exact hv j (by omega)
theorem Bk1.vs {V : Int → Prop} (h : Bk1 κ n xs ys k0) (hv : ∀ i, i < n → V (xs i)) : ∀ i, i < n → V (ys i) := by
  intro i hi
  by_cases c : i < k0 * 20
  · obtain ⟨_, m⟩ := h.1 (i / 20) (by omega)
    obtain ⟨j, h1, h2, h3⟩ := (m (ys i)).2 ⟨i, by omega, by omega, rfl⟩
    rw [← h3]; exact hv j (by omega)
  · rw [h.2 i (by omega)]; exact hv i hi
end
end Go.Proofs.Ytpbnngfiinihmaa

namespace Go.Proofs.Ytpbnngfiinihmaa
open Go.RowKit
noncomputable def stInC : Code := codeOr (Try.f41.body.bind (blockIn 4))
set_option maxRecDepth 100000 in
set_option maxHeartbeats 4000000 in
theorem st_in (g o n c bs b2 : Nat) (pl : Addr) (κ : Int → Int) (V : Int → Prop) (xs ys : Nat → Int) (w : World) {u3 u4 u5 u9 u10 u11 u12 u13 u14 u15 u16 u17 u18 u19 u20 u21 u22 u23 u24 u25 u26 u27 u28 u29 u30 u31 u32 u33 u34 u35 u36 u37 u38 u39 u40 u41 u42 u43 u44 u45 u46 u47 u48 u49 u50 u51 u52 u53 u54 u55 u56 u57 u58 u59 u60 u61 u62 : Value} (Q : Exit → Act → World → Prop)
    (hb2 : b2 = 2 * bs) (hbs : 0 < bs) (hbn : bs < n) (hn : n ≤ 1152921504606) (HC : Hid (Cmp w g pl κ V)) (HR : Hid (RowI w g o n ys)) (HV : Hid (Vs V n xs)) (HUP : Hid (∀ i j, i < j → j < n → xs i < xs j)) (HB : Hid (Bks κ n xs ys bs))
    (hexit : ∀ (v33 v34 v35 v36 v37 v38 v39 v40 v41 v42 v43 v44 v45 v46 v47 v48 : Value) (a b k0 : Nat) (zs : Nat → Int) (w' : World), a = k0 * (2 * bs) → b = a + b2 → a ≤ n → n < b → RowI w' g o n zs → Bk2 κ n xs zs bs k0 → Chg (One g) w w' → Q (.exit 4) ⟨(.slice (some ⟨g, o, none⟩) n c :: .int .i64 n :: .func (.func 18) #[] #[.pointer (some pl)] :: u3 :: u4 :: u5 :: .int .i64 bs :: .int .i64 a :: .int .i64 b :: u9 :: u10 :: u11 :: u12 :: u13 :: u14 :: u15 :: u16 :: u17 :: u18 :: u19 :: u20 :: u21 :: u22 :: u23 :: u24 :: u25 :: u26 :: u27 :: u28 :: u29 :: u30 :: u31 :: u32 :: v33 :: v34 :: v35 :: v36 :: v37 :: v38 :: v39 :: v40 :: v41 :: v42 :: v43 :: v44 :: v45 :: v46 :: v47 :: v48 :: u49 :: u50 :: u51 :: u52 :: u53 :: u54 :: u55 :: u56 :: u57 :: u58 :: u59 :: u60 :: u61 :: u62 :: []).toArray, []⟩ w') :
    Code.wp Try.prog stInC Q ⟨(.slice (some ⟨g, o, none⟩) n c :: .int .i64 n :: .func (.func 18) #[] #[.pointer (some pl)] :: u3 :: u4 :: u5 :: .int .i64 bs :: .int .i64 0 :: .int .i64 b2 :: u9 :: u10 :: u11 :: u12 :: u13 :: u14 :: u15 :: u16 :: u17 :: u18 :: u19 :: u20 :: u21 :: u22 :: u23 :: u24 :: u25 :: u26 :: u27 :: u28 :: u29 :: u30 :: u31 :: u32 :: u33 :: u34 :: u35 :: u36 :: u37 :: u38 :: u39 :: u40 :: u41 :: u42 :: u43 :: u44 :: u45 :: u46 :: u47 :: u48 :: u49 :: u50 :: u51 :: u52 :: u53 :: u54 :: u55 :: u56 :: u57 :: u58 :: u59 :: u60 :: u61 :: u62 :: []).toArray, []⟩ w := by
  have HEX := Lib.hid hexit
  have HB2 := Lib.hid hb2
  clear hexit
  have hw4 := IntWalk.i64_in ((2 : Int) * (bs : Int)) (by omega)
  have hw6 : (2 : Int) * (bs : Int) = (b2 : Int) := by omega
  have hb3 : b2 ≤ 2305843009212 := by omega
  have hb4 : bs ≤ b2 := by omega
  clear hb2
  conv => arg 2; whnf
  go_loopg [7, 8] n (fun g' av bv wz => ∃ (a b k0 : Nat) (zs : Nat → Int), g' = n - a ∧ a = k0 * (2 * bs) ∧ b = a + b2 ∧ a ≤ n ∧ av = .int .i64 a ∧ bv = .int .i64 b ∧ RowI wz g o n zs ∧ Bk2 κ n xs zs bs k0 ∧ Chg (One g) w wz)
  case atStart => exact ⟨0, b2, 0, ys, by omega, by simp, by simp, by omega, rfl, rfl, HR.out, Bk2.zero HB.out, Chg.refl _ _⟩
  case round =>
    obtain ⟨a, b, k0, zs, hg, ha, hb, han, rfl, rfl, hr, hk, hc⟩ := hrel
    have HG := Lib.hid hg
    have HA := Lib.hid ha
    have HBB := Lib.hid hb
    have HRZ := Lib.hid hr
    have HK := Lib.hid hk
    have HCH := Lib.hid hc
    have hab : a ≤ b := by omega
    clear hg ha hr hk hc
    by_cases hlt : b ≤ n
    · have hlt' : (b : Int) ≤ (n : Int) := by omega
      have hw1 := IntWalk.i64_in ((a : Int) + (bs : Int)) (by omega)
      obtain ⟨md, hmd⟩ : ∃ md, md = a + bs := ⟨_, rfl⟩
      have hw2 : (a : Int) + (bs : Int) = (md : Int) := by omega
      have hw5 := IntWalk.i64_in ((b : Int) + (b2 : Int)) (by omega)
      have HMG : Hid (Mrg κ a md b zs) := Lib.hid (by
        rw [hmd]
        have := HK.out.mrg HUP.out hbs (by rw [← HA.out]; have := HB2.out; omega)
        rw [← HA.out, ← HB2.out, ← HBB.out, Nat.min_eq_left hlt] at this; exact this)
      have HVZ : Hid (Vs V n zs) := Lib.hid (HK.out.vs hbs (by rw [← HA.out]; omega) HV.out)
      have HCC := Lib.hid (HC.out.next HCH.out)
      have hab2 : md < b := by have := HB2.out; have := HBB.out; omega
      have hab3 : a < md := by omega
      clear hb hmd
      go_wp2_with (go_at_call 57; go_loud (refine (symMerge_any g o n c pl κ V hn (b - a) a md b zs wr (Nat.le_refl _) (by omega) (by omega) hlt HCC.out HRZ.out HVZ.out HMG.out).mono ?_); rintro r w9 ⟨rfl, ⟨us, q1, q2⟩, q3⟩; have HR4 := Lib.hid q1; have HD4 := Lib.hid q2; have HC4 := Lib.hid (HCH.out.trans q3 (fun _ _ h => h)); clear q1 q2 q3)
      go_roundg (n - b)
      case measure => have := HG.out; omega
      case rel => exact ⟨b, b + b2, k0 + 1, us, rfl, by rw [Nat.add_mul, ← HA.out, Nat.one_mul, ← HB2.out, ← HBB.out], rfl, hlt, rfl, by go_num, HR4.out, HK.out.step hbs (by rw [← HA.out, ← HB2.out, ← HBB.out]; exact hlt) (by rw [← HA.out, ← HB2.out, ← HBB.out]; exact HD4.out), HC4.out⟩
    · have hlt' : ¬ (b : Int) ≤ (n : Int) := by omega
      clear hb
      go_wp2
      exact HEX.out _ _ _ _ _ _ _ _ _ _ _ _ _ _ _ _ a b k0 zs wr HA.out HBB.out han (by omega) HRZ.out HK.out HCH.out

set_option maxRecDepth 100000 in
set_option maxHeartbeats 8000000 in
theorem stable_any (g o n c : Nat) (pl : Addr) (κ : Int → Int) (V : Int → Prop) (xs : Nat → Int) (w : World) (hn0 : 0 < n) (hn : n ≤ 1152921504606) (hC : Cmp w g pl κ V) (hR : RowI w g o n xs) (hV : Vs V n xs) (hup : ∀ i j, i < j → j < n → xs i < xs j) :
    Calls Try.prog 41 #[.slice (some ⟨g, o, none⟩) n c, .int .i64 n, .func (.func 18) #[] #[.pointer (some pl)]] w fun r w' => r = .returned (.tuple #[]) ∧ (∃ ys, RowI w' g o n ys ∧ Srt κ 0 n ys ∧ SameS 0 n xs ys) ∧ Chg (One g) w w' := by
  have HC0 := Lib.hid hC
  have HR0 := Lib.hid hR
  have HV0 := Lib.hid hV
  have HUP := Lib.hid hup
  clear hC hR hV hup
  go_enter Try.func41, Try.ntmps41
  go_wp2
  go_loopg [7, 8] n (fun g' av bv wz => ∃ (a b k0 : Nat) (zs : Nat → Int), g' = n - a ∧ a = k0 * 20 ∧ b = a + 20 ∧ a ≤ n ∧ av = .int .i64 a ∧ bv = .int .i64 b ∧ RowI wz g o n zs ∧ Bk1 κ n xs zs k0 ∧ Chg (One g) w wz)
  case atStart => exact ⟨0, 20, 0, xs, by omega, by omega, by omega, by omega, rfl, rfl, HR0.out, Bk1.zero _ _ _, Chg.refl _ _⟩
  case round =>
    obtain ⟨a, b, k0, zs, hg, ha, hb, han, rfl, rfl, hr, hk, hc⟩ := hrel
    have HG := Lib.hid hg
    have HA := Lib.hid ha
    have HBB := Lib.hid hb
    have HRZ := Lib.hid hr
    have HK := Lib.hid hk
    have HCH := Lib.hid hc
    have HCC := Lib.hid (HC0.out.next hc)
    have HVZ : Hid (Vs V n zs) := Lib.hid (hk.vs HV0.out)
    have hab : a ≤ b := by omega
    have HUZ : Hid (∀ i j, a ≤ i → i < j → j < n → zs i < zs j) := Lib.hid (fun i j h1 h2 h3 => by rw [hk.2 i (by omega), hk.2 j (by omega)]; exact HUP.out i j h2 h3)
    clear hg ha hr hk hc
    by_cases hlt : b ≤ n
    · have hlt' : (b : Int) ≤ (n : Int) := by omega
      have hw5 := IntWalk.i64_in ((b : Int) + 20) (by omega)
      clear hb
      go_wp2_with (go_at_call 56; go_loud (refine (insertion_any g o n c a b pl κ V zs wr hn hab hlt HCC.out HRZ.out HVZ.out (fun i j h1 h2 h3 => HUZ.out i j h1 h2 (by omega))).mono ?_); rintro r w9 ⟨rfl, ⟨us, q1, q2⟩, q3⟩; have HR4 := Lib.hid q1; have HD4 := Lib.hid q2; have HC4 := Lib.hid (HCH.out.trans q3 (fun _ _ h => h)); clear q1 q2 q3)
      go_roundg (n - b)
      case measure => have := HG.out; have := HBB.out; omega
      case rel => exact ⟨b, b + 20, k0 + 1, us, rfl, by have := HA.out; have := HBB.out; omega, rfl, hlt, rfl, by go_num, HR4.out, HK.out.step (by have := HA.out; have := HBB.out; omega) (by rw [← HA.out, ← HBB.out]; exact HD4.out), HC4.out⟩
    · have hlt' : ¬ (b : Int) ≤ (n : Int) := by omega
      clear hb
      go_upto_region 7 with (go_at_call 56; go_loud (refine (insertion_any g o n c a n pl κ V zs wr hn han (Nat.le_refl _) HCC.out HRZ.out HVZ.out HUZ.out).mono ?_); rintro r w9 ⟨rfl, ⟨us, q1, q2⟩, q3⟩; have HR4 := Lib.hid q1; have HBK4 := Lib.hid (HK.out.fin (by rw [← HA.out]; exact han) (by rw [← HA.out, ← HBB.out]; omega) (by rw [← HA.out]; exact q2)); have HC4 := Lib.hid (HCH.out.trans q3 (fun _ _ h => h)); clear q1 q2 q3)
      clear HG HA HBB HRZ HK HCH HCC HVZ HUZ hlt'
      go_loopg [6] (n - 20) (fun g' bv wz => ∃ (bs : Nat) (ts : Nat → Int), g' = n - bs ∧ 0 < bs ∧ bs ≤ 2305843009212 ∧ bv = .int .i64 bs ∧ RowI wz g o n ts ∧ Bks κ n xs ts bs ∧ Chg (One g) w wz)
      case atStart => exact ⟨20, us, by omega, by omega, by omega, rfl, HR4.out, HBK4.out, HC4.out⟩
      case round =>
        obtain ⟨bs, ts, hg, hb0, hb1, rfl, hr, hk, hc⟩ := hrel
        have HG := Lib.hid hg
        have HRT := Lib.hid hr
        have HK := Lib.hid hk
        have HCH := Lib.hid hc
        have HCC := Lib.hid (HC0.out.next hc)
        clear hg hr hk hc
        by_cases hbn : bs < n
        · have hbn' : (bs : Int) < (n : Int) := by omega
          obtain ⟨b2, hb2⟩ : ∃ b2, b2 = 2 * bs := ⟨_, rfl⟩
          have HB2 := Lib.hid hb2
          have hw4 := IntWalk.i64_in ((2 : Int) * (bs : Int)) (by omega)
          have hw6 : (2 : Int) * (bs : Int) = (b2 : Int) := by omega
          have hw7 := IntWalk.i64_in ((bs : Int) * 2) (by omega)
          have hw8 : (bs : Int) * 2 = (b2 : Int) := by omega
          have hb3 : b2 ≤ 2305843009212 := by omega
          have hb4 : n - b2 < n - bs := by omega
          have hb5 : 0 < b2 := by omega
          clear hb2
          go_upto_region 9 with fail
          refine st_in g o n c bs b2 pl κ V xs ts wr _ HB2.out hb0 hbn hn HCC HRT HV0 HUP HK ?_
          intro v33 v34 v35 v36 v37 v38 v39 v40 v41 v42 v43 v44 v45 v46 v47 v48 a b k0 zs w1 ha hb han hnb hr1 hk1 hc1
          have HR1 := Lib.hid hr1
          have HK1 := Lib.hid hk1
          have HA := Lib.hid ha
          have HC1 := Lib.hid (HCH.out.trans hc1 (fun _ _ h => h))
          have HB9 : Hid (n < k0 * (2 * bs) + 2 * bs) := Lib.hid (by rw [← ha, ← HB2.out, ← hb]; exact hnb)
          have hw1 := IntWalk.i64_in ((a : Int) + (bs : Int)) (by omega)
          obtain ⟨md, hmd⟩ : ∃ md, md = a + bs := ⟨_, rfl⟩
          have hw2 : (a : Int) + (bs : Int) = (md : Int) := by omega
          have HMD := Lib.hid hmd
          have ham : a < md := by omega
          clear hr1 hk1 hc1 ha hb hnb hmd
          by_cases hmn : md < n
          · have hmn' : (md : Int) < (n : Int) := by omega
            have HMG : Hid (Mrg κ a md n zs) := Lib.hid (by
              have := HK1.out.mrg HUP.out hb0 (by rw [← HA.out, ← HMD.out]; exact hmn)
              rw [← HA.out, ← HMD.out, Nat.min_eq_right (by have := HB9.out; have := HA.out; omega)] at this; exact this)
            have HVZ : Hid (Vs V n zs) := Lib.hid (HK1.out.vs hb0 (by rw [← HA.out]; exact han) HV0.out)
            have HCC1 := Lib.hid (HC0.out.next HC1.out)
            go_wp2_with (go_at_call 57; go_loud (refine (symMerge_any g o n c pl κ V hn (n - a) a md n zs w1 (Nat.le_refl _) ham hmn (Nat.le_refl _) HCC1.out HR1.out HVZ.out HMG.out).mono ?_); rintro r w8 ⟨rfl, ⟨us2, q1, q2⟩, q3⟩; have HR5 := Lib.hid q1; have HD5 := Lib.hid q2; have HC5 := Lib.hid (HC1.out.trans q3 (fun _ _ h => h)); clear q1 q2 q3)
            go_roundg (n - b2)
            case measure => have := HG.out; omega
            case rel => exact ⟨b2, us2, rfl, hb5, hb3, rfl, HR5.out, by rw [HB2.out]; exact HK1.out.fin2 hb0 HB9.out (by rw [← HA.out, ← HMD.out]; exact hmn) (by rw [← HA.out]; exact HD5.out), HC5.out⟩
          · have hmn' : ¬ (md : Int) < (n : Int) := by omega
            go_wp2
            go_roundg (n - b2)
            case measure => have := HG.out; omega
            case rel => exact ⟨b2, zs, rfl, hb5, hb3, rfl, HR1.out, by rw [HB2.out]; exact HK1.out.fin hb0 (by rw [← HA.out]; exact han) HB9.out (by rw [← HA.out, ← HMD.out]; omega), HC1.out⟩
        · have hbn' : ¬ (bs : Int) < (n : Int) := by omega
          have HW := Lib.hid (HK.out.whole hn0 (by omega))
          go_wp2
          go_end0
          exact ⟨rfl, ⟨ts, HRT.out, HW.out.1, HW.out.2⟩, HCH.out⟩
set_option maxRecDepth 100000 in
theorem sortStable_any (g o n c : Nat) (pl : Addr) (κ : Int → Int) (V : Int → Prop) (xs : Nat → Int) (w : World) (hn0 : 0 < n) (hn : n ≤ 1152921504606) (hC : Cmp w g pl κ V) (hR : RowI w g o n xs) (hV : Vs V n xs) (hup : ∀ i j, i < j → j < n → xs i < xs j) :
    Calls Try.prog 17 #[.slice (some ⟨g, o, none⟩) n c, .func (.func 18) #[] #[.pointer (some pl)]] w fun r w' => r = .returned (.tuple #[]) ∧ (∃ ys, RowI w' g o n ys ∧ Srt κ 0 n ys ∧ SameS 0 n xs ys) ∧ Chg (One g) w w' := by
  have HH := Lib.hid (stable_any g o n c pl κ V xs w hn0 hn hC hR hV hup)
  clear hC hR hV hup
  go_enter Try.func17, Try.ntmps17
  go_wp2_with (go_at_call 41; go_loud (refine HH.out.mono ?_); rintro r w9 ⟨rfl, q2, q3⟩)
  go_end0
  exact ⟨rfl, q2, q3⟩
set_option maxRecDepth 100000 in
theorem sortStable_none (A : Option Addr) (c : Nat) (fv : Value) (w : World) :
    Calls Try.prog 17 #[.slice A 0 c, fv] w fun r w' => r = .returned (.tuple #[]) ∧ w = w' := by
  have h1 : Calls Try.prog 56 #[.slice A 0 c, .int .i64 0, .int .i64 0, fv] w fun r w' => r = .returned (.tuple #[]) ∧ w = w' := by
    go_enter Try.func56, Try.ntmps56
    go_wp2
    go_loopg [8] 1 (fun g' bv wz => g' = 1 ∧ bv = .int .i64 1 ∧ w = wz)
    case atStart => exact ⟨rfl, rfl, rfl⟩
    case round =>
      obtain ⟨hg, rfl, rfl⟩ := hrel
      go_wp2
      go_end0
      exact ⟨rfl, rfl⟩
  have H1 := Lib.hid h1
  have h2 : Calls Try.prog 41 #[.slice A 0 c, .int .i64 0, fv] w fun r w' => r = .returned (.tuple #[]) ∧ w = w' := by
    clear h1
    go_enter Try.func41, Try.ntmps41
    go_wp2
    go_loopg [7, 8] 1 (fun g' av bv wz => g' = 1 ∧ av = .int .i64 0 ∧ bv = .int .i64 20 ∧ w = wz)
    case atStart => exact ⟨rfl, rfl, rfl, rfl⟩
    case round =>
      obtain ⟨hg, rfl, rfl, rfl⟩ := hrel
      go_wp2_with (go_at_call 56; refine H1.out.mono ?_; rintro r w9 ⟨rfl, rfl⟩)
      go_loopg [6] 1 (fun g' bv wz => g' = 1 ∧ bv = .int .i64 20 ∧ w = wz)
      case atStart => exact ⟨rfl, rfl, rfl⟩
      case round =>
        obtain ⟨hg, rfl, rfl⟩ := hrel
        go_wp2
        go_end0
        exact ⟨rfl, rfl⟩
  have H2 := Lib.hid h2
  clear h1 h2 H1
  go_enter Try.func17, Try.ntmps17
  go_wp2_with (go_at_call 41; go_loud (refine H2.out.mono ?_); rintro r w9 ⟨rfl, rfl⟩)
  go_end0
  exact ⟨rfl, rfl⟩
end Go.Proofs.Ytpbnngfiinihmaa

namespace Go.Proofs.Ytpbnngfiinihmaa
open Go.RowKit
set_option maxRecDepth 100000 in
set_option maxHeartbeats 2000000 in
theorem lineC_any (q b o n c i j : Nat) (pi pj : Int) (w : World) (hi : i < n) (hj : j < n) (hn : n ≤ 1152921504606) (hq : w.cell? ⟨q, 0, none⟩ = some (.slice (some ⟨b, o, none⟩) n c))
    (h1 : w.cell? ⟨b, o + i * 17 + 11, none⟩ = some (.int .i64 pi)) (h2 : w.cell? ⟨b, o + j * 17 + 11, none⟩ = some (.int .i64 pj)) :
    Calls Try.prog 18 #[.int .i64 i, .int .i64 j, .pointer (some ⟨q, 0, none⟩)] w fun e w' => (∃ z : Int, e = .returned (.int .i64 z) ∧ (z < 0 ↔ pi < pj)) ∧ Chg Nil w w' := by
  have S0 : w.drew.cell? ⟨q, 0, none⟩ = some (.slice (some ⟨b, o, none⟩) n c) ∧ w.drew.cell? ⟨b, o + i * 17 + 11, none⟩ = some (.int .i64 pi) ∧ w.drew.cell? ⟨b, o + j * 17 + 11, none⟩ = some (.int .i64 pj) := ⟨hq, h1, h2⟩
  clear hq h1 h2
  go_enter Try.func18, Try.ntmps18
  go_wp2
  refine wp_region_V (fun w' => w'.cell? ⟨q, 0, none⟩ = some (.slice (some ⟨b, o, none⟩) n c) ∧ w'.cell? ⟨b, o + i * 17 + 11, none⟩ = some (.int .i64 pi) ∧ w'.cell? ⟨b, o + j * 17 + 11, none⟩ = some (.int .i64 pj)) (by kernel_rfl) ?_
  refine wpV_take (i := 1) (v := ?_) rfl (by kernel_rfl) (by kernel_rfl) (by kernel_rfl) (by first | exact fun _ _ _ h => h | exact fun c a w h => HQP.out c _ a w h) S0 (Or.inl ⟨by kernel_rfl, ?_⟩) ?_
  rotate_left
  · intro w hSw
    go_simp
    try with_reducible rfl
  try simp only [Act.put, List.setIfInBounds_toArray, List.set_cons_zero, List.set_cons_succ]
  refine wpV_take (i := 6) (v := ?_) rfl (by kernel_rfl) (by kernel_rfl) (by kernel_rfl) (by first | exact fun _ _ _ h => h | exact fun c a w h => HQP.out c _ a w h) S0 (Or.inl ⟨by kernel_rfl, ?_⟩) ?_
  rotate_left
  · intro w hSw
    go_simp
    try with_reducible rfl
  try simp only [Act.put, List.setIfInBounds_toArray, List.set_cons_zero, List.set_cons_succ]
  refine wpV_take (i := 0) (v := ?_) rfl (by kernel_rfl) (by kernel_rfl) (by kernel_rfl) (by first | exact fun _ _ _ h => h | exact fun c a w h => HQP.out c _ a w h) S0 (Or.inl ⟨by kernel_rfl, ?_⟩) ?_
  rotate_left
  · intro w hSw
    obtain ⟨s0, s1, s2⟩ := hSw
    go_simp
    try with_reducible rfl
  try simp only [Act.put, List.setIfInBounds_toArray, List.set_cons_zero, List.set_cons_succ]
  refine wpV_take (i := 2) (v := ?_) rfl (by kernel_rfl) (by kernel_rfl) (by kernel_rfl) (by first | exact fun _ _ _ h => h | exact fun c a w h => HQP.out c _ a w h) S0 (Or.inl ⟨by kernel_rfl, ?_⟩) ?_
  rotate_left
  · intro w hSw
    go_simp
    try with_reducible rfl
  try simp only [Act.put, List.setIfInBounds_toArray, List.set_cons_zero, List.set_cons_succ]
  refine wpV_take (i := 3) (v := ?_) rfl (by kernel_rfl) (by kernel_rfl) (by kernel_rfl) (by first | exact fun _ _ _ h => h | exact fun c a w h => HQP.out c _ a w h) S0 (Or.inl ⟨by kernel_rfl, ?_⟩) ?_
  rotate_left
  · intro w hSw
    go_simp
    try with_reducible rfl
  try simp only [Act.put, List.setIfInBounds_toArray, List.set_cons_zero, List.set_cons_succ]
  refine wpV_take (i := 4) (v := ?_) rfl (by kernel_rfl) (by kernel_rfl) (by kernel_rfl) (by first | exact fun _ _ _ h => h | exact fun c a w h => HQP.out c _ a w h) S0 (Or.inl ⟨by kernel_rfl, ?_⟩) ?_
  rotate_left
  · intro w hSw
    obtain ⟨s0, s1, s2⟩ := hSw
    go_simp
    try with_reducible rfl
  try simp only [Act.put, List.setIfInBounds_toArray, List.set_cons_zero, List.set_cons_succ]
  refine wpV_take (i := 5) (v := ?_) rfl (by kernel_rfl) (by kernel_rfl) (by kernel_rfl) (by first | exact fun _ _ _ h => h | exact fun c a w h => HQP.out c _ a w h) S0 (Or.inl ⟨by kernel_rfl, ?_⟩) ?_
  rotate_left
  · intro w hSw
    obtain ⟨s0, s1, s2⟩ := hSw
    go_simp
    try with_reducible rfl
  try simp only [Act.put, List.setIfInBounds_toArray, List.set_cons_zero, List.set_cons_succ]
  refine wpV_take (i := 7) (v := ?_) rfl (by kernel_rfl) (by kernel_rfl) (by kernel_rfl) (by first | exact fun _ _ _ h => h | exact fun c a w h => HQP.out c _ a w h) S0 (Or.inl ⟨by kernel_rfl, ?_⟩) ?_
  rotate_left
  · intro w hSw
    go_simp
    try with_reducible rfl
  try simp only [Act.put, List.setIfInBounds_toArray, List.set_cons_zero, List.set_cons_succ]
  refine wpV_take (i := 8) (v := ?_) rfl (by kernel_rfl) (by kernel_rfl) (by kernel_rfl) (by first | exact fun _ _ _ h => h | exact fun c a w h => HQP.out c _ a w h) S0 (Or.inl ⟨by kernel_rfl, ?_⟩) ?_
  rotate_left
  · intro w hSw
    go_simp
    try with_reducible rfl
  try simp only [Act.put, List.setIfInBounds_toArray, List.set_cons_zero, List.set_cons_succ]
  refine wpV_take (i := 9) (v := ?_) rfl (by kernel_rfl) (by kernel_rfl) (by kernel_rfl) (by first | exact fun _ _ _ h => h | exact fun c a w h => HQP.out c _ a w h) S0 (Or.inl ⟨by kernel_rfl, ?_⟩) ?_
  rotate_left
  · intro w hSw
    obtain ⟨s0, s1, s2⟩ := hSw
    go_simp
    try with_reducible rfl
  try simp only [Act.put, List.setIfInBounds_toArray, List.set_cons_zero, List.set_cons_succ]
  refine wpV_one (i := 10) (by kernel_rfl) rfl (fun K hK => ?_)
  go_simp
  refine (cmp_any _ _ _).mono ?_; rintro e w1 ⟨⟨z, rfl, hz⟩, rfl⟩; have HZ := Lib.hid hz; clear hz
  refine hK.out _ _ S0 ?_
  clear hK K
  try simp only [Act.put, List.setIfInBounds_toArray, List.set_cons_zero, List.set_cons_succ]
  refine wpV_take (i := 11) (v := ?_) rfl (by kernel_rfl) (by kernel_rfl) (by kernel_rfl) (by first | exact fun _ _ _ h => h | exact fun c a w h => HQP.out c _ a w h) S0 (Or.inl ⟨by kernel_rfl, ?_⟩) ?_
  rotate_left
  · intro w hSw
    go_simp
    try with_reducible rfl
  try simp only [Act.put, List.setIfInBounds_toArray, List.set_cons_zero, List.set_cons_succ]
  refine wpV_done (by kernel_rfl) ?_ _
  go_simp
  go_wp2
  go_ret
  exact ⟨⟨z, rfl, HZ.out⟩, (Chg.refl _ _).drew⟩
/-- the closure over a list of calls tells their points -/
theorem lineCmp (F : Nat → Prop) (q g b o n c : Nat) (l : List CallD) (w : World) (hn : n ≤ 1152921504606) (hL : CallsM w F (some ⟨b, o, none⟩) n l) (hg : ¬ F g) (hq : w.cell? ⟨q, 0, none⟩ = some (.slice (some ⟨b, o, none⟩) n c)) (hqg : q ≠ g) :
    Cmp w g ⟨q, 0, none⟩ (fun x => match l[x.toNat]? with | some c => c.pt | none => 0) (fun x => ∃ k : Nat, k < n ∧ x = k) := by
  refine ⟨fun W x y hc hx hy => ?_⟩
  obtain ⟨i, hi, rfl⟩ := hx
  obtain ⟨j, hj, rfl⟩ := hy
  obtain ⟨b1, o1, c1, x1, e1, f1, l1, _, a1⟩ := hL.at_ hi
  obtain ⟨b2, o2, c2, x2, e2, f2, l2, _, a2⟩ := hL.at_ hj
  injection e1 with e1; injection e1 with e3 e4; subst e3; subst e4
  injection e2 with e2; injection e2 with e3 e4; subst e3; subst e4
  have hs : ¬ One g b := fun e => hg (by have e : b = g := e; rw [← e]; exact f1)
  have := lineC_any q b o n c i j c1.pt c2.pt W hi hj hn (hc.cell (fun e => hqg e) hq) (hc.cell hs a1.c11) (hc.cell hs a2.c11)
  simpa only [Int.toNat_natCast, l1, l2] using this
end Go.Proofs.Ytpbnngfiinihmaa
