/- WALKS: coppiceref20.point, whole. WALKS: coppiceref09.SameEntries of any two lists. WALKS: a stretch of a row sorted by insertion (slices.insertionSortCmpFunc). -/
import Derived.Test.YtpbnngfiinihmaaOc11
import Derived.Test.YtpbnngfiinihmaaOc09
import Derived.Test.YtpbnngfiinihmaaOc05
import Derived.Deep.LoopGhost
import Derived.Deep.Cut
import Derived.Deep.QuietTactic
set_option linter.unusedVariables false
set_option linter.unusedSimpArgs false
namespace Go.Proofs.Ytpbnngfiinihmaa
open Go.RowKit
theorem pointE_no {l : List CallD} {i k : Nat} {c x : CallD} (hx : l[k]? = some x) (hk : k < i) (h : clashE c x) : ¬ pointE l i c := fun hp => hp.2 x (List.mem_iff_getElem?.2 ⟨k, by rw [List.getElem?_take, if_pos hk]; exact hx⟩) h
theorem moment_no2 {c : CallD} {one : Bool} (h1 : one = true ↔ (c.kd = 1 ∨ c.kd = 2 ∨ c.kd = 3)) (h2 : true = true ↔ ((c.fst < 0 ∨ (c.dn = true ∧ c.lst < c.fst)) ∨ (one = false ∧ c.pt ≠ -1))) : ¬ momentE c := by
  intro hm
  have h2 := h2.1 rfl
  unfold momentE at hm
  rcases h2 with h2 | ⟨h2, h3⟩
  · exact hm.1 h2
  · have : ¬ (c.kd = 1 ∨ c.kd = 2 ∨ c.kd = 3) := fun h => by rw [h1.2 h] at h2; cases h2
    rw [if_neg this] at hm
    exact h3 hm.2
theorem moment_no3 {c : CallD} {one : Bool} (h1 : one = true ↔ (c.kd = 1 ∨ c.kd = 2 ∨ c.kd = 3)) (h3 : true = true ↔ ((one = true ∧ c.dn = true ∧ (c.pt < c.fst ∨ c.lst < c.pt)) ∨ (one = true ∧ c.dn = false ∧ c.pt ≠ -1 ∧ c.pt < c.fst))) : ¬ momentE c := by
  intro hm
  have h3 := h3.1 rfl
  unfold momentE at hm
  rcases h3 with ⟨ho, hd, h⟩ | ⟨ho, hd, h⟩
  · rw [if_pos (h1.1 ho), if_pos hd] at hm; omega
  · rw [if_pos (h1.1 ho), if_neg (by rw [hd]; simp)] at hm; omega
theorem moment_yes {c : CallD} {one : Bool} (h1 : one = true ↔ (c.kd = 1 ∨ c.kd = 2 ∨ c.kd = 3)) (h2 : false = true ↔ ((c.fst < 0 ∨ (c.dn = true ∧ c.lst < c.fst)) ∨ (one = false ∧ c.pt ≠ -1)))
    (h3 : false = true ↔ ((one = true ∧ c.dn = true ∧ (c.pt < c.fst ∨ c.lst < c.pt)) ∨ (one = true ∧ c.dn = false ∧ c.pt ≠ -1 ∧ c.pt < c.fst))) : momentE c := by
  have n2 : ¬ _ := fun h => by have := h2.2 h; cases this
  have n3 : ¬ _ := fun h => by have := h3.2 h; cases this
  unfold momentE
  refine ⟨fun h => n2 (.inl h), ?_⟩
  by_cases ho : one = true
  · rw [if_pos (h1.1 ho)]
    by_cases hd : c.dn = true
    · rw [if_pos hd]
      have : ¬ (c.pt < c.fst ∨ c.lst < c.pt) := fun h => n3 (.inl ⟨ho, hd, h⟩)
      omega
    · rw [if_neg hd]
      have : ¬ (c.pt ≠ -1 ∧ c.pt < c.fst) := fun h => n3 (.inr ⟨ho, by simpa using hd, h⟩)
      omega
  · rw [if_neg (fun h => ho (h1.2 h))]
    have : ¬ c.pt ≠ -1 := fun h => n2 (.inr ⟨by simpa using ho, h⟩)
    omega
noncomputable def pt1C : Code := codeOr (Try.f28.body.bind (regionAt 2))
set_option maxRecDepth 100000 in
set_option maxHeartbeats 8000000 in
theorem pt1_cond (q : Nat)  (c : CallD) (z : CallX) (w : World) {u0 u1 u2 u3 u4 u6 u7 u8 u9 u10 u11 u12 u13 u14 u15 u16 u17 u18 u19 u20 u21 u22 u23 u24 u25 u26 u27 u28 u29 u30 u31 u32 u33 u34 u35 u36 u37 u38 u39 u40 u41 u42 u43 u44 u45 u46 u47 u48 u49 u50 u51 u52 u53 u54 u55 u56 u57 u58 u59 u60 u61 u62 u63 u64 u65 u66 u67 u68 u69 u70 u71 u72 u73 u74 u75 u76 u77 u78 u79 u80 u81 u82 u83 u84 u85 u86 u87 u88 u89 u90 u91 u92 u93 u94 u95 u96 u97 u98 u99 u100 u101 u102 u103 u104 u105 u106 u107 u108 u109 u110 u111 u112 u113 u114 u115 u116 u117 u118 u119 u120 u121 u122 u123 u124 u125 u126 u127 u128 u129 u130 u131 u132 u133 u134 u135 : Value} (Q : Exit → Act → World → Prop) (HK : Hid (Blk w q 48 (callCs c z)))
    (hexit : ∀ (v12 v13 v14 v15 v16 v17 v18 v19 v20 v21 v22 v23 v24 v25 v26 v27 : Value) (rb : Bool), (rb = true ↔ (c.kd = 1 ∨ c.kd = 2 ∨ c.kd = 3)) → Q .normal ⟨(u0 :: u1 :: u2 :: u3 :: u4 :: .pointer (some ⟨q, 0, none⟩) :: .bool rb :: u7 :: u8 :: u9 :: u10 :: u11 :: v12 :: v13 :: v14 :: v15 :: v16 :: v17 :: v18 :: v19 :: v20 :: v21 :: v22 :: v23 :: v24 :: v25 :: v26 :: v27 :: u28 :: u29 :: u30 :: u31 :: u32 :: u33 :: u34 :: u35 :: u36 :: u37 :: u38 :: u39 :: u40 :: u41 :: u42 :: u43 :: u44 :: u45 :: u46 :: u47 :: u48 :: u49 :: u50 :: u51 :: u52 :: u53 :: u54 :: u55 :: u56 :: u57 :: u58 :: u59 :: u60 :: u61 :: u62 :: u63 :: u64 :: u65 :: u66 :: u67 :: u68 :: u69 :: u70 :: u71 :: u72 :: u73 :: u74 :: u75 :: u76 :: u77 :: u78 :: u79 :: u80 :: u81 :: u82 :: u83 :: u84 :: u85 :: u86 :: u87 :: u88 :: u89 :: u90 :: u91 :: u92 :: u93 :: u94 :: u95 :: u96 :: u97 :: u98 :: u99 :: u100 :: u101 :: u102 :: u103 :: u104 :: u105 :: u106 :: u107 :: u108 :: u109 :: u110 :: u111 :: u112 :: u113 :: u114 :: u115 :: u116 :: u117 :: u118 :: u119 :: u120 :: u121 :: u122 :: u123 :: u124 :: u125 :: u126 :: u127 :: u128 :: u129 :: u130 :: u131 :: u132 :: u133 :: u134 :: u135 :: []).toArray, []⟩ w) :
    Code.wp Try.prog pt1C Q ⟨(u0 :: u1 :: u2 :: u3 :: u4 :: .pointer (some ⟨q, 0, none⟩) :: u6 :: u7 :: u8 :: u9 :: u10 :: u11 :: u12 :: u13 :: u14 :: u15 :: u16 :: u17 :: u18 :: u19 :: u20 :: u21 :: u22 :: u23 :: u24 :: u25 :: u26 :: u27 :: u28 :: u29 :: u30 :: u31 :: u32 :: u33 :: u34 :: u35 :: u36 :: u37 :: u38 :: u39 :: u40 :: u41 :: u42 :: u43 :: u44 :: u45 :: u46 :: u47 :: u48 :: u49 :: u50 :: u51 :: u52 :: u53 :: u54 :: u55 :: u56 :: u57 :: u58 :: u59 :: u60 :: u61 :: u62 :: u63 :: u64 :: u65 :: u66 :: u67 :: u68 :: u69 :: u70 :: u71 :: u72 :: u73 :: u74 :: u75 :: u76 :: u77 :: u78 :: u79 :: u80 :: u81 :: u82 :: u83 :: u84 :: u85 :: u86 :: u87 :: u88 :: u89 :: u90 :: u91 :: u92 :: u93 :: u94 :: u95 :: u96 :: u97 :: u98 :: u99 :: u100 :: u101 :: u102 :: u103 :: u104 :: u105 :: u106 :: u107 :: u108 :: u109 :: u110 :: u111 :: u112 :: u113 :: u114 :: u115 :: u116 :: u117 :: u118 :: u119 :: u120 :: u121 :: u122 :: u123 :: u124 :: u125 :: u126 :: u127 :: u128 :: u129 :: u130 :: u131 :: u132 :: u133 :: u134 :: u135 :: []).toArray, []⟩ w := by
  skip
  all_goals
    have HEX := Lib.hid hexit
    clear hexit
    have z2 : w.cell? ⟨q, 2, none⟩ = some (.int .i64 c.kd) := HK.out.cell 2
    have z9 : w.cell? ⟨q, 9, none⟩ = some (.int .i64 c.fst) := HK.out.cell 9
    have z10 : w.cell? ⟨q, 10, none⟩ = some (.int .i64 c.lst) := HK.out.cell 10
    have z11 : w.cell? ⟨q, 11, none⟩ = some (.int .i64 c.pt) := HK.out.cell 11
    have z12 : w.cell? ⟨q, 12, none⟩ = some (.bool c.dn) := HK.out.cell 12
    conv => arg 2; whnf
    go_wp2
    all_goals (clear z2 z9 z10 z11 z12; refine HEX.out _ _ _ _ _ _ _ _ _ _ _ _ _ _ _ _ _ ?_; clear HEX HK; simp_all <;> omega)
noncomputable def pt2C : Code := codeOr (Try.f28.body.bind (regionAt 3))
set_option maxRecDepth 100000 in
set_option maxHeartbeats 8000000 in
theorem pt2_cond (q : Nat) (one : Bool) (c : CallD) (z : CallX) (w : World) {u0 u1 u2 u3 u4 u7 u8 u9 u10 u11 u12 u13 u14 u15 u16 u17 u18 u19 u20 u21 u22 u23 u24 u25 u26 u27 u28 u29 u30 u31 u32 u33 u34 u35 u36 u37 u38 u39 u40 u41 u42 u43 u44 u45 u46 u47 u48 u49 u50 u51 u52 u53 u54 u55 u56 u57 u58 u59 u60 u61 u62 u63 u64 u65 u66 u67 u68 u69 u70 u71 u72 u73 u74 u75 u76 u77 u78 u79 u80 u81 u82 u83 u84 u85 u86 u87 u88 u89 u90 u91 u92 u93 u94 u95 u96 u97 u98 u99 u100 u101 u102 u103 u104 u105 u106 u107 u108 u109 u110 u111 u112 u113 u114 u115 u116 u117 u118 u119 u120 u121 u122 u123 u124 u125 u126 u127 u128 u129 u130 u131 u132 u133 u134 u135 : Value} (Q : Exit → Act → World → Prop) (HK : Hid (Blk w q 48 (callCs c z)))
    (hexit : ∀ (v28 v29 v30 v31 v32 v33 v34 v35 v36 v37 v38 v39 v40 v41 v42 v43 v44 v45 v46 v47 v48 v49 : Value) (rb : Bool), (rb = true ↔ ((c.fst < 0 ∨ (c.dn = true ∧ c.lst < c.fst)) ∨ (one = false ∧ c.pt ≠ -1))) → Q .normal ⟨(u0 :: u1 :: u2 :: u3 :: u4 :: .pointer (some ⟨q, 0, none⟩) :: .bool one :: u7 :: u8 :: u9 :: u10 :: u11 :: u12 :: u13 :: u14 :: u15 :: u16 :: u17 :: u18 :: u19 :: u20 :: u21 :: u22 :: u23 :: u24 :: u25 :: u26 :: u27 :: v28 :: v29 :: v30 :: v31 :: v32 :: v33 :: v34 :: v35 :: v36 :: v37 :: v38 :: v39 :: v40 :: v41 :: v42 :: v43 :: v44 :: v45 :: v46 :: v47 :: v48 :: v49 :: .bool rb :: u51 :: u52 :: u53 :: u54 :: u55 :: u56 :: u57 :: u58 :: u59 :: u60 :: u61 :: u62 :: u63 :: u64 :: u65 :: u66 :: u67 :: u68 :: u69 :: u70 :: u71 :: u72 :: u73 :: u74 :: u75 :: u76 :: u77 :: u78 :: u79 :: u80 :: u81 :: u82 :: u83 :: u84 :: u85 :: u86 :: u87 :: u88 :: u89 :: u90 :: u91 :: u92 :: u93 :: u94 :: u95 :: u96 :: u97 :: u98 :: u99 :: u100 :: u101 :: u102 :: u103 :: u104 :: u105 :: u106 :: u107 :: u108 :: u109 :: u110 :: u111 :: u112 :: u113 :: u114 :: u115 :: u116 :: u117 :: u118 :: u119 :: u120 :: u121 :: u122 :: u123 :: u124 :: u125 :: u126 :: u127 :: u128 :: u129 :: u130 :: u131 :: u132 :: u133 :: u134 :: u135 :: []).toArray, []⟩ w) :
    Code.wp Try.prog pt2C Q ⟨(u0 :: u1 :: u2 :: u3 :: u4 :: .pointer (some ⟨q, 0, none⟩) :: .bool one :: u7 :: u8 :: u9 :: u10 :: u11 :: u12 :: u13 :: u14 :: u15 :: u16 :: u17 :: u18 :: u19 :: u20 :: u21 :: u22 :: u23 :: u24 :: u25 :: u26 :: u27 :: u28 :: u29 :: u30 :: u31 :: u32 :: u33 :: u34 :: u35 :: u36 :: u37 :: u38 :: u39 :: u40 :: u41 :: u42 :: u43 :: u44 :: u45 :: u46 :: u47 :: u48 :: u49 :: u50 :: u51 :: u52 :: u53 :: u54 :: u55 :: u56 :: u57 :: u58 :: u59 :: u60 :: u61 :: u62 :: u63 :: u64 :: u65 :: u66 :: u67 :: u68 :: u69 :: u70 :: u71 :: u72 :: u73 :: u74 :: u75 :: u76 :: u77 :: u78 :: u79 :: u80 :: u81 :: u82 :: u83 :: u84 :: u85 :: u86 :: u87 :: u88 :: u89 :: u90 :: u91 :: u92 :: u93 :: u94 :: u95 :: u96 :: u97 :: u98 :: u99 :: u100 :: u101 :: u102 :: u103 :: u104 :: u105 :: u106 :: u107 :: u108 :: u109 :: u110 :: u111 :: u112 :: u113 :: u114 :: u115 :: u116 :: u117 :: u118 :: u119 :: u120 :: u121 :: u122 :: u123 :: u124 :: u125 :: u126 :: u127 :: u128 :: u129 :: u130 :: u131 :: u132 :: u133 :: u134 :: u135 :: []).toArray, []⟩ w := by
  cases one
  all_goals
    have HEX := Lib.hid hexit
    clear hexit
    have z2 : w.cell? ⟨q, 2, none⟩ = some (.int .i64 c.kd) := HK.out.cell 2
    have z9 : w.cell? ⟨q, 9, none⟩ = some (.int .i64 c.fst) := HK.out.cell 9
    have z10 : w.cell? ⟨q, 10, none⟩ = some (.int .i64 c.lst) := HK.out.cell 10
    have z11 : w.cell? ⟨q, 11, none⟩ = some (.int .i64 c.pt) := HK.out.cell 11
    have z12 : w.cell? ⟨q, 12, none⟩ = some (.bool c.dn) := HK.out.cell 12
    conv => arg 2; whnf
    go_wp2
    all_goals (clear z2 z9 z10 z11 z12; refine HEX.out _ _ _ _ _ _ _ _ _ _ _ _ _ _ _ _ _ _ _ _ _ _ _ ?_; clear HEX HK; simp_all <;> omega)
noncomputable def pt3C : Code := codeOr (Try.f28.body.bind (regionAt 5))
set_option maxRecDepth 100000 in
set_option maxHeartbeats 8000000 in
theorem pt3_cond (q : Nat) (one : Bool) (c : CallD) (z : CallX) (w : World) {u0 u1 u2 u3 u4 u7 u8 u9 u10 u11 u12 u13 u14 u15 u16 u17 u18 u19 u20 u21 u22 u23 u24 u25 u26 u27 u28 u29 u30 u31 u32 u33 u34 u35 u36 u37 u38 u39 u40 u41 u42 u43 u44 u45 u46 u47 u48 u49 u50 u51 u52 u53 u54 u55 u56 u57 u58 u59 u60 u61 u62 u63 u64 u65 u66 u67 u68 u69 u70 u71 u72 u73 u74 u75 u76 u77 u78 u79 u80 u81 u82 u83 u84 u85 u86 u87 u88 u89 u90 u91 u92 u93 u94 u95 u96 u97 u98 u99 u100 u101 u102 u103 u104 u105 u106 u107 u108 u109 u110 u111 u112 u113 u114 u115 u116 u117 u118 u119 u120 u121 u122 u123 u124 u125 u126 u127 u128 u129 u130 u131 u132 u133 u134 u135 : Value} (Q : Exit → Act → World → Prop) (HK : Hid (Blk w q 48 (callCs c z)))
    (hexit : ∀ (v51 v52 v53 v54 v55 v56 v57 v58 v59 v60 v61 v62 v63 v64 v65 v66 v67 v68 v69 v70 v71 v72 v73 v74 v75 v76 v77 v78 v79 v80 v81 v82 v83 v84 v85 v86 v87 v88 : Value) (rb : Bool), (rb = true ↔ ((one = true ∧ c.dn = true ∧ (c.pt < c.fst ∨ c.lst < c.pt)) ∨ (one = true ∧ c.dn = false ∧ c.pt ≠ -1 ∧ c.pt < c.fst))) → Q .normal ⟨(u0 :: u1 :: u2 :: u3 :: u4 :: .pointer (some ⟨q, 0, none⟩) :: .bool one :: u7 :: u8 :: u9 :: u10 :: u11 :: u12 :: u13 :: u14 :: u15 :: u16 :: u17 :: u18 :: u19 :: u20 :: u21 :: u22 :: u23 :: u24 :: u25 :: u26 :: u27 :: u28 :: u29 :: u30 :: u31 :: u32 :: u33 :: u34 :: u35 :: u36 :: u37 :: u38 :: u39 :: u40 :: u41 :: u42 :: u43 :: u44 :: u45 :: u46 :: u47 :: u48 :: u49 :: u50 :: v51 :: v52 :: v53 :: v54 :: v55 :: v56 :: v57 :: v58 :: v59 :: v60 :: v61 :: v62 :: v63 :: v64 :: v65 :: v66 :: v67 :: v68 :: v69 :: v70 :: v71 :: v72 :: v73 :: v74 :: v75 :: v76 :: v77 :: v78 :: v79 :: v80 :: v81 :: v82 :: v83 :: v84 :: v85 :: v86 :: v87 :: v88 :: .bool rb :: u90 :: u91 :: u92 :: u93 :: u94 :: u95 :: u96 :: u97 :: u98 :: u99 :: u100 :: u101 :: u102 :: u103 :: u104 :: u105 :: u106 :: u107 :: u108 :: u109 :: u110 :: u111 :: u112 :: u113 :: u114 :: u115 :: u116 :: u117 :: u118 :: u119 :: u120 :: u121 :: u122 :: u123 :: u124 :: u125 :: u126 :: u127 :: u128 :: u129 :: u130 :: u131 :: u132 :: u133 :: u134 :: u135 :: []).toArray, []⟩ w) :
    Code.wp Try.prog pt3C Q ⟨(u0 :: u1 :: u2 :: u3 :: u4 :: .pointer (some ⟨q, 0, none⟩) :: .bool one :: u7 :: u8 :: u9 :: u10 :: u11 :: u12 :: u13 :: u14 :: u15 :: u16 :: u17 :: u18 :: u19 :: u20 :: u21 :: u22 :: u23 :: u24 :: u25 :: u26 :: u27 :: u28 :: u29 :: u30 :: u31 :: u32 :: u33 :: u34 :: u35 :: u36 :: u37 :: u38 :: u39 :: u40 :: u41 :: u42 :: u43 :: u44 :: u45 :: u46 :: u47 :: u48 :: u49 :: u50 :: u51 :: u52 :: u53 :: u54 :: u55 :: u56 :: u57 :: u58 :: u59 :: u60 :: u61 :: u62 :: u63 :: u64 :: u65 :: u66 :: u67 :: u68 :: u69 :: u70 :: u71 :: u72 :: u73 :: u74 :: u75 :: u76 :: u77 :: u78 :: u79 :: u80 :: u81 :: u82 :: u83 :: u84 :: u85 :: u86 :: u87 :: u88 :: u89 :: u90 :: u91 :: u92 :: u93 :: u94 :: u95 :: u96 :: u97 :: u98 :: u99 :: u100 :: u101 :: u102 :: u103 :: u104 :: u105 :: u106 :: u107 :: u108 :: u109 :: u110 :: u111 :: u112 :: u113 :: u114 :: u115 :: u116 :: u117 :: u118 :: u119 :: u120 :: u121 :: u122 :: u123 :: u124 :: u125 :: u126 :: u127 :: u128 :: u129 :: u130 :: u131 :: u132 :: u133 :: u134 :: u135 :: []).toArray, []⟩ w := by
  cases one
  all_goals
    have HEX := Lib.hid hexit
    clear hexit
    have z2 : w.cell? ⟨q, 2, none⟩ = some (.int .i64 c.kd) := HK.out.cell 2
    have z9 : w.cell? ⟨q, 9, none⟩ = some (.int .i64 c.fst) := HK.out.cell 9
    have z10 : w.cell? ⟨q, 10, none⟩ = some (.int .i64 c.lst) := HK.out.cell 10
    have z11 : w.cell? ⟨q, 11, none⟩ = some (.int .i64 c.pt) := HK.out.cell 11
    have z12 : w.cell? ⟨q, 12, none⟩ = some (.bool c.dn) := HK.out.cell 12
    conv => arg 2; whnf
    go_wp2
    all_goals (clear z2 z9 z10 z11 z12; refine HEX.out _ _ _ _ _ _ _ _ _ _ _ _ _ _ _ _ _ _ _ _ _ _ _ _ _ _ _ _ _ _ _ _ _ _ _ _ _ _ _ ?_; clear HEX HK; simp_all <;> omega)
set_option maxRecDepth 100000 in
set_option maxHeartbeats 8000000 in
theorem point_any (F : Nat → Prop) (A : Option Addr) (n d i : Nat) (l : List CallD) (c : CallD) (w : World) (hL : CallsM w F A n l) (hn : n ≤ 1048576) (hi : i < n) (hc : l[i]? = some c) :
    Calls Try.prog 28 #[.slice A n d, .int .i64 i] w fun e w' => e = .returned (.bool (decide (pointE l i c))) ∧ Below w.heap.size w w' := by
  have HL := Lib.hid hL.lt
  have HN := Lib.hid hL.len
  clear hL
  obtain ⟨b, o, c', z, rfl, hFb, hlk, hw, hat⟩ := HL.out.at_ hi
  rw [hc] at hlk
  injection hlk with hlk
  subst hlk
  have HAT := Lib.hid hat
  have HC := Lib.hid hc
  have hi' : (i : Int) < (n : Int) := by omega
  clear hw hFb hat hc
  go_enter Try.func28, Try.ntmps28
  go_upto_region 2 with (first | (refine wpList_load_call rfl (.tmp 10) rfl rfl HAT.out ?_) | (refine wpList_store_call _ rfl (.tmp 5) (.tmp 11) rfl rfl rfl rfl ?_))
  obtain ⟨w1, hw1⟩ : ∃ W, W = w.alloc (.cells (callCs c z) 48) := ⟨_, rfl⟩
  rw [← hw1]
  have HB : Hid (Below w.heap.size w w1) := Lib.hid (by rw [hw1]; exact (Below.refl _ _).alloc (Nat.le_refl _) _)
  have HK : Hid (Blk w1 w.heap.size 48 (callCs c z)) := Lib.hid (by rw [hw1]; exact Blk.new _ _ _)
  clear hw1
  refine pt1_cond w.heap.size c z w1 _ HK ?_
  intro v12 v13 v14 v15 v16 v17 v18 v19 v20 v21 v22 v23 v24 v25 v26 v27 one hone
  have HONE := Lib.hid hone
  clear hone
  go_upto_region 3 with fail
  refine pt2_cond w.heap.size one c z w1 _ HK ?_
  intro v28 v29 v30 v31 v32 v33 v34 v35 v36 v37 v38 v39 v40 v41 v42 v43 v44 v45 v46 v47 v48 v49 r2 hr2
  have H2 := Lib.hid hr2
  clear hr2
  cases r2 with
  | true =>
    go_wp2
    go_ret
    refine ⟨ret_bool ?_, HB.out⟩
    exact ⟨fun h => by simp at h, fun h => absurd h.1 (moment_no2 HONE.out (by simpa using H2.out))⟩
  | false =>
    go_upto_region 5 with fail
    refine pt3_cond w.heap.size one c z w1 _ HK ?_
    intro v51 v52 v53 v54 v55 v56 v57 v58 v59 v60 v61 v62 v63 v64 v65 v66 v67 v68 v69 v70 v71 v72 v73 v74 v75 v76 v77 v78 v79 v80 v81 v82 v83 v84 v85 v86 v87 v88 r3 hr3
    have H3 := Lib.hid hr3
    clear hr3
    cases r3 with
    | true =>
      go_wp2
      go_ret
      refine ⟨ret_bool ?_, HB.out⟩
      exact ⟨fun h => by simp at h, fun h => absurd h.1 (moment_no3 HONE.out (by simpa using H3.out))⟩
    | false =>
      have HMO : Hid (momentE c) := Lib.hid (moment_yes HONE.out (by simpa using H2.out) (by simpa using H3.out))
      go_wp2
      go_loopg [7] i (fun g' iv wz => ∃ k : Nat, g' = i - k ∧ k ≤ i ∧ iv = .int .i64 k ∧ (∀ x ∈ l.take k, ¬ clashE c x) ∧ Chg Nil w1 wz)
      case atStart => exact ⟨0, by omega, by omega, rfl, by simp, Chg.refl _ _⟩
      case round =>
        obtain ⟨k, hg, hk, rfl, hno, hc1⟩ := hrel
        have HG := Lib.hid hg
        have HNO := Lib.hid hno
        have HC1 := Lib.hid hc1
        clear hg hno hc1
        by_cases hlt : k < i
        · have hlt' : (k : Int) < (i : Int) := by omega
          have hkn : k < n := by omega
          obtain ⟨b2, o2, x, y, e2, _, hlk2, _, hat2⟩ := (HL.out.below (HB.out.trans (HC1.out.below.mono HB.out.size))).at_ hkn
          injection e2 with e2; injection e2 with e3 e4; subst e3; subst e4
          have HX := Lib.hid hlk2
          have HA2 := Lib.hid hat2
          have hnn : n ≤ 1152921504606 := by omega
          clear hlk2 hat2
          go_upto_region 10 with fail
          refine clash_any F b o n d w.heap.size k c x y z wr _ (by exact Lib.hid (fun _ _ _ _ h => h)) hkn hnn HA2 (Lib.hid (HK.out.below HC1.out.below)) ?_
          intro v95 v96 v97 v98 v99 v100 v101 v102 v103 v104 v105 v106 v107 v108 v109 v110 v111 v112 v113 v114 v115 v116 v117 v118 v119 v120 v121 v122 v123 v124 v125 v126 v127 v128 v129 v130 v131 v132 v133 v134 rb w2 hrb hc2
          have HC2 := Lib.hid (HC1.out.trans hc2 (fun _ _ h => h))
          have HRB := Lib.hid hrb
          clear hrb hc2
          cases rb with
          | true =>
            go_wp2
            go_ret
            refine ⟨ret_bool ?_, HB.out.trans (HC2.out.below.mono HB.out.size)⟩
            exact ⟨fun h => by simp at h, fun h => absurd h (pointE_no HX.out hlt (of_decide_eq_true HRB.out.symm))⟩
          | false =>
            go_wp2
            go_roundg (i - (k + 1))
            case measure => have := HG.out; omega
            case rel =>
              refine ⟨k + 1, rfl, by omega, by go_num, fun x' hx' => ?_, HC2.out⟩
              rw [List.take_add_one, HX.out] at hx'
              rcases List.mem_append.1 hx' with h | h
              · exact HNO.out x' h
              · simp at h
                subst h
                exact of_decide_eq_false HRB.out.symm
        · have hki : k = i := by omega
          subst hki
          go_wp2
          go_ret
          refine ⟨ret_bool ?_, HB.out.trans (HC1.out.below.mono HB.out.size)⟩
          exact ⟨fun _ => ⟨HMO.out, HNO.out⟩, fun _ => by simp⟩
end Go.Proofs.Ytpbnngfiinihmaa

namespace Go.Proofs.Ytpbnngfiinihmaa
open Go.RowKit
noncomputable def saC : Code := codeOr (Try.f14.body.bind (regionAt 6))
/-- the two entries' cells, and what their texts are as strings -/
structure TwoAt (b o b' o' i : Nat) (u1 u2 u3 u4 : Value) (s1 s2 s3 s4 : List UInt8) (w : World) : Prop where
  c1 : w.cell? ⟨b, o + i * 2, none⟩ = some u1
  c2 : w.cell? ⟨b, o + i * 2 + 1, none⟩ = some u2
  c3 : w.cell? ⟨b', o' + i * 2, none⟩ = some u3
  c4 : w.cell? ⟨b', o' + i * 2 + 1, none⟩ = some u4
  q1 : (convert 36 9 u1).run Try.prog w = .ok (.string (sOf s1)) w
  q2 : (convert 36 9 u2).run Try.prog w = .ok (.string (sOf s2)) w
  q3 : (convert 36 9 u3).run Try.prog w = .ok (.string (sOf s3)) w
  q4 : (convert 36 9 u4).run Try.prog w = .ok (.string (sOf s4)) w
set_option maxRecDepth 100000 in
set_option maxHeartbeats 4000000 in
theorem sa_key (b o b' o' n c d i n1 c1 n2 c2 n3 c3 n4 c4 : Nat) (A1 A2 A3 A4 : Option Addr) (s1 s2 s3 s4 : List UInt8) (w : World) {u2 u3 u4 u6 u7 u8 u9 u10 u11 u12 u13 u14 u15 u16 u17 u18 u19 u20 u21 u22 u23 u24 u25 u26 u27 u28 u29 u30 u31 u32 u33 u34 u35 u36 u37 u38 u39 u40 u41 u42 u43 u44 : Value} (Q : Exit → Act → World → Prop) (HQP : Hid (∀ c t (a : Act) w, Q (.panic c) ⟨t, a.defers⟩ w → Q (.panic c) a w))
    (hi : i < n) (hn : n ≤ 1152921504606) (h1 : ((sOf s1).toList == (sOf s3).toList) = false) (S0 : TwoAt b o b' o' i (.slice A1 n1 c1) (.slice A2 n2 c2) (.slice A3 n3 c3) (.slice A4 n4 c4) s1 s2 s3 s4 w.drew)
    (hexit : ∀ (v17 v18 v19 v20 v21 v22 v23 v24 v25 v26 v27 v28 v29 v30 v31 v32 v33 v34 v35 v36 v37 v38 v39 v40 v41 v42 v43 : Value) (rb : Bool) (w' : World), (rb = true) → Chg Nil w w' → Q .normal ⟨(.slice (some ⟨b, o, none⟩) n c :: .slice (some ⟨b', o', none⟩) n d :: u2 :: u3 :: u4 :: .int .i64 i :: u6 :: u7 :: u8 :: u9 :: u10 :: u11 :: u12 :: u13 :: u14 :: u15 :: u16 :: v17 :: v18 :: v19 :: v20 :: v21 :: v22 :: v23 :: v24 :: v25 :: v26 :: v27 :: v28 :: v29 :: v30 :: v31 :: v32 :: v33 :: v34 :: v35 :: v36 :: v37 :: v38 :: v39 :: v40 :: v41 :: v42 :: v43 :: .bool rb :: []).toArray, []⟩ w') :
    Code.wp Try.prog saC Q ⟨(.slice (some ⟨b, o, none⟩) n c :: .slice (some ⟨b', o', none⟩) n d :: u2 :: u3 :: u4 :: .int .i64 i :: u6 :: u7 :: u8 :: u9 :: u10 :: u11 :: u12 :: u13 :: u14 :: u15 :: u16 :: u17 :: u18 :: u19 :: u20 :: u21 :: u22 :: u23 :: u24 :: u25 :: u26 :: u27 :: u28 :: u29 :: u30 :: u31 :: u32 :: u33 :: u34 :: u35 :: u36 :: u37 :: u38 :: u39 :: u40 :: u41 :: u42 :: u43 :: u44 :: []).toArray, []⟩ w := by
  have HEX := Lib.hid hexit
  clear hexit
  conv => arg 2; whnf
  refine wp_region_V (fun w' => TwoAt b o b' o' i (.slice A1 n1 c1) (.slice A2 n2 c2) (.slice A3 n3 c3) (.slice A4 n4 c4) s1 s2 s3 s4 w') (by kernel_rfl) ?_
  refine wpV_take (i := 0) (v := ?_) rfl (by kernel_rfl) (by kernel_rfl) (by kernel_rfl) (by first | exact fun _ _ _ h => h | exact fun c a w h => HQP.out c _ a w h) S0 (Or.inl ⟨by kernel_rfl, ?_⟩) ?_
  rotate_left
  · intro w hSw
    go_simp
    try with_reducible rfl
  try simp only [Act.put, List.setIfInBounds_toArray, List.set_cons_zero, List.set_cons_succ]
  refine wpV_take (i := 1) (v := ?_) rfl (by kernel_rfl) (by kernel_rfl) (by kernel_rfl) (by first | exact fun _ _ _ h => h | exact fun c a w h => HQP.out c _ a w h) S0 (Or.inl ⟨by kernel_rfl, ?_⟩) ?_
  rotate_left
  · intro w hSw
    go_simp
    try with_reducible rfl
  try simp only [Act.put, List.setIfInBounds_toArray, List.set_cons_zero, List.set_cons_succ]
  refine wpV_take (i := 2) (v := ?_) rfl (by kernel_rfl) (by kernel_rfl) (by kernel_rfl) (by first | exact fun _ _ _ h => h | exact fun c a w h => HQP.out c _ a w h) S0 (Or.inl ⟨by kernel_rfl, ?_⟩) ?_
  rotate_left
  · intro w hSw
    go_simp
    try with_reducible rfl
  try simp only [Act.put, List.setIfInBounds_toArray, List.set_cons_zero, List.set_cons_succ]
  refine wpV_take (i := 3) (v := ?_) rfl (by kernel_rfl) (by kernel_rfl) (by kernel_rfl) (by first | exact fun _ _ _ h => h | exact fun c a w h => HQP.out c _ a w h) S0 (Or.inl ⟨by kernel_rfl, ?_⟩) ?_
  rotate_left
  · intro w hSw
    go_simp
    try with_reducible rfl
  try simp only [Act.put, List.setIfInBounds_toArray, List.set_cons_zero, List.set_cons_succ]
  refine wpV_take (i := 6) (v := ?_) rfl (by kernel_rfl) (by kernel_rfl) (by kernel_rfl) (by first | exact fun _ _ _ h => h | exact fun c a w h => HQP.out c _ a w h) S0 (Or.inl ⟨by kernel_rfl, ?_⟩) ?_
  rotate_left
  · intro w hSw
    go_simp
    try with_reducible rfl
  try simp only [Act.put, List.setIfInBounds_toArray, List.set_cons_zero, List.set_cons_succ]
  refine wpV_take (i := 7) (v := ?_) rfl (by kernel_rfl) (by kernel_rfl) (by kernel_rfl) (by first | exact fun _ _ _ h => h | exact fun c a w h => HQP.out c _ a w h) S0 (Or.inl ⟨by kernel_rfl, ?_⟩) ?_
  rotate_left
  · intro w hSw
    go_simp
    try with_reducible rfl
  try simp only [Act.put, List.setIfInBounds_toArray, List.set_cons_zero, List.set_cons_succ]
  refine wpV_take (i := 8) (v := ?_) rfl (by kernel_rfl) (by kernel_rfl) (by kernel_rfl) (by first | exact fun _ _ _ h => h | exact fun c a w h => HQP.out c _ a w h) S0 (Or.inl ⟨by kernel_rfl, ?_⟩) ?_
  rotate_left
  · intro w hSw
    go_simp
    try with_reducible rfl
  try simp only [Act.put, List.setIfInBounds_toArray, List.set_cons_zero, List.set_cons_succ]
  refine wpV_take (i := 9) (v := ?_) rfl (by kernel_rfl) (by kernel_rfl) (by kernel_rfl) (by first | exact fun _ _ _ h => h | exact fun c a w h => HQP.out c _ a w h) S0 (Or.inl ⟨by kernel_rfl, ?_⟩) ?_
  rotate_left
  · intro w hSw
    go_simp
    try with_reducible rfl
  try simp only [Act.put, List.setIfInBounds_toArray, List.set_cons_zero, List.set_cons_succ]
  refine wpV_take (i := 4) (v := ?_) rfl (by kernel_rfl) (by kernel_rfl) (by kernel_rfl) (by first | exact fun _ _ _ h => h | exact fun c a w h => HQP.out c _ a w h) S0 (Or.inl ⟨by kernel_rfl, ?_⟩) ?_
  rotate_left
  · intro w hSw
    obtain ⟨z1, z2, z3, z4, q1, q2, q3, q4⟩ := hSw
    go_simp
    try with_reducible rfl
  try simp only [Act.put, List.setIfInBounds_toArray, List.set_cons_zero, List.set_cons_succ]
  refine wpV_take (i := 5) (v := ?_) rfl (by kernel_rfl) (by kernel_rfl) (by kernel_rfl) (by first | exact fun _ _ _ h => h | exact fun c a w h => HQP.out c _ a w h) S0 (Or.inl ⟨by kernel_rfl, ?_⟩) ?_
  rotate_left
  · intro w hSw
    obtain ⟨z1, z2, z3, z4, q1, q2, q3, q4⟩ := hSw
    go_simp
    try with_reducible rfl
  try simp only [Act.put, List.setIfInBounds_toArray, List.set_cons_zero, List.set_cons_succ]
  refine wpV_take (i := 10) (v := ?_) rfl (by kernel_rfl) (by kernel_rfl) (by kernel_rfl) (by first | exact fun _ _ _ h => h | exact fun c a w h => HQP.out c _ a w h) S0 (Or.inl ⟨by kernel_rfl, ?_⟩) ?_
  rotate_left
  · intro w hSw
    obtain ⟨z1, z2, z3, z4, q1, q2, q3, q4⟩ := hSw
    go_simp
    try with_reducible rfl
  try simp only [Act.put, List.setIfInBounds_toArray, List.set_cons_zero, List.set_cons_succ]
  refine wpV_take (i := 11) (v := ?_) rfl (by kernel_rfl) (by kernel_rfl) (by kernel_rfl) (by first | exact fun _ _ _ h => h | exact fun c a w h => HQP.out c _ a w h) S0 (Or.inl ⟨by kernel_rfl, ?_⟩) ?_
  rotate_left
  · intro w hSw
    obtain ⟨z1, z2, z3, z4, q1, q2, q3, q4⟩ := hSw
    go_simp
    try with_reducible rfl
  try simp only [Act.put, List.setIfInBounds_toArray, List.set_cons_zero, List.set_cons_succ]
  refine wpV_take (i := 12) (v := ?_) rfl (by kernel_rfl) (by kernel_rfl) (by kernel_rfl) (by first | exact fun _ _ _ h => h | exact fun c a w h => HQP.out c _ a w h) S0 (Or.inl ⟨by kernel_rfl, ?_⟩) ?_
  rotate_left
  · intro w hSw
    go_simp
    try with_reducible rfl
  try simp only [Act.put, List.setIfInBounds_toArray, List.set_cons_zero, List.set_cons_succ]
  refine wpV_take (i := 13) (v := ?_) rfl (by kernel_rfl) (by kernel_rfl) (by kernel_rfl) (by first | exact fun _ _ _ h => h | exact fun c a w h => HQP.out c _ a w h) S0 (Or.inl ⟨by kernel_rfl, ?_⟩) ?_
  rotate_left
  · intro w hSw
    go_simp
    try with_reducible rfl
  try simp only [Act.put, List.setIfInBounds_toArray, List.set_cons_zero, List.set_cons_succ]
  refine wpV_take (i := 14) (v := undef) rfl (by kernel_rfl) (by kernel_rfl) (by kernel_rfl) (fun c a w h => HQP.out c _ a w h) S0 (Or.inr ⟨by kernel_rfl, rfl⟩) ?_
  try simp only [Act.put, List.setIfInBounds_toArray, List.set_cons_zero, List.set_cons_succ]
  refine wpV_take (i := 15) (v := undef) rfl (by kernel_rfl) (by kernel_rfl) (by kernel_rfl) (fun c a w h => HQP.out c _ a w h) S0 (Or.inr ⟨by kernel_rfl, rfl⟩) ?_
  try simp only [Act.put, List.setIfInBounds_toArray, List.set_cons_zero, List.set_cons_succ]
  refine wpV_take (i := 16) (v := undef) rfl (by kernel_rfl) (by kernel_rfl) (by kernel_rfl) (fun c a w h => HQP.out c _ a w h) S0 (Or.inr ⟨by kernel_rfl, rfl⟩) ?_
  try simp only [Act.put, List.setIfInBounds_toArray, List.set_cons_zero, List.set_cons_succ]
  refine wpV_take (i := 17) (v := undef) rfl (by kernel_rfl) (by kernel_rfl) (by kernel_rfl) (fun c a w h => HQP.out c _ a w h) S0 (Or.inr ⟨by kernel_rfl, rfl⟩) ?_
  try simp only [Act.put, List.setIfInBounds_toArray, List.set_cons_zero, List.set_cons_succ]
  refine wpV_take (i := 18) (v := undef) rfl (by kernel_rfl) (by kernel_rfl) (by kernel_rfl) (fun c a w h => HQP.out c _ a w h) S0 (Or.inr ⟨by kernel_rfl, rfl⟩) ?_
  try simp only [Act.put, List.setIfInBounds_toArray, List.set_cons_zero, List.set_cons_succ]
  refine wpV_take (i := 19) (v := undef) rfl (by kernel_rfl) (by kernel_rfl) (by kernel_rfl) (fun c a w h => HQP.out c _ a w h) S0 (Or.inr ⟨by kernel_rfl, rfl⟩) ?_
  try simp only [Act.put, List.setIfInBounds_toArray, List.set_cons_zero, List.set_cons_succ]
  refine wpV_take (i := 20) (v := undef) rfl (by kernel_rfl) (by kernel_rfl) (by kernel_rfl) (fun c a w h => HQP.out c _ a w h) S0 (Or.inr ⟨by kernel_rfl, rfl⟩) ?_
  try simp only [Act.put, List.setIfInBounds_toArray, List.set_cons_zero, List.set_cons_succ]
  refine wpV_take (i := 21) (v := undef) rfl (by kernel_rfl) (by kernel_rfl) (by kernel_rfl) (fun c a w h => HQP.out c _ a w h) S0 (Or.inr ⟨by kernel_rfl, rfl⟩) ?_
  try simp only [Act.put, List.setIfInBounds_toArray, List.set_cons_zero, List.set_cons_succ]
  refine wpV_take (i := 22) (v := undef) rfl (by kernel_rfl) (by kernel_rfl) (by kernel_rfl) (fun c a w h => HQP.out c _ a w h) S0 (Or.inr ⟨by kernel_rfl, rfl⟩) ?_
  try simp only [Act.put, List.setIfInBounds_toArray, List.set_cons_zero, List.set_cons_succ]
  refine wpV_take (i := 23) (v := undef) rfl (by kernel_rfl) (by kernel_rfl) (by kernel_rfl) (fun c a w h => HQP.out c _ a w h) S0 (Or.inr ⟨by kernel_rfl, rfl⟩) ?_
  try simp only [Act.put, List.setIfInBounds_toArray, List.set_cons_zero, List.set_cons_succ]
  refine wpV_take (i := 24) (v := undef) rfl (by kernel_rfl) (by kernel_rfl) (by kernel_rfl) (fun c a w h => HQP.out c _ a w h) S0 (Or.inr ⟨by kernel_rfl, rfl⟩) ?_
  try simp only [Act.put, List.setIfInBounds_toArray, List.set_cons_zero, List.set_cons_succ]
  refine wpV_take (i := 25) (v := undef) rfl (by kernel_rfl) (by kernel_rfl) (by kernel_rfl) (fun c a w h => HQP.out c _ a w h) S0 (Or.inr ⟨by kernel_rfl, rfl⟩) ?_
  try simp only [Act.put, List.setIfInBounds_toArray, List.set_cons_zero, List.set_cons_succ]
  refine wpV_take (i := 26) (v := undef) rfl (by kernel_rfl) (by kernel_rfl) (by kernel_rfl) (fun c a w h => HQP.out c _ a w h) S0 (Or.inr ⟨by kernel_rfl, rfl⟩) ?_
  try simp only [Act.put, List.setIfInBounds_toArray, List.set_cons_zero, List.set_cons_succ]
  refine wpV_take (i := 27) (v := ?_) rfl (by kernel_rfl) (by kernel_rfl) (by kernel_rfl) (by first | exact fun _ _ _ h => h | exact fun c a w h => HQP.out c _ a w h) S0 (Or.inl ⟨by kernel_rfl, ?_⟩) ?_
  rotate_left
  · intro w hSw
    go_simp
    try with_reducible rfl
  try simp only [Act.put, List.setIfInBounds_toArray, List.set_cons_zero, List.set_cons_succ]
  refine wpV_done (by kernel_rfl) ?_ _
  go_simp
  exact HEX.out _ _ _ _ _ _ _ _ _ _ _ _ _ _ _ _ _ _ _ _ _ _ _ _ _ _ _ _ _ rfl (Chg.refl _ _).drew
set_option maxRecDepth 100000 in
set_option maxHeartbeats 4000000 in
theorem sa_val (b o b' o' n c d i n1 c1 n2 c2 n3 c3 n4 c4 : Nat) (A1 A2 A3 A4 : Option Addr) (s1 s2 s3 s4 : List UInt8) (w : World) {u2 u3 u4 u6 u7 u8 u9 u10 u11 u12 u13 u14 u15 u16 u17 u18 u19 u20 u21 u22 u23 u24 u25 u26 u27 u28 u29 u30 u31 u32 u33 u34 u35 u36 u37 u38 u39 u40 u41 u42 u43 u44 : Value} (Q : Exit → Act → World → Prop) (HQP : Hid (∀ c t (a : Act) w, Q (.panic c) ⟨t, a.defers⟩ w → Q (.panic c) a w))
    (hi : i < n) (hn : n ≤ 1152921504606) (h1 : ((sOf s1).toList == (sOf s3).toList) = true) (S0 : TwoAt b o b' o' i (.slice A1 n1 c1) (.slice A2 n2 c2) (.slice A3 n3 c3) (.slice A4 n4 c4) s1 s2 s3 s4 w.drew)
    (hexit : ∀ (v17 v18 v19 v20 v21 v22 v23 v24 v25 v26 v27 v28 v29 v30 v31 v32 v33 v34 v35 v36 v37 v38 v39 v40 v41 v42 v43 : Value) (rb : Bool) (w' : World), (rb = !((sOf s2).toList == (sOf s4).toList)) → Chg Nil w w' → Q .normal ⟨(.slice (some ⟨b, o, none⟩) n c :: .slice (some ⟨b', o', none⟩) n d :: u2 :: u3 :: u4 :: .int .i64 i :: u6 :: u7 :: u8 :: u9 :: u10 :: u11 :: u12 :: u13 :: u14 :: u15 :: u16 :: v17 :: v18 :: v19 :: v20 :: v21 :: v22 :: v23 :: v24 :: v25 :: v26 :: v27 :: v28 :: v29 :: v30 :: v31 :: v32 :: v33 :: v34 :: v35 :: v36 :: v37 :: v38 :: v39 :: v40 :: v41 :: v42 :: v43 :: .bool rb :: []).toArray, []⟩ w') :
    Code.wp Try.prog saC Q ⟨(.slice (some ⟨b, o, none⟩) n c :: .slice (some ⟨b', o', none⟩) n d :: u2 :: u3 :: u4 :: .int .i64 i :: u6 :: u7 :: u8 :: u9 :: u10 :: u11 :: u12 :: u13 :: u14 :: u15 :: u16 :: u17 :: u18 :: u19 :: u20 :: u21 :: u22 :: u23 :: u24 :: u25 :: u26 :: u27 :: u28 :: u29 :: u30 :: u31 :: u32 :: u33 :: u34 :: u35 :: u36 :: u37 :: u38 :: u39 :: u40 :: u41 :: u42 :: u43 :: u44 :: []).toArray, []⟩ w := by
  have HEX := Lib.hid hexit
  clear hexit
  conv => arg 2; whnf
  refine wp_region_V (fun w' => TwoAt b o b' o' i (.slice A1 n1 c1) (.slice A2 n2 c2) (.slice A3 n3 c3) (.slice A4 n4 c4) s1 s2 s3 s4 w') (by kernel_rfl) ?_
  refine wpV_take (i := 0) (v := ?_) rfl (by kernel_rfl) (by kernel_rfl) (by kernel_rfl) (by first | exact fun _ _ _ h => h | exact fun c a w h => HQP.out c _ a w h) S0 (Or.inl ⟨by kernel_rfl, ?_⟩) ?_
  rotate_left
  · intro w hSw
    go_simp
    try with_reducible rfl
  try simp only [Act.put, List.setIfInBounds_toArray, List.set_cons_zero, List.set_cons_succ]
  refine wpV_take (i := 1) (v := ?_) rfl (by kernel_rfl) (by kernel_rfl) (by kernel_rfl) (by first | exact fun _ _ _ h => h | exact fun c a w h => HQP.out c _ a w h) S0 (Or.inl ⟨by kernel_rfl, ?_⟩) ?_
  rotate_left
  · intro w hSw
    go_simp
    try with_reducible rfl
  try simp only [Act.put, List.setIfInBounds_toArray, List.set_cons_zero, List.set_cons_succ]
  refine wpV_take (i := 2) (v := ?_) rfl (by kernel_rfl) (by kernel_rfl) (by kernel_rfl) (by first | exact fun _ _ _ h => h | exact fun c a w h => HQP.out c _ a w h) S0 (Or.inl ⟨by kernel_rfl, ?_⟩) ?_
  rotate_left
  · intro w hSw
    go_simp
    try with_reducible rfl
  try simp only [Act.put, List.setIfInBounds_toArray, List.set_cons_zero, List.set_cons_succ]
  refine wpV_take (i := 3) (v := ?_) rfl (by kernel_rfl) (by kernel_rfl) (by kernel_rfl) (by first | exact fun _ _ _ h => h | exact fun c a w h => HQP.out c _ a w h) S0 (Or.inl ⟨by kernel_rfl, ?_⟩) ?_
  rotate_left
  · intro w hSw
    go_simp
    try with_reducible rfl
  try simp only [Act.put, List.setIfInBounds_toArray, List.set_cons_zero, List.set_cons_succ]
  refine wpV_take (i := 6) (v := ?_) rfl (by kernel_rfl) (by kernel_rfl) (by kernel_rfl) (by first | exact fun _ _ _ h => h | exact fun c a w h => HQP.out c _ a w h) S0 (Or.inl ⟨by kernel_rfl, ?_⟩) ?_
  rotate_left
  · intro w hSw
    go_simp
    try with_reducible rfl
  try simp only [Act.put, List.setIfInBounds_toArray, List.set_cons_zero, List.set_cons_succ]
  refine wpV_take (i := 7) (v := ?_) rfl (by kernel_rfl) (by kernel_rfl) (by kernel_rfl) (by first | exact fun _ _ _ h => h | exact fun c a w h => HQP.out c _ a w h) S0 (Or.inl ⟨by kernel_rfl, ?_⟩) ?_
  rotate_left
  · intro w hSw
    go_simp
    try with_reducible rfl
  try simp only [Act.put, List.setIfInBounds_toArray, List.set_cons_zero, List.set_cons_succ]
  refine wpV_take (i := 8) (v := ?_) rfl (by kernel_rfl) (by kernel_rfl) (by kernel_rfl) (by first | exact fun _ _ _ h => h | exact fun c a w h => HQP.out c _ a w h) S0 (Or.inl ⟨by kernel_rfl, ?_⟩) ?_
  rotate_left
  · intro w hSw
    go_simp
    try with_reducible rfl
  try simp only [Act.put, List.setIfInBounds_toArray, List.set_cons_zero, List.set_cons_succ]
  refine wpV_take (i := 9) (v := ?_) rfl (by kernel_rfl) (by kernel_rfl) (by kernel_rfl) (by first | exact fun _ _ _ h => h | exact fun c a w h => HQP.out c _ a w h) S0 (Or.inl ⟨by kernel_rfl, ?_⟩) ?_
  rotate_left
  · intro w hSw
    go_simp
    try with_reducible rfl
  try simp only [Act.put, List.setIfInBounds_toArray, List.set_cons_zero, List.set_cons_succ]
  refine wpV_take (i := 4) (v := ?_) rfl (by kernel_rfl) (by kernel_rfl) (by kernel_rfl) (by first | exact fun _ _ _ h => h | exact fun c a w h => HQP.out c _ a w h) S0 (Or.inl ⟨by kernel_rfl, ?_⟩) ?_
  rotate_left
  · intro w hSw
    obtain ⟨z1, z2, z3, z4, q1, q2, q3, q4⟩ := hSw
    go_simp
    try with_reducible rfl
  try simp only [Act.put, List.setIfInBounds_toArray, List.set_cons_zero, List.set_cons_succ]
  refine wpV_take (i := 5) (v := ?_) rfl (by kernel_rfl) (by kernel_rfl) (by kernel_rfl) (by first | exact fun _ _ _ h => h | exact fun c a w h => HQP.out c _ a w h) S0 (Or.inl ⟨by kernel_rfl, ?_⟩) ?_
  rotate_left
  · intro w hSw
    obtain ⟨z1, z2, z3, z4, q1, q2, q3, q4⟩ := hSw
    go_simp
    try with_reducible rfl
  try simp only [Act.put, List.setIfInBounds_toArray, List.set_cons_zero, List.set_cons_succ]
  refine wpV_take (i := 10) (v := ?_) rfl (by kernel_rfl) (by kernel_rfl) (by kernel_rfl) (by first | exact fun _ _ _ h => h | exact fun c a w h => HQP.out c _ a w h) S0 (Or.inl ⟨by kernel_rfl, ?_⟩) ?_
  rotate_left
  · intro w hSw
    obtain ⟨z1, z2, z3, z4, q1, q2, q3, q4⟩ := hSw
    go_simp
    try with_reducible rfl
  try simp only [Act.put, List.setIfInBounds_toArray, List.set_cons_zero, List.set_cons_succ]
  refine wpV_take (i := 11) (v := ?_) rfl (by kernel_rfl) (by kernel_rfl) (by kernel_rfl) (by first | exact fun _ _ _ h => h | exact fun c a w h => HQP.out c _ a w h) S0 (Or.inl ⟨by kernel_rfl, ?_⟩) ?_
  rotate_left
  · intro w hSw
    obtain ⟨z1, z2, z3, z4, q1, q2, q3, q4⟩ := hSw
    go_simp
    try with_reducible rfl
  try simp only [Act.put, List.setIfInBounds_toArray, List.set_cons_zero, List.set_cons_succ]
  refine wpV_take (i := 12) (v := ?_) rfl (by kernel_rfl) (by kernel_rfl) (by kernel_rfl) (by first | exact fun _ _ _ h => h | exact fun c a w h => HQP.out c _ a w h) S0 (Or.inl ⟨by kernel_rfl, ?_⟩) ?_
  rotate_left
  · intro w hSw
    go_simp
    try with_reducible rfl
  try simp only [Act.put, List.setIfInBounds_toArray, List.set_cons_zero, List.set_cons_succ]
  refine wpV_take (i := 13) (v := ?_) rfl (by kernel_rfl) (by kernel_rfl) (by kernel_rfl) (by first | exact fun _ _ _ h => h | exact fun c a w h => HQP.out c _ a w h) S0 (Or.inl ⟨by kernel_rfl, ?_⟩) ?_
  rotate_left
  · intro w hSw
    go_simp
    try with_reducible rfl
  try simp only [Act.put, List.setIfInBounds_toArray, List.set_cons_zero, List.set_cons_succ]
  refine wpV_take (i := 14) (v := ?_) rfl (by kernel_rfl) (by kernel_rfl) (by kernel_rfl) (by first | exact fun _ _ _ h => h | exact fun c a w h => HQP.out c _ a w h) S0 (Or.inl ⟨by kernel_rfl, ?_⟩) ?_
  rotate_left
  · intro w hSw
    go_simp
    try with_reducible rfl
  try simp only [Act.put, List.setIfInBounds_toArray, List.set_cons_zero, List.set_cons_succ]
  refine wpV_take (i := 15) (v := ?_) rfl (by kernel_rfl) (by kernel_rfl) (by kernel_rfl) (by first | exact fun _ _ _ h => h | exact fun c a w h => HQP.out c _ a w h) S0 (Or.inl ⟨by kernel_rfl, ?_⟩) ?_
  rotate_left
  · intro w hSw
    go_simp
    try with_reducible rfl
  try simp only [Act.put, List.setIfInBounds_toArray, List.set_cons_zero, List.set_cons_succ]
  refine wpV_take (i := 16) (v := ?_) rfl (by kernel_rfl) (by kernel_rfl) (by kernel_rfl) (by first | exact fun _ _ _ h => h | exact fun c a w h => HQP.out c _ a w h) S0 (Or.inl ⟨by kernel_rfl, ?_⟩) ?_
  rotate_left
  · intro w hSw
    go_simp
    try with_reducible rfl
  try simp only [Act.put, List.setIfInBounds_toArray, List.set_cons_zero, List.set_cons_succ]
  refine wpV_take (i := 17) (v := ?_) rfl (by kernel_rfl) (by kernel_rfl) (by kernel_rfl) (by first | exact fun _ _ _ h => h | exact fun c a w h => HQP.out c _ a w h) S0 (Or.inl ⟨by kernel_rfl, ?_⟩) ?_
  rotate_left
  · intro w hSw
    go_simp
    try with_reducible rfl
  try simp only [Act.put, List.setIfInBounds_toArray, List.set_cons_zero, List.set_cons_succ]
  refine wpV_take (i := 20) (v := ?_) rfl (by kernel_rfl) (by kernel_rfl) (by kernel_rfl) (by first | exact fun _ _ _ h => h | exact fun c a w h => HQP.out c _ a w h) S0 (Or.inl ⟨by kernel_rfl, ?_⟩) ?_
  rotate_left
  · intro w hSw
    go_simp
    try with_reducible rfl
  try simp only [Act.put, List.setIfInBounds_toArray, List.set_cons_zero, List.set_cons_succ]
  refine wpV_take (i := 21) (v := ?_) rfl (by kernel_rfl) (by kernel_rfl) (by kernel_rfl) (by first | exact fun _ _ _ h => h | exact fun c a w h => HQP.out c _ a w h) S0 (Or.inl ⟨by kernel_rfl, ?_⟩) ?_
  rotate_left
  · intro w hSw
    go_simp
    try with_reducible rfl
  try simp only [Act.put, List.setIfInBounds_toArray, List.set_cons_zero, List.set_cons_succ]
  refine wpV_take (i := 22) (v := ?_) rfl (by kernel_rfl) (by kernel_rfl) (by kernel_rfl) (by first | exact fun _ _ _ h => h | exact fun c a w h => HQP.out c _ a w h) S0 (Or.inl ⟨by kernel_rfl, ?_⟩) ?_
  rotate_left
  · intro w hSw
    go_simp
    try with_reducible rfl
  try simp only [Act.put, List.setIfInBounds_toArray, List.set_cons_zero, List.set_cons_succ]
  refine wpV_take (i := 23) (v := ?_) rfl (by kernel_rfl) (by kernel_rfl) (by kernel_rfl) (by first | exact fun _ _ _ h => h | exact fun c a w h => HQP.out c _ a w h) S0 (Or.inl ⟨by kernel_rfl, ?_⟩) ?_
  rotate_left
  · intro w hSw
    go_simp
    try with_reducible rfl
  try simp only [Act.put, List.setIfInBounds_toArray, List.set_cons_zero, List.set_cons_succ]
  refine wpV_take (i := 18) (v := ?_) rfl (by kernel_rfl) (by kernel_rfl) (by kernel_rfl) (by first | exact fun _ _ _ h => h | exact fun c a w h => HQP.out c _ a w h) S0 (Or.inl ⟨by kernel_rfl, ?_⟩) ?_
  rotate_left
  · intro w hSw
    obtain ⟨z1, z2, z3, z4, q1, q2, q3, q4⟩ := hSw
    go_simp
    try with_reducible rfl
  try simp only [Act.put, List.setIfInBounds_toArray, List.set_cons_zero, List.set_cons_succ]
  refine wpV_take (i := 19) (v := ?_) rfl (by kernel_rfl) (by kernel_rfl) (by kernel_rfl) (by first | exact fun _ _ _ h => h | exact fun c a w h => HQP.out c _ a w h) S0 (Or.inl ⟨by kernel_rfl, ?_⟩) ?_
  rotate_left
  · intro w hSw
    obtain ⟨z1, z2, z3, z4, q1, q2, q3, q4⟩ := hSw
    go_simp
    try with_reducible rfl
  try simp only [Act.put, List.setIfInBounds_toArray, List.set_cons_zero, List.set_cons_succ]
  refine wpV_take (i := 24) (v := ?_) rfl (by kernel_rfl) (by kernel_rfl) (by kernel_rfl) (by first | exact fun _ _ _ h => h | exact fun c a w h => HQP.out c _ a w h) S0 (Or.inl ⟨by kernel_rfl, ?_⟩) ?_
  rotate_left
  · intro w hSw
    obtain ⟨z1, z2, z3, z4, q1, q2, q3, q4⟩ := hSw
    go_simp
    try with_reducible rfl
  try simp only [Act.put, List.setIfInBounds_toArray, List.set_cons_zero, List.set_cons_succ]
  refine wpV_take (i := 25) (v := ?_) rfl (by kernel_rfl) (by kernel_rfl) (by kernel_rfl) (by first | exact fun _ _ _ h => h | exact fun c a w h => HQP.out c _ a w h) S0 (Or.inl ⟨by kernel_rfl, ?_⟩) ?_
  rotate_left
  · intro w hSw
    obtain ⟨z1, z2, z3, z4, q1, q2, q3, q4⟩ := hSw
    go_simp
    try with_reducible rfl
  try simp only [Act.put, List.setIfInBounds_toArray, List.set_cons_zero, List.set_cons_succ]
  refine wpV_take (i := 26) (v := ?_) rfl (by kernel_rfl) (by kernel_rfl) (by kernel_rfl) (by first | exact fun _ _ _ h => h | exact fun c a w h => HQP.out c _ a w h) S0 (Or.inl ⟨by kernel_rfl, ?_⟩) ?_
  rotate_left
  · intro w hSw
    go_simp
    try with_reducible rfl
  try simp only [Act.put, List.setIfInBounds_toArray, List.set_cons_zero, List.set_cons_succ]
  refine wpV_take (i := 27) (v := ?_) rfl (by kernel_rfl) (by kernel_rfl) (by kernel_rfl) (by first | exact fun _ _ _ h => h | exact fun c a w h => HQP.out c _ a w h) S0 (Or.inl ⟨by kernel_rfl, ?_⟩) ?_
  rotate_left
  · intro w hSw
    go_simp
    try with_reducible rfl
  try simp only [Act.put, List.setIfInBounds_toArray, List.set_cons_zero, List.set_cons_succ]
  refine wpV_done (by kernel_rfl) ?_ _
  go_simp
  exact HEX.out _ _ _ _ _ _ _ _ _ _ _ _ _ _ _ _ _ _ _ _ _ _ _ _ _ _ _ _ _ rfl (Chg.refl _ _).drew
theorem TwoAt.of {w : World} {b o b' o' i n1 c1 n2 c2 n3 c3 n4 c4 : Nat} {A1 A2 A3 A4 : Option Addr} {s1 s2 s3 s4 : List UInt8}
    (z1 : w.cell? ⟨b, o + i * 2, none⟩ = some (.slice A1 n1 c1)) (z2 : w.cell? ⟨b, o + i * 2 + 1, none⟩ = some (.slice A2 n2 c2)) (z3 : w.cell? ⟨b', o' + i * 2, none⟩ = some (.slice A3 n3 c3)) (z4 : w.cell? ⟨b', o' + i * 2 + 1, none⟩ = some (.slice A4 n4 c4))
    (h1 : SB w Any (.slice A1 n1 c1) s1) (h2 : SB w Any (.slice A2 n2 c2) s2) (h3 : SB w Any (.slice A3 n3 c3) s3) (h4 : SB w Any (.slice A4 n4 c4) s4) :
    TwoAt b o b' o' i (.slice A1 n1 c1) (.slice A2 n2 c2) (.slice A3 n3 c3) (.slice A4 n4 c4) s1 s2 s3 s4 w.drew :=
  ⟨z1, z2, z3, z4, conv_any _ Any _ _ _ _ h1.parts.2.2.2.drew h1.parts.2.2.1, conv_any _ Any _ _ _ _ h2.parts.2.2.2.drew h2.parts.2.2.1, conv_any _ Any _ _ _ _ h3.parts.2.2.2.drew h3.parts.2.2.1, conv_any _ Any _ _ _ _ h4.parts.2.2.2.drew h4.parts.2.2.1⟩
set_option maxRecDepth 100000 in
set_option maxHeartbeats 8000000 in
theorem sameEntries_any (A B : Option Addr) (n m c d : Nat) (l r : List Ent) (w : World) (h : Ents w Any A n l) (k : Ents w Any B m r) (hn : n ≤ 1152921504) (hm : m ≤ 1152921504) :
    Calls Try.prog 14 #[.slice A n c, .slice B m d] w fun e w' => e = .returned (.bool (decide (l = r))) ∧ Below w.heap.size w w' := by
  have HH := Lib.hid h
  have HK := Lib.hid k
  have H1 := Lib.hid h.len
  have H2 := Lib.hid k.len
  clear h k
  by_cases hnm : n = m
  · subst hnm
    go_enter Try.func14, Try.ntmps14
    go_wp2
    go_loopg [5] n (fun g' iv wz => ∃ (i : Nat), g' = n - i ∧ i ≤ n ∧ iv = .int .i64 i ∧ l.take i = r.take i ∧ Below w.heap.size w wz)
    case atStart => exact ⟨0, by omega, by omega, rfl, by simp, Below.refl _ _⟩
    case round =>
      obtain ⟨i, hg, hi, rfl, heq, hb⟩ := hrel
      have HG := Lib.hid hg
      have HEQ := Lib.hid heq
      have HB := Lib.hid hb
      clear hg heq hb
      by_cases hlt : i < n
      · obtain ⟨b, o, A1, n1, c1, A2, n2, c2, k1, v1, rfl, hl, z1, z2, s1, s2⟩ := rd_text (HH.out.below HB.out) hlt
        obtain ⟨b', o', A3, n3, c3, A4, n4, c4, k2, v2, rfl, hr, z3, z4, s3, s4⟩ := rd_text (HK.out.below HB.out) hlt
        have HL := Lib.hid hl
        have HR := Lib.hid hr
        have HT := Lib.hid (TwoAt.of z1 z2 z3 z4 s1 s2 s3 s4)
        have hnn : n ≤ 1152921504606 := by omega
        clear hl hr z1 z2 z3 z4 s1 s2 s3 s4
        go_upto_region 6 with fail
        by_cases hk : k1 = k2
        · refine sa_val b o b' o' n c d i n1 c1 n2 c2 n3 c3 n4 c4 A1 A2 A3 A4 k1 v1 k2 v2 wr _ (by exact Lib.hid (fun _ _ _ _ h => h)) hlt hnn (by rw [sOf_eq]; simpa using hk) HT.out ?_
          intro v17 v18 v19 v20 v21 v22 v23 v24 v25 v26 v27 v28 v29 v30 v31 v32 v33 v34 v35 v36 v37 v38 v39 v40 v41 v42 v43 rb w1 hrb hc1
          have HB1 := Lib.hid (HB.out.trans (hc1.below.mono HB.out.size))
          rw [sOf_eq] at hrb
          clear hc1
          by_cases hv : v1 = v2
          · have hr2 : rb = false := by rw [hrb]; simp [hv]
            subst hr2
            clear hrb
            have HKV : Hid (k1 = k2 ∧ v1 = v2) := Lib.hid ⟨hk, hv⟩
            clear hk hv
            go_wp2
            go_roundg (n - (i + 1))
            case measure => have := HG.out; omega
            case rel => exact ⟨i + 1, rfl, by omega, by go_num, by rw [List.take_add_one, List.take_add_one, HL.out, HR.out, HEQ.out, HKV.out.1, HKV.out.2], HB1.out⟩
          · have hr2 : rb = true := by rw [hrb]; simp [hv]
            subst hr2
            clear hrb
            go_wp2
            go_ret
            refine ⟨ret_bool ⟨fun h => (by simp at h), fun h => ?_⟩, HB1.out⟩
            subst h
            have := HL.out.symm.trans HR.out
            injection this with this; injection this with _ this
            exact (hv this).elim
        · refine sa_key b o b' o' n c d i n1 c1 n2 c2 n3 c3 n4 c4 A1 A2 A3 A4 k1 v1 k2 v2 wr _ (by exact Lib.hid (fun _ _ _ _ h => h)) hlt hnn (by rw [sOf_eq]; simpa using hk) HT.out ?_
          intro v17 v18 v19 v20 v21 v22 v23 v24 v25 v26 v27 v28 v29 v30 v31 v32 v33 v34 v35 v36 v37 v38 v39 v40 v41 v42 v43 rb w1 hrb hc1
          have HB1 := Lib.hid (HB.out.trans (hc1.below.mono HB.out.size))
          subst hrb
          clear hc1
          go_wp2
          go_ret
          refine ⟨ret_bool ⟨fun h => (by simp at h), fun h => ?_⟩, HB1.out⟩
          subst h
          have := HL.out.symm.trans HR.out
          injection this with this; injection this with this _
          exact (hk this).elim
      · have hin : i = n := by omega
        subst hin
        go_wp2
        go_ret
        refine ⟨ret_bool ⟨fun _ => ?_, fun _ => rfl⟩, HB.out⟩
        have h1 := HEQ.out
        rwa [List.take_of_length_le (by have := H1.out; omega), List.take_of_length_le (by have := H2.out; omega)] at h1
  · have hne : ((n : Int) == (m : Int)) = false := by rw [beq_eq_false_iff_ne]; omega
    have HNE := Lib.hid hnm
    clear hnm
    go_enter Try.func14, Try.ntmps14
    go_wp2
    go_ret
    refine ⟨ret_bool ⟨fun h => (by simp at h), fun h => ?_⟩, Below.refl _ _⟩
    subst h
    exact (HNE.out (by have := H1.out; have := H2.out; omega)).elim
end Go.Proofs.Ytpbnngfiinihmaa

namespace Go.Proofs.Ytpbnngfiinihmaa
open Go.RowKit
noncomputable def insInC : Code := codeOr (Try.f56.body.bind (blockIn 2))
set_option maxRecDepth 100000 in
set_option maxHeartbeats 4000000 in
theorem ins_in (g o n c a i : Nat) (pl : Addr) (κ : Int → Int) (V : Int → Prop) (ys : Nat → Int) (w : World) {u2 u4 u5 u6 u7 u8 u10 u11 u12 u13 u14 u15 u16 u17 u18 u19 u20 u21 u22 u23 u24 u25 u26 u27 u28 u29 u30 u31 u32 u33 u34 u35 u36 u37 u38 u39 u40 u41 u42 u43 u44 u45 u46 u47 u48 u49 u50 u51 u52 : Value} (Q : Exit → Act → World → Prop) (HQP : Hid (∀ c t (a : Act) w, Q (.panic c) ⟨t, a.defers⟩ w → Q (.panic c) a w))
    (hi : i < n) (hai : a ≤ i) (hn : n ≤ 1152921504606) (HC : Hid (Cmp w g pl κ V)) (HR : Hid (RowI w g o n ys)) (HV : Hid (Vs V n ys)) (HS : Hid (Srt κ a i ys)) (HX : Hid (∀ t, a ≤ t → t < i → ys t < ys i))
    (hexit : ∀ (v18 v19 v20 v21 v22 v23 v24 v25 v26 v27 v28 v29 v30 v31 v32 v33 v34 v35 v36 v37 v38 v39 v40 v41 v42 v43 v44 v45 v46 v47 v48 v49 v50 v51 v52 : Value) (j : Nat) (zs : Nat → Int) (w' : World), RowI w' g o n zs → Mrgd κ a (i + 1) ys zs → Chg (One g) w w' → Q (.exit 2) ⟨(.slice (some ⟨g, o, none⟩) n c :: .int .i64 a :: u2 :: .func (.func 18) #[] #[.pointer (some pl)] :: u4 :: u5 :: u6 :: u7 :: u8 :: .int .i64 j :: u10 :: u11 :: u12 :: u13 :: u14 :: u15 :: u16 :: u17 :: v18 :: v19 :: v20 :: v21 :: v22 :: v23 :: v24 :: v25 :: v26 :: v27 :: v28 :: v29 :: v30 :: v31 :: v32 :: v33 :: v34 :: v35 :: v36 :: v37 :: v38 :: v39 :: v40 :: v41 :: v42 :: v43 :: v44 :: v45 :: v46 :: v47 :: v48 :: v49 :: v50 :: v51 :: v52 :: []).toArray, []⟩ w') :
    Code.wp Try.prog insInC Q ⟨(.slice (some ⟨g, o, none⟩) n c :: .int .i64 a :: u2 :: .func (.func 18) #[] #[.pointer (some pl)] :: u4 :: u5 :: u6 :: u7 :: u8 :: .int .i64 i :: u10 :: u11 :: u12 :: u13 :: u14 :: u15 :: u16 :: u17 :: u18 :: u19 :: u20 :: u21 :: u22 :: u23 :: u24 :: u25 :: u26 :: u27 :: u28 :: u29 :: u30 :: u31 :: u32 :: u33 :: u34 :: u35 :: u36 :: u37 :: u38 :: u39 :: u40 :: u41 :: u42 :: u43 :: u44 :: u45 :: u46 :: u47 :: u48 :: u49 :: u50 :: u51 :: u52 :: []).toArray, []⟩ w := by
  have HEX := Lib.hid hexit
  clear hexit
  have HM : Hid (Mrg κ a i (i + 1) ys) := Lib.hid ⟨hai, by omega, HS.out, Srt.one (by omega), fun s t h1 h2 h3 h4 => by rw [show t = i by omega]; exact HX.out s h1 h2⟩
  conv => arg 2; whnf
  go_loopg [9] i (fun g' jv wz => ∃ (j : Nat) (zs : Nat → Int), g' = j ∧ a ≤ j ∧ j ≤ i ∧ jv = .int .i64 j ∧ RowI wz g o n zs ∧ Rot j i (i + 1) ys zs ∧ (j < i → LL κ (ys i) (ys j)) ∧ Chg (One g) w wz)
  case atStart => exact ⟨i, ys, rfl, hai, Nat.le_refl _, rfl, HR.out, Rot.id' _ _ _, fun h => absurd h (by omega), Chg.refl _ _⟩
  case round =>
    obtain ⟨j, zs, hg, h1, h2, rfl, hr, hrot, hll, hc⟩ := hrel
    have HG := Lib.hid hg
    have HR := Lib.hid hr
    have HROT := Lib.hid hrot
    have HLL := Lib.hid hll
    have HCH := Lib.hid hc
    have HVZ : Hid (Vs V n zs) := Lib.hid (HV.out.same (hrot.same h2 (by omega)) hrot.2.2 (by omega))
    have HCC : Hid (Cmp wr g pl κ V) := Lib.hid (HC.out.next hc)
    clear hg hr hrot hll hc
    by_cases hlt : a < j
    · go_upto_region 4 with fail
      refine cmI_piece g o n c pl κ V zs a j wr _ (by exact Lib.hid (fun c t a w h => HQP.out c t a w h)) (by omega) (by omega) hn hlt HCC HR.out HVZ.out ?_
      intro v18 v19 v20 v21 v22 v23 v24 v25 v26 v27 v28 v29 v30 v31 v32 v33 rb w1 hrb hc1
      have HRB := Lib.hid hrb
      have HC1 := Lib.hid hc1
      have HR1 := Lib.hid (HR.out.chg hc1 (fun h => h))
      clear hrb hc1
      have e0 : zs j = ys i := by have := HROT.out.1 0 (by omega); rwa [Nat.add_zero, Nat.add_zero] at this
      have e1 : zs (j - 1) = ys (j - 1) := HROT.out.2.2 _ (by omega)
      have hx := HX.out (j - 1) (by omega) (by omega)
      have E0 := Lib.hid e0
      have E1 := Lib.hid e1
      clear e0 e1
      cases rb with
      | false =>
        have hno : ¬ κ (ys i) < κ (ys (j - 1)) := by have := HRB.out; rw [E0.out, E1.out] at this; intro h; exact absurd (this.2 h) (by decide)
        have hll := (LL.key' (κ := κ) hx).2 hno
        clear hno hx
        go_wp2
        exact HEX.out _ _ _ _ _ _ _ _ _ _ _ _ _ _ _ _ _ _ _ _ _ _ _ _ _ _ _ _ _ _ _ _ _ _ _ j zs w1 HR1.out (merge_right1 HM.out rfl h1 h2 (fun _ => hll) (fun h => HLL.out h) HROT.out) (HCH.out.trans HC1.out (fun _ _ h => absurd h (fun h => h)))
      | true =>
        have hyes : κ (ys i) < κ (ys (j - 1)) := by have := HRB.out; rw [E0.out, E1.out] at this; exact this.1 rfl
        have HL := Lib.hid ((LL.key (κ := κ) hx).2 hyes)
        have hw1 := IntWalk.i64_in ((j : Int) - 1) (by omega)
        have hw2 : (j : Int) - 1 = ((j - 1 : Nat) : Int) := by omega
        clear hyes hx
        go_upto_region 6 with fail
        refine swI_piece g o n c _ _ j w1 _ (by exact Lib.hid (fun c t a w h => HQP.out c t a w h)) (by omega) (by omega) hn (by omega) (HR1.out _ (by omega)).1 (HR1.out _ (by omega)).1 (HR1.out _ (by omega)).2 (HR1.out _ (by omega)).2 ?_
        intro v37 v38 v39 v40 v41 v42 v43 v44 v45 v46 v47 v48 v49 v50 v51 v52
        obtain ⟨w2, hw2'⟩ : ∃ w2, w2 = ((w1.drew.setCell ⟨g, o + j, none⟩ (.int .i64 (zs (j - 1)))).setCell ⟨g, o + (j - 1), none⟩ (.int .i64 (zs j))) := ⟨_, rfl⟩
        rw [← hw2']
        have HW2 := Lib.hid hw2'
        clear hw2'
        go_wp2
        go_roundg (j - 1)
        case measure => have := HG.out; omega
        case rel => exact ⟨j - 1, sw2 j (j - 1) zs, rfl, by omega, by omega, by go_num, by rw [HW2.out]; exact HR1.out.drew.swap (by omega) (by omega), rot_down (by omega) h2 HROT.out, fun _ => HL.out, by rw [HW2.out]; exact (HCH.out.trans HC1.out (fun _ _ h => absurd h (fun h => h))).trans (((Chg.refl (One g) _).drew.setCell (p := ⟨g, _, none⟩) (fun _ => rfl) _).setCell (p := ⟨g, _, none⟩) (fun _ => rfl) _) (fun _ _ h => h)⟩
    · obtain rfl : j = a := by omega
      go_upto_region 4 with fail
      refine cmI_skip g o n c j j pl wr _ (by exact Lib.hid (fun c t a w h => HQP.out c t a w h)) (Nat.le_refl _) ?_
      intro v18 v19 v20 v21 v22 v23 v24 v25 v26 v27 v28 v29 v30 v31 v32 v33 w1 hc1
      have HC1 := Lib.hid hc1
      have HR1 := Lib.hid (HR.out.chg hc1 (fun h => h))
      clear hc1
      go_wp2
      exact HEX.out _ _ _ _ _ _ _ _ _ _ _ _ _ _ _ _ _ _ _ _ _ _ _ _ _ _ _ _ _ _ _ _ _ _ _ j zs w1 HR1.out (merge_right1 HM.out rfl (Nat.le_refl _) h2 (fun h => absurd h (by omega)) (fun h => HLL.out h) HROT.out) (HCH.out.trans HC1.out (fun _ _ h => absurd h (fun h => h)))
theorem Mrgd.step {κ : Int → Int} {a i : Nat} {xs ys zs : Nat → Int} (h : Mrgd κ a i xs ys) (k : Mrgd κ a (i + 1) ys zs) (hai : a ≤ i) : Mrgd κ a (i + 1) xs zs :=
  ⟨k.srt, (SameS.join (m := i) hai (by omega) h.same (SameS.of_eq fun t h1 _ => h.out t (by omega))).trans k.same, (h.out.mono (Nat.le_refl _) (by omega)).trans k.out⟩
set_option maxRecDepth 100000 in
set_option maxHeartbeats 4000000 in
theorem insertion_any (g o n c a b : Nat) (pl : Addr) (κ : Int → Int) (V : Int → Prop) (xs : Nat → Int) (w : World) (hn : n ≤ 1152921504606) (hab : a ≤ b) (hb : b ≤ n) (HC : Cmp w g pl κ V) (HR : RowI w g o n xs) (HV : Vs V n xs) (hup : ∀ i j, a ≤ i → i < j → j < b → xs i < xs j) :
    Calls Try.prog 56 #[.slice (some ⟨g, o, none⟩) n c, .int .i64 a, .int .i64 b, .func (.func 18) #[] #[.pointer (some pl)]] w fun r w' => r = .returned (.tuple #[]) ∧ (∃ ys, RowI w' g o n ys ∧ Mrgd κ a b xs ys) ∧ Chg (One g) w w' := by
  have HC0 := Lib.hid HC
  have HR0 := Lib.hid HR
  have HV0 := Lib.hid HV
  have HUP := Lib.hid hup
  have hw1 := IntWalk.i64_in ((a : Int) + 1) (by omega)
  clear HC HR HV hup
  go_enter Try.func56, Try.ntmps56
  go_wp2
  go_loopg [8] (n - a) (fun g' iv wz => ∃ (i : Nat) (ys : Nat → Int), g' = n + 1 - i ∧ a + 1 ≤ i ∧ i ≤ n + 1 ∧ iv = .int .i64 i ∧ RowI wz g o n ys ∧ Mrgd κ a (min i b) xs ys ∧ Chg (One g) w wz)
  case atStart => exact ⟨a + 1, xs, by omega, Nat.le_refl _, by omega, by go_num, HR0.out, Mrgd.id (Srt.one (by omega)), Chg.refl _ _⟩
  case round =>
    obtain ⟨i, ys, hg, h1, h2, rfl, hr, hm, hc⟩ := hrel
    have HG := Lib.hid hg
    have HR := Lib.hid hr
    have HM := Lib.hid hm
    have HCH := Lib.hid hc
    clear hg hr hm hc
    by_cases hlt : i < b
    · have hlt' : (i : Int) < (b : Int) := by omega
      have hmin : min i b = i := by omega
      have HM' : Hid (Mrgd κ a i xs ys) := Lib.hid (by have := HM.out; rwa [hmin] at this)
      have HVY : Hid (Vs V n ys) := Lib.hid (HV0.out.same HM'.out.same HM'.out.out (by omega))
      have HX : Hid (∀ t, a ≤ t → t < i → ys t < ys i) := Lib.hid (fun t h1 h2 => by
        obtain ⟨u, u1, u2, u3⟩ := (HM'.out.same (ys t)).2 ⟨t, h1, h2, rfl⟩
        rw [← u3, HM'.out.out i (by omega)]; exact HUP.out u i u1 u2 hlt)
      clear hmin
      go_upto_region 4 with fail
      refine ins_in g o n c a i pl κ V ys wr _ (by exact Lib.hid (fun _ _ _ _ h => h)) (by omega) (by omega) hn (Lib.hid (HC0.out.next HCH.out)) HR HVY (Lib.hid HM'.out.srt) HX ?_
      intro v18 v19 v20 v21 v22 v23 v24 v25 v26 v27 v28 v29 v30 v31 v32 v33 v34 v35 v36 v37 v38 v39 v40 v41 v42 v43 v44 v45 v46 v47 v48 v49 v50 v51 v52 j zs w1 hr1 hm1 hc1
      have HR1 := Lib.hid hr1
      have HM1 := Lib.hid hm1
      have HC1 := Lib.hid (HCH.out.trans hc1 (fun _ _ h => h))
      clear hr1 hm1 hc1
      go_wp2
      go_roundg (n + 1 - (i + 1))
      case measure => have := HG.out; omega
      case rel => exact ⟨i + 1, zs, rfl, by omega, by omega, by go_num, HR1.out, by rw [show min (i + 1) b = i + 1 by omega]; exact HM'.out.step HM1.out (by omega), HC1.out⟩
    · have hmin : min i b = b := by omega
      have HM' : Hid (Mrgd κ a b xs ys) := Lib.hid (by have := HM.out; rwa [hmin] at this)
      clear hmin
      go_wp2
      go_end0
      exact ⟨rfl, ⟨ys, HR.out, HM'.out⟩, HCH.out⟩
end Go.Proofs.Ytpbnngfiinihmaa
