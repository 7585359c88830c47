/- WALKS: coppiceref20.point, whole. WALKS: order.stands, its closure; slices.IndexFunc, ContainsFunc over calls. WALKS: order.stands, whole. A table (order.table): a map from texts to slices of bytes that lie elsewhere; it reads as a rising list of entries. -/
import Derived.Test.YtpbnngfiinihmaaOb08
import Derived.Test.YtpbnngfiinihmaaOb07
import Derived.Test.YtpbnngfiinihmaaOb06
import Derived.Maps.OwnSet
import Derived.Maps.RangeWalk
import Derived.StringKeys
import Derived.WalkKit
set_option linter.unusedVariables false
set_option linter.unusedSimpArgs false
namespace Go.Proofs.Ytpbnngfiinihmaa
open Go.RowKit
theorem pointE_no {l : List CallD} {i k : Nat} {c x : CallD} (hx : l[k]? = some x) (hk : k < i) (h : clashE c x) : ¬ pointE l i c := fun hp => hp.2 x (List.mem_iff_getElem?.2 ⟨k, by rw [List.getElem?_take, if_pos hk]; exact hx⟩) h
theorem moment_no2 {c : CallD} {one : Bool} (h1 : one = true ↔ (c.kd = 1 ∨ c.kd = 2 ∨ c.kd = 3)) (h2 : true = true ↔ ((c.fst < 0 ∨ (c.dn = true ∧ c.lst < c.fst)) ∨ (one = false ∧ c.pt ≠ -1))) : ¬ momentE c := by
  intro hm
  have h2 := h2.1 rfl
  unfold momentE at hm
  rcases h2 with h2 | ⟨h2, h3⟩
  · exact hm.1 h2
  · have : ¬ (c.kd = 1 ∨ c.kd = 2 ∨ c.kd = 3) := fun h => by rw [h1.2 h] at h2; cases h2
    rw [if_neg this] at hm
    exact h3 hm.2
theorem moment_no3 {c : CallD} {one : Bool} (h1 : one = true ↔ (c.kd = 1 ∨ c.kd = 2 ∨ c.kd = 3)) (h3 : true = true ↔ ((one = true ∧ c.dn = true ∧ (c.pt < c.fst ∨ c.lst < c.pt)) ∨ (one = true ∧ c.dn = false ∧ c.pt ≠ -1 ∧ c.pt < c.fst))) : ¬ momentE c := by
  intro hm
  have h3 := h3.1 rfl
  unfold momentE at hm
  rcases h3 with ⟨ho, hd, h⟩ | ⟨ho, hd, h⟩
  · rw [if_pos (h1.1 ho), if_pos hd] at hm; omega
  · rw [if_pos (h1.1 ho), if_neg (by rw [hd]; simp)] at hm; omega
theorem moment_yes {c : CallD} {one : Bool} (h1 : one = true ↔ (c.kd = 1 ∨ c.kd = 2 ∨ c.kd = 3)) (h2 : false = true ↔ ((c.fst < 0 ∨ (c.dn = true ∧ c.lst < c.fst)) ∨ (one = false ∧ c.pt ≠ -1)))
    (h3 : false = true ↔ ((one = true ∧ c.dn = true ∧ (c.pt < c.fst ∨ c.lst < c.pt)) ∨ (one = true ∧ c.dn = false ∧ c.pt ≠ -1 ∧ c.pt < c.fst))) : momentE c := by
  have n2 : ¬ _ := fun h => by have := h2.2 h; cases this
  have n3 : ¬ _ := fun h => by have := h3.2 h; cases this
  unfold momentE
  refine ⟨fun h => n2 (.inl h), ?_⟩
  by_cases ho : one = true
  · rw [if_pos (h1.1 ho)]
    by_cases hd : c.dn = true
    · rw [if_pos hd]
      have : ¬ (c.pt < c.fst ∨ c.lst < c.pt) := fun h => n3 (.inl ⟨ho, hd, h⟩)
      omega
    · rw [if_neg hd]
      have : ¬ (c.pt ≠ -1 ∧ c.pt < c.fst) := fun h => n3 (.inr ⟨ho, by simpa using hd, h⟩)
      omega
  · rw [if_neg (fun h => ho (h1.2 h))]
    have : ¬ c.pt ≠ -1 := fun h => n2 (.inr ⟨by simpa using ho, h⟩)
    omega
noncomputable def pt1C : Code := codeOr (Try.f28.body.bind (regionAt 2))
set_option maxRecDepth 100000 in
set_option maxHeartbeats 8000000 in
theorem pt1_cond (q : Nat)  (c : CallD) (z : CallX) (w : World) {u0 u1 u2 u3 u4 u6 u7 u8 u9 u10 u11 u12 u13 u14 u15 u16 u17 u18 u19 u20 u21 u22 u23 u24 u25 u26 u27 u28 u29 u30 u31 u32 u33 u34 u35 u36 u37 u38 u39 u40 u41 u42 u43 u44 u45 u46 u47 u48 u49 u50 u51 u52 u53 u54 u55 u56 u57 u58 u59 u60 u61 u62 u63 u64 u65 u66 u67 u68 u69 u70 u71 u72 u73 u74 u75 u76 u77 u78 u79 u80 u81 u82 u83 u84 u85 u86 u87 u88 u89 u90 u91 u92 u93 u94 u95 u96 u97 u98 u99 u100 u101 u102 u103 u104 u105 u106 u107 u108 u109 u110 u111 u112 u113 u114 u115 u116 u117 u118 u119 u120 u121 u122 u123 u124 u125 u126 u127 u128 u129 u130 u131 u132 u133 u134 u135 : Value} (Q : Exit → Act → World → Prop) (HK : Hid (Blk w q 48 (callCs c z)))
    (hexit : ∀ (v12 v13 v14 v15 v16 v17 v18 v19 v20 v21 v22 v23 v24 v25 v26 v27 : Value) (rb : Bool), (rb = true ↔ (c.kd = 1 ∨ c.kd = 2 ∨ c.kd = 3)) → Q .normal ⟨(u0 :: u1 :: u2 :: u3 :: u4 :: .pointer (some ⟨q, 0, none⟩) :: .bool rb :: u7 :: u8 :: u9 :: u10 :: u11 :: v12 :: v13 :: v14 :: v15 :: v16 :: v17 :: v18 :: v19 :: v20 :: v21 :: v22 :: v23 :: v24 :: v25 :: v26 :: v27 :: u28 :: u29 :: u30 :: u31 :: u32 :: u33 :: u34 :: u35 :: u36 :: u37 :: u38 :: u39 :: u40 :: u41 :: u42 :: u43 :: u44 :: u45 :: u46 :: u47 :: u48 :: u49 :: u50 :: u51 :: u52 :: u53 :: u54 :: u55 :: u56 :: u57 :: u58 :: u59 :: u60 :: u61 :: u62 :: u63 :: u64 :: u65 :: u66 :: u67 :: u68 :: u69 :: u70 :: u71 :: u72 :: u73 :: u74 :: u75 :: u76 :: u77 :: u78 :: u79 :: u80 :: u81 :: u82 :: u83 :: u84 :: u85 :: u86 :: u87 :: u88 :: u89 :: u90 :: u91 :: u92 :: u93 :: u94 :: u95 :: u96 :: u97 :: u98 :: u99 :: u100 :: u101 :: u102 :: u103 :: u104 :: u105 :: u106 :: u107 :: u108 :: u109 :: u110 :: u111 :: u112 :: u113 :: u114 :: u115 :: u116 :: u117 :: u118 :: u119 :: u120 :: u121 :: u122 :: u123 :: u124 :: u125 :: u126 :: u127 :: u128 :: u129 :: u130 :: u131 :: u132 :: u133 :: u134 :: u135 :: []).toArray, []⟩ w) :
    Code.wp Try.prog pt1C Q ⟨(u0 :: u1 :: u2 :: u3 :: u4 :: .pointer (some ⟨q, 0, none⟩) :: u6 :: u7 :: u8 :: u9 :: u10 :: u11 :: u12 :: u13 :: u14 :: u15 :: u16 :: u17 :: u18 :: u19 :: u20 :: u21 :: u22 :: u23 :: u24 :: u25 :: u26 :: u27 :: u28 :: u29 :: u30 :: u31 :: u32 :: u33 :: u34 :: u35 :: u36 :: u37 :: u38 :: u39 :: u40 :: u41 :: u42 :: u43 :: u44 :: u45 :: u46 :: u47 :: u48 :: u49 :: u50 :: u51 :: u52 :: u53 :: u54 :: u55 :: u56 :: u57 :: u58 :: u59 :: u60 :: u61 :: u62 :: u63 :: u64 :: u65 :: u66 :: u67 :: u68 :: u69 :: u70 :: u71 :: u72 :: u73 :: u74 :: u75 :: u76 :: u77 :: u78 :: u79 :: u80 :: u81 :: u82 :: u83 :: u84 :: u85 :: u86 :: u87 :: u88 :: u89 :: u90 :: u91 :: u92 :: u93 :: u94 :: u95 :: u96 :: u97 :: u98 :: u99 :: u100 :: u101 :: u102 :: u103 :: u104 :: u105 :: u106 :: u107 :: u108 :: u109 :: u110 :: u111 :: u112 :: u113 :: u114 :: u115 :: u116 :: u117 :: u118 :: u119 :: u120 :: u121 :: u122 :: u123 :: u124 :: u125 :: u126 :: u127 :: u128 :: u129 :: u130 :: u131 :: u132 :: u133 :: u134 :: u135 :: []).toArray, []⟩ w := by
  skip
  all_goals
    have HEX := Lib.hid hexit
    clear hexit
    have z2 : w.cell? ⟨q, 2, none⟩ = some (.int .i64 c.kd) := HK.out.cell 2
    have z9 : w.cell? ⟨q, 9, none⟩ = some (.int .i64 c.fst) := HK.out.cell 9
    have z10 : w.cell? ⟨q, 10, none⟩ = some (.int .i64 c.lst) := HK.out.cell 10
    have z11 : w.cell? ⟨q, 11, none⟩ = some (.int .i64 c.pt) := HK.out.cell 11
    have z12 : w.cell? ⟨q, 12, none⟩ = some (.bool c.dn) := HK.out.cell 12
    conv => arg 2; whnf
    go_wp2
    all_goals (clear z2 z9 z10 z11 z12; refine HEX.out _ _ _ _ _ _ _ _ _ _ _ _ _ _ _ _ _ ?_; clear HEX HK; simp_all <;> omega)
noncomputable def pt2C : Code := codeOr (Try.f28.body.bind (regionAt 3))
set_option maxRecDepth 100000 in
set_option maxHeartbeats 8000000 in
theorem pt2_cond (q : Nat) (one : Bool) (c : CallD) (z : CallX) (w : World) {u0 u1 u2 u3 u4 u7 u8 u9 u10 u11 u12 u13 u14 u15 u16 u17 u18 u19 u20 u21 u22 u23 u24 u25 u26 u27 u28 u29 u30 u31 u32 u33 u34 u35 u36 u37 u38 u39 u40 u41 u42 u43 u44 u45 u46 u47 u48 u49 u50 u51 u52 u53 u54 u55 u56 u57 u58 u59 u60 u61 u62 u63 u64 u65 u66 u67 u68 u69 u70 u71 u72 u73 u74 u75 u76 u77 u78 u79 u80 u81 u82 u83 u84 u85 u86 u87 u88 u89 u90 u91 u92 u93 u94 u95 u96 u97 u98 u99 u100 u101 u102 u103 u104 u105 u106 u107 u108 u109 u110 u111 u112 u113 u114 u115 u116 u117 u118 u119 u120 u121 u122 u123 u124 u125 u126 u127 u128 u129 u130 u131 u132 u133 u134 u135 : Value} (Q : Exit → Act → World → Prop) (HK : Hid (Blk w q 48 (callCs c z)))
    (hexit : ∀ (v28 v29 v30 v31 v32 v33 v34 v35 v36 v37 v38 v39 v40 v41 v42 v43 v44 v45 v46 v47 v48 v49 : Value) (rb : Bool), (rb = true ↔ ((c.fst < 0 ∨ (c.dn = true ∧ c.lst < c.fst)) ∨ (one = false ∧ c.pt ≠ -1))) → Q .normal ⟨(u0 :: u1 :: u2 :: u3 :: u4 :: .pointer (some ⟨q, 0, none⟩) :: .bool one :: u7 :: u8 :: u9 :: u10 :: u11 :: u12 :: u13 :: u14 :: u15 :: u16 :: u17 :: u18 :: u19 :: u20 :: u21 :: u22 :: u23 :: u24 :: u25 :: u26 :: u27 :: v28 :: v29 :: v30 :: v31 :: v32 :: v33 :: v34 :: v35 :: v36 :: v37 :: v38 :: v39 :: v40 :: v41 :: v42 :: v43 :: v44 :: v45 :: v46 :: v47 :: v48 :: v49 :: .bool rb :: u51 :: u52 :: u53 :: u54 :: u55 :: u56 :: u57 :: u58 :: u59 :: u60 :: u61 :: u62 :: u63 :: u64 :: u65 :: u66 :: u67 :: u68 :: u69 :: u70 :: u71 :: u72 :: u73 :: u74 :: u75 :: u76 :: u77 :: u78 :: u79 :: u80 :: u81 :: u82 :: u83 :: u84 :: u85 :: u86 :: u87 :: u88 :: u89 :: u90 :: u91 :: u92 :: u93 :: u94 :: u95 :: u96 :: u97 :: u98 :: u99 :: u100 :: u101 :: u102 :: u103 :: u104 :: u105 :: u106 :: u107 :: u108 :: u109 :: u110 :: u111 :: u112 :: u113 :: u114 :: u115 :: u116 :: u117 :: u118 :: u119 :: u120 :: u121 :: u122 :: u123 :: u124 :: u125 :: u126 :: u127 :: u128 :: u129 :: u130 :: u131 :: u132 :: u133 :: u134 :: u135 :: []).toArray, []⟩ w) :
    Code.wp Try.prog pt2C Q ⟨(u0 :: u1 :: u2 :: u3 :: u4 :: .pointer (some ⟨q, 0, none⟩) :: .bool one :: u7 :: u8 :: u9 :: u10 :: u11 :: u12 :: u13 :: u14 :: u15 :: u16 :: u17 :: u18 :: u19 :: u20 :: u21 :: u22 :: u23 :: u24 :: u25 :: u26 :: u27 :: u28 :: u29 :: u30 :: u31 :: u32 :: u33 :: u34 :: u35 :: u36 :: u37 :: u38 :: u39 :: u40 :: u41 :: u42 :: u43 :: u44 :: u45 :: u46 :: u47 :: u48 :: u49 :: u50 :: u51 :: u52 :: u53 :: u54 :: u55 :: u56 :: u57 :: u58 :: u59 :: u60 :: u61 :: u62 :: u63 :: u64 :: u65 :: u66 :: u67 :: u68 :: u69 :: u70 :: u71 :: u72 :: u73 :: u74 :: u75 :: u76 :: u77 :: u78 :: u79 :: u80 :: u81 :: u82 :: u83 :: u84 :: u85 :: u86 :: u87 :: u88 :: u89 :: u90 :: u91 :: u92 :: u93 :: u94 :: u95 :: u96 :: u97 :: u98 :: u99 :: u100 :: u101 :: u102 :: u103 :: u104 :: u105 :: u106 :: u107 :: u108 :: u109 :: u110 :: u111 :: u112 :: u113 :: u114 :: u115 :: u116 :: u117 :: u118 :: u119 :: u120 :: u121 :: u122 :: u123 :: u124 :: u125 :: u126 :: u127 :: u128 :: u129 :: u130 :: u131 :: u132 :: u133 :: u134 :: u135 :: []).toArray, []⟩ w := by
  cases one
  all_goals
    have HEX := Lib.hid hexit
    clear hexit
    have z2 : w.cell? ⟨q, 2, none⟩ = some (.int .i64 c.kd) := HK.out.cell 2
    have z9 : w.cell? ⟨q, 9, none⟩ = some (.int .i64 c.fst) := HK.out.cell 9
    have z10 : w.cell? ⟨q, 10, none⟩ = some (.int .i64 c.lst) := HK.out.cell 10
    have z11 : w.cell? ⟨q, 11, none⟩ = some (.int .i64 c.pt) := HK.out.cell 11
    have z12 : w.cell? ⟨q, 12, none⟩ = some (.bool c.dn) := HK.out.cell 12
    conv => arg 2; whnf
    go_wp2
    all_goals (clear z2 z9 z10 z11 z12; refine HEX.out _ _ _ _ _ _ _ _ _ _ _ _ _ _ _ _ _ _ _ _ _ _ _ ?_; clear HEX HK; simp_all <;> omega)
noncomputable def pt3C : Code := codeOr (Try.f28.body.bind (regionAt 5))
set_option maxRecDepth 100000 in
set_option maxHeartbeats 8000000 in
theorem pt3_cond (q : Nat) (one : Bool) (c : CallD) (z : CallX) (w : World) {u0 u1 u2 u3 u4 u7 u8 u9 u10 u11 u12 u13 u14 u15 u16 u17 u18 u19 u20 u21 u22 u23 u24 u25 u26 u27 u28 u29 u30 u31 u32 u33 u34 u35 u36 u37 u38 u39 u40 u41 u42 u43 u44 u45 u46 u47 u48 u49 u50 u51 u52 u53 u54 u55 u56 u57 u58 u59 u60 u61 u62 u63 u64 u65 u66 u67 u68 u69 u70 u71 u72 u73 u74 u75 u76 u77 u78 u79 u80 u81 u82 u83 u84 u85 u86 u87 u88 u89 u90 u91 u92 u93 u94 u95 u96 u97 u98 u99 u100 u101 u102 u103 u104 u105 u106 u107 u108 u109 u110 u111 u112 u113 u114 u115 u116 u117 u118 u119 u120 u121 u122 u123 u124 u125 u126 u127 u128 u129 u130 u131 u132 u133 u134 u135 : Value} (Q : Exit → Act → World → Prop) (HK : Hid (Blk w q 48 (callCs c z)))
    (hexit : ∀ (v51 v52 v53 v54 v55 v56 v57 v58 v59 v60 v61 v62 v63 v64 v65 v66 v67 v68 v69 v70 v71 v72 v73 v74 v75 v76 v77 v78 v79 v80 v81 v82 v83 v84 v85 v86 v87 v88 : Value) (rb : Bool), (rb = true ↔ ((one = true ∧ c.dn = true ∧ (c.pt < c.fst ∨ c.lst < c.pt)) ∨ (one = true ∧ c.dn = false ∧ c.pt ≠ -1 ∧ c.pt < c.fst))) → Q .normal ⟨(u0 :: u1 :: u2 :: u3 :: u4 :: .pointer (some ⟨q, 0, none⟩) :: .bool one :: u7 :: u8 :: u9 :: u10 :: u11 :: u12 :: u13 :: u14 :: u15 :: u16 :: u17 :: u18 :: u19 :: u20 :: u21 :: u22 :: u23 :: u24 :: u25 :: u26 :: u27 :: u28 :: u29 :: u30 :: u31 :: u32 :: u33 :: u34 :: u35 :: u36 :: u37 :: u38 :: u39 :: u40 :: u41 :: u42 :: u43 :: u44 :: u45 :: u46 :: u47 :: u48 :: u49 :: u50 :: v51 :: v52 :: v53 :: v54 :: v55 :: v56 :: v57 :: v58 :: v59 :: v60 :: v61 :: v62 :: v63 :: v64 :: v65 :: v66 :: v67 :: v68 :: v69 :: v70 :: v71 :: v72 :: v73 :: v74 :: v75 :: v76 :: v77 :: v78 :: v79 :: v80 :: v81 :: v82 :: v83 :: v84 :: v85 :: v86 :: v87 :: v88 :: .bool rb :: u90 :: u91 :: u92 :: u93 :: u94 :: u95 :: u96 :: u97 :: u98 :: u99 :: u100 :: u101 :: u102 :: u103 :: u104 :: u105 :: u106 :: u107 :: u108 :: u109 :: u110 :: u111 :: u112 :: u113 :: u114 :: u115 :: u116 :: u117 :: u118 :: u119 :: u120 :: u121 :: u122 :: u123 :: u124 :: u125 :: u126 :: u127 :: u128 :: u129 :: u130 :: u131 :: u132 :: u133 :: u134 :: u135 :: []).toArray, []⟩ w) :
    Code.wp Try.prog pt3C Q ⟨(u0 :: u1 :: u2 :: u3 :: u4 :: .pointer (some ⟨q, 0, none⟩) :: .bool one :: u7 :: u8 :: u9 :: u10 :: u11 :: u12 :: u13 :: u14 :: u15 :: u16 :: u17 :: u18 :: u19 :: u20 :: u21 :: u22 :: u23 :: u24 :: u25 :: u26 :: u27 :: u28 :: u29 :: u30 :: u31 :: u32 :: u33 :: u34 :: u35 :: u36 :: u37 :: u38 :: u39 :: u40 :: u41 :: u42 :: u43 :: u44 :: u45 :: u46 :: u47 :: u48 :: u49 :: u50 :: u51 :: u52 :: u53 :: u54 :: u55 :: u56 :: u57 :: u58 :: u59 :: u60 :: u61 :: u62 :: u63 :: u64 :: u65 :: u66 :: u67 :: u68 :: u69 :: u70 :: u71 :: u72 :: u73 :: u74 :: u75 :: u76 :: u77 :: u78 :: u79 :: u80 :: u81 :: u82 :: u83 :: u84 :: u85 :: u86 :: u87 :: u88 :: u89 :: u90 :: u91 :: u92 :: u93 :: u94 :: u95 :: u96 :: u97 :: u98 :: u99 :: u100 :: u101 :: u102 :: u103 :: u104 :: u105 :: u106 :: u107 :: u108 :: u109 :: u110 :: u111 :: u112 :: u113 :: u114 :: u115 :: u116 :: u117 :: u118 :: u119 :: u120 :: u121 :: u122 :: u123 :: u124 :: u125 :: u126 :: u127 :: u128 :: u129 :: u130 :: u131 :: u132 :: u133 :: u134 :: u135 :: []).toArray, []⟩ w := by
  cases one
  all_goals
    have HEX := Lib.hid hexit
    clear hexit
    have z2 : w.cell? ⟨q, 2, none⟩ = some (.int .i64 c.kd) := HK.out.cell 2
    have z9 : w.cell? ⟨q, 9, none⟩ = some (.int .i64 c.fst) := HK.out.cell 9
    have z10 : w.cell? ⟨q, 10, none⟩ = some (.int .i64 c.lst) := HK.out.cell 10
    have z11 : w.cell? ⟨q, 11, none⟩ = some (.int .i64 c.pt) := HK.out.cell 11
    have z12 : w.cell? ⟨q, 12, none⟩ = some (.bool c.dn) := HK.out.cell 12
    conv => arg 2; whnf
    go_wp2
    all_goals (clear z2 z9 z10 z11 z12; refine HEX.out _ _ _ _ _ _ _ _ _ _ _ _ _ _ _ _ _ _ _ _ _ _ _ _ _ _ _ _ _ _ _ _ _ _ _ _ _ _ _ ?_; clear HEX HK; simp_all <;> omega)
set_option maxRecDepth 100000 in
set_option maxHeartbeats 8000000 in
theorem point_any (F : Nat → Prop) (A : Option Addr) (n d i : Nat) (l : List CallD) (c : CallD) (w : World) (hL : CallsM w F A n l) (hn : n ≤ 1048576) (hi : i < n) (hc : l[i]? = some c) :
    Calls Try.prog 28 #[.slice A n d, .int .i64 i] w fun e w' => e = .returned (.bool (decide (pointE l i c))) ∧ Below w.heap.size w w' := by
  have HL := Lib.hid hL.lt
  have HN := Lib.hid hL.len
  clear hL
  obtain ⟨b, o, c', z, rfl, hFb, hlk, hw, hat⟩ := HL.out.at_ hi
  rw [hc] at hlk
  injection hlk with hlk
  subst hlk
  have HAT := Lib.hid hat
  have HC := Lib.hid hc
  have hi' : (i : Int) < (n : Int) := by omega
  clear hw hFb hat hc
  go_enter Try.func28, Try.ntmps28
  go_upto_region 2 with (first | (refine wpList_load_call rfl (.tmp 10) rfl rfl HAT.out ?_) | (refine wpList_store_call _ rfl (.tmp 5) (.tmp 11) rfl rfl rfl rfl ?_))
  obtain ⟨w1, hw1⟩ : ∃ W, W = w.alloc (.cells (callCs c z) 48) := ⟨_, rfl⟩
  rw [← hw1]
  have HB : Hid (Below w.heap.size w w1) := Lib.hid (by rw [hw1]; exact (Below.refl _ _).alloc (Nat.le_refl _) _)
  have HK : Hid (Blk w1 w.heap.size 48 (callCs c z)) := Lib.hid (by rw [hw1]; exact Blk.new _ _ _)
  clear hw1
  refine pt1_cond w.heap.size c z w1 _ HK ?_
  intro v12 v13 v14 v15 v16 v17 v18 v19 v20 v21 v22 v23 v24 v25 v26 v27 one hone
  have HONE := Lib.hid hone
  clear hone
  go_upto_region 3 with fail
  refine pt2_cond w.heap.size one c z w1 _ HK ?_
  intro v28 v29 v30 v31 v32 v33 v34 v35 v36 v37 v38 v39 v40 v41 v42 v43 v44 v45 v46 v47 v48 v49 r2 hr2
  have H2 := Lib.hid hr2
  clear hr2
  cases r2 with
  | true =>
    go_wp2
    go_ret
    refine ⟨ret_bool ?_, HB.out⟩
    exact ⟨fun h => by simp at h, fun h => absurd h.1 (moment_no2 HONE.out (by simpa using H2.out))⟩
  | false =>
    go_upto_region 5 with fail
    refine pt3_cond w.heap.size one c z w1 _ HK ?_
    intro v51 v52 v53 v54 v55 v56 v57 v58 v59 v60 v61 v62 v63 v64 v65 v66 v67 v68 v69 v70 v71 v72 v73 v74 v75 v76 v77 v78 v79 v80 v81 v82 v83 v84 v85 v86 v87 v88 r3 hr3
    have H3 := Lib.hid hr3
    clear hr3
    cases r3 with
    | true =>
      go_wp2
      go_ret
      refine ⟨ret_bool ?_, HB.out⟩
      exact ⟨fun h => by simp at h, fun h => absurd h.1 (moment_no3 HONE.out (by simpa using H3.out))⟩
    | false =>
      have HMO : Hid (momentE c) := Lib.hid (moment_yes HONE.out (by simpa using H2.out) (by simpa using H3.out))
      go_wp2
      go_loopg [7] i (fun g' iv wz => ∃ k : Nat, g' = i - k ∧ k ≤ i ∧ iv = .int .i64 k ∧ (∀ x ∈ l.take k, ¬ clashE c x) ∧ Chg Nil w1 wz)
      case atStart => exact ⟨0, by omega, by omega, rfl, by simp, Chg.refl _ _⟩
      case round =>
        obtain ⟨k, hg, hk, rfl, hno, hc1⟩ := hrel
        have HG := Lib.hid hg
        have HNO := Lib.hid hno
        have HC1 := Lib.hid hc1
        clear hg hno hc1
        by_cases hlt : k < i
        · have hlt' : (k : Int) < (i : Int) := by omega
          have hkn : k < n := by omega
          obtain ⟨b2, o2, x, y, e2, _, hlk2, _, hat2⟩ := (HL.out.below (HB.out.trans (HC1.out.below.mono HB.out.size))).at_ hkn
          injection e2 with e2; injection e2 with e3 e4; subst e3; subst e4
          have HX := Lib.hid hlk2
          have HA2 := Lib.hid hat2
          have hnn : n ≤ 1152921504606 := by omega
          clear hlk2 hat2
          go_upto_region 10 with fail
          refine clash_any F b o n d w.heap.size k c x y z wr _ (by exact Lib.hid (fun _ _ _ _ h => h)) hkn hnn HA2 (Lib.hid (HK.out.below HC1.out.below)) ?_
          intro v95 v96 v97 v98 v99 v100 v101 v102 v103 v104 v105 v106 v107 v108 v109 v110 v111 v112 v113 v114 v115 v116 v117 v118 v119 v120 v121 v122 v123 v124 v125 v126 v127 v128 v129 v130 v131 v132 v133 v134 rb w2 hrb hc2
          have HC2 := Lib.hid (HC1.out.trans hc2 (fun _ _ h => h))
          have HRB := Lib.hid hrb
          clear hrb hc2
          cases rb with
          | true =>
            go_wp2
            go_ret
            refine ⟨ret_bool ?_, HB.out.trans (HC2.out.below.mono HB.out.size)⟩
            exact ⟨fun h => by simp at h, fun h => absurd h (pointE_no HX.out hlt (of_decide_eq_true HRB.out.symm))⟩
          | false =>
            go_wp2
            go_roundg (i - (k + 1))
            case measure => have := HG.out; omega
            case rel =>
              refine ⟨k + 1, rfl, by omega, by go_num, fun x' hx' => ?_, HC2.out⟩
              rw [List.take_add_one, HX.out] at hx'
              rcases List.mem_append.1 hx' with h | h
              · exact HNO.out x' h
              · simp at h
                subst h
                exact of_decide_eq_false HRB.out.symm
        · have hki : k = i := by omega
          subst hki
          go_wp2
          go_ret
          refine ⟨ret_bool ?_, HB.out.trans (HC1.out.below.mono HB.out.size)⟩
          exact ⟨fun _ => ⟨HMO.out, HNO.out⟩, fun _ => by simp⟩
end Go.Proofs.Ytpbnngfiinihmaa

namespace Go.Proofs.Ytpbnngfiinihmaa
open Go.RowKit
set_option maxRecDepth 100000 in
set_option maxHeartbeats 4000000 in
theorem standsC_any (pc : Nat) (c x : CallD) (y z : CallX) (w : World) (h : Blk w pc 48 (callCs c y)) :
    Calls Try.prog 45 #[callV x z, .pointer (some ⟨pc, 0, none⟩)] w fun e w' => e = .returned (.bool (decide (clashE c x))) ∧ Below w.heap.size w w' := by
  have H := Lib.hid h
  clear h
  go_enter Try.func45, Try.ntmps45
  go_upto_region 1 with fail
  obtain ⟨w1, hw1⟩ : ∃ W, W = w.alloc (.cells (callCs x z) 48) := ⟨_, rfl⟩
  rw [← hw1]
  have HB : Hid (Below w.heap.size w w1) := Lib.hid (by rw [hw1]; exact (Below.refl _ _).alloc (Nat.le_refl _) _)
  have HK : Hid (Blk w1 w.heap.size 48 (callCs x z)) := Lib.hid (by rw [hw1]; exact Blk.new _ _ _)
  have HC := Lib.hid (H.out.below HB.out)
  clear hw1
  have x0 : w1.cell? ⟨w.heap.size, 0, none⟩ = some (.int .i64 x.cl) := HK.out.cell 0
  have x10 : w1.cell? ⟨w.heap.size, 10, none⟩ = some (.int .i64 x.lst) := HK.out.cell 10
  have x11 : w1.cell? ⟨w.heap.size, 11, none⟩ = some (.int .i64 x.pt) := HK.out.cell 11
  have x12 : w1.cell? ⟨w.heap.size, 12, none⟩ = some (.bool x.dn) := HK.out.cell 12
  have c0 : w1.cell? ⟨pc, 0, none⟩ = some (.int .i64 c.cl) := HC.out.cell 0
  have c9 : w1.cell? ⟨pc, 9, none⟩ = some (.int .i64 c.fst) := HC.out.cell 9
  have c11 : w1.cell? ⟨pc, 11, none⟩ = some (.int .i64 c.pt) := HC.out.cell 11
  obtain ⟨CE, hce⟩ : ∃ CE, CE = ((0 ≤ c.pt ∧ x.pt = c.pt) ∨ (x.cl = c.cl ∧ (x.dn = false ∨ c.fst < x.lst))) := ⟨_, rfl⟩
  have HCE : Hid (clashE c x ↔ ((0 ≤ c.pt ∧ x.pt = c.pt) ∨ (x.cl = c.cl ∧ (x.dn = false ∨ c.fst < x.lst)))) := Lib.hid Iff.rfl
  clear hce
  go_wp2
  all_goals (go_ret; refine ⟨ret_bool ?_, HB.out⟩; rw [HCE.out]; clear x0 x10 x11 x12 c0 c9 c11 HCE HB HK HC H; first | done | (simp; done) | (simp_all; done) | (simp_all <;> omega))
set_option maxRecDepth 100000 in
set_option maxHeartbeats 4000000 in
theorem indexC_any (A : Option Addr) (n d pc : Nat) (l : List CallD) (c : CallD) (y : CallX) (w : World) (hL : CallsM w Any A n l) (hn : n ≤ 1048576) (h : Blk w pc 48 (callCs c y)) :
    Calls Try.prog 58 #[.slice A n d, .func (.func 45) #[] #[.pointer (some ⟨pc, 0, none⟩)]] w fun e w' => (∃ k : Int, e = .returned (.int .i64 k) ∧ (0 ≤ k ↔ ∃ x ∈ l, clashE c x)) ∧ Below w.heap.size w w' := by
  have HL := Lib.hid hL
  have HN := Lib.hid hL.len
  have H := Lib.hid h
  clear hL h
  go_enter Try.func58, Try.ntmps58
  go_wp2
  go_loopg [8] n (fun g' iv wz => ∃ i : Nat, g' = n - i ∧ i ≤ n ∧ iv = .int .i64 i ∧ (∀ x ∈ l.take i, ¬ clashE c x) ∧ Below w.heap.size w wz)
  case atStart => exact ⟨0, by omega, by omega, rfl, by simp, Below.refl _ _⟩
  case round =>
    obtain ⟨i, hg, hi, rfl, hno, hb⟩ := hrel
    have HG := Lib.hid hg
    have HNO := Lib.hid hno
    have HB := Lib.hid hb
    clear hg hno hb
    by_cases hlt : i < n
    · have hlt' : (i : Int) < (n : Int) := by omega
      obtain ⟨b, o, x, z, rfl, _, hlk, _, hat⟩ := (HL.out.below HB.out).at_ hlt
      have HX := Lib.hid hlk
      have HAT := Lib.hid hat
      have HC := Lib.hid (H.out.below HB.out)
      obtain ⟨rb, hrb⟩ : ∃ rb, rb = decide (clashE c x) := ⟨_, rfl⟩
      have HRB := Lib.hid hrb
      clear hlk hat hrb
      cases rb with
      | true =>
        go_wp2_with (first | (refine wpList_load_call rfl (.tmp 14) rfl rfl HAT.out ?_) | (go_at_call 45; go_loud (refine (standsC_any pc c x y z wr HC.out).mono ?_); rintro e w2 ⟨rfl, hb2⟩; rw [← HRB.out]; have HB2 := Lib.hid (HB.out.trans (hb2.mono HB.out.size)); clear hb2))
        go_ret
        exact ⟨⟨(i : Int), rfl, fun _ => ⟨x, List.mem_of_getElem? HX.out, of_decide_eq_true HRB.out.symm⟩, fun _ => by omega⟩, HB2.out⟩
      | false =>
        go_wp2_with (first | (refine wpList_load_call rfl (.tmp 14) rfl rfl HAT.out ?_) | (go_at_call 45; go_loud (refine (standsC_any pc c x y z wr HC.out).mono ?_); rintro e w2 ⟨rfl, hb2⟩; rw [← HRB.out]; have HB2 := Lib.hid (HB.out.trans (hb2.mono HB.out.size)); clear hb2))
        go_roundg (n - (i + 1))
        case measure => have := HG.out; omega
        case rel =>
          refine ⟨i + 1, rfl, by omega, by go_num, fun x' hx' => ?_, HB2.out⟩
          rw [List.take_add_one, HX.out] at hx'
          rcases List.mem_append.1 hx' with h | h
          · exact HNO.out x' h
          · simp at h
            subst h
            exact of_decide_eq_false HRB.out.symm
    · have hin : i = n := by omega
      subst hin
      go_wp2
      go_ret
      refine ⟨⟨-1, rfl, fun h => (by omega), fun h => ?_⟩, HB.out⟩
      obtain ⟨x, hx, hcl⟩ := h
      exact (HNO.out x (by rw [List.take_of_length_le (by have := HN.out; omega)]; exact hx) hcl).elim
set_option maxRecDepth 100000 in
theorem containsC_any (A : Option Addr) (n d pc : Nat) (l : List CallD) (c : CallD) (y : CallX) (w : World) (hL : CallsM w Any A n l) (hn : n ≤ 1048576) (h : Blk w pc 48 (callCs c y)) :
    Calls Try.prog 44 #[.slice A n d, .func (.func 45) #[] #[.pointer (some ⟨pc, 0, none⟩)]] w fun e w' => (∃ rb : Bool, e = .returned (.bool rb) ∧ (rb = true ↔ ∃ x ∈ l, clashE c x)) ∧ Below w.heap.size w w' := by
  have HH := Lib.hid (indexC_any A n d pc l c y w hL hn h)
  clear hL h
  go_enter Try.func44, Try.ntmps44
  go_wp2_with (go_at_call 58; go_loud (refine HH.out.mono ?_); rintro e w2 ⟨⟨k, rfl, hk⟩, hb2⟩; have HK := Lib.hid hk; have HB := Lib.hid hb2; clear hk hb2)
  go_ret
  exact ⟨⟨_, rfl, by rw [← HK.out]; simp⟩, HB.out⟩
noncomputable def st1C : Code := codeOr (Try.f20.body.bind (regionAt 2))
set_option maxRecDepth 100000 in
set_option maxHeartbeats 8000000 in
theorem st1_cond (q : Nat)  (c : CallD) (z : CallX) (w : World) {u0 u1 u2 u3 u4 u6 u7 u8 u9 u10 u11 u12 u13 u14 u15 u16 u17 u18 u19 u20 u21 u22 u23 u24 u25 u26 u27 u28 u29 u30 u31 u32 u33 u34 u35 u36 u37 u38 u39 u40 u41 u42 u43 u44 u45 u46 u47 u48 u49 u50 u51 u52 u53 u54 u55 u56 u57 u58 u59 u60 u61 u62 u63 u64 u65 u66 u67 u68 u69 : Value} (Q : Exit → Act → World → Prop) (HK : Hid (Blk w q 48 (callCs c z)))
    (hexit : ∀ (v11 v12 v13 v14 v15 v16 v17 v18 v19 v20 v21 v22 v23 v24 v25 v26 v27 : Value) (rb : Bool), (rb = true ↔ (c.fst ≤ c.pt ∧ (c.dn = false ∨ c.pt ≤ c.lst))) → Q .normal ⟨(u0 :: u1 :: u2 :: u3 :: u4 :: .pointer (some ⟨q, 0, none⟩) :: .bool rb :: u7 :: u8 :: u9 :: u10 :: v11 :: v12 :: v13 :: v14 :: v15 :: v16 :: v17 :: v18 :: v19 :: v20 :: v21 :: v22 :: v23 :: v24 :: v25 :: v26 :: v27 :: u28 :: u29 :: u30 :: u31 :: u32 :: u33 :: u34 :: u35 :: u36 :: u37 :: u38 :: u39 :: u40 :: u41 :: u42 :: u43 :: u44 :: u45 :: u46 :: u47 :: u48 :: u49 :: u50 :: u51 :: u52 :: u53 :: u54 :: u55 :: u56 :: u57 :: u58 :: u59 :: u60 :: u61 :: u62 :: u63 :: u64 :: u65 :: u66 :: u67 :: u68 :: u69 :: []).toArray, []⟩ w) :
    Code.wp Try.prog st1C Q ⟨(u0 :: u1 :: u2 :: u3 :: u4 :: .pointer (some ⟨q, 0, none⟩) :: u6 :: u7 :: u8 :: u9 :: u10 :: u11 :: u12 :: u13 :: u14 :: u15 :: u16 :: u17 :: u18 :: u19 :: u20 :: u21 :: u22 :: u23 :: u24 :: u25 :: u26 :: u27 :: u28 :: u29 :: u30 :: u31 :: u32 :: u33 :: u34 :: u35 :: u36 :: u37 :: u38 :: u39 :: u40 :: u41 :: u42 :: u43 :: u44 :: u45 :: u46 :: u47 :: u48 :: u49 :: u50 :: u51 :: u52 :: u53 :: u54 :: u55 :: u56 :: u57 :: u58 :: u59 :: u60 :: u61 :: u62 :: u63 :: u64 :: u65 :: u66 :: u67 :: u68 :: u69 :: []).toArray, []⟩ w := by
  skip
  all_goals
    have HEX := Lib.hid hexit
    clear hexit
    have z2 : w.cell? ⟨q, 2, none⟩ = some (.int .i64 c.kd) := HK.out.cell 2
    have z9 : w.cell? ⟨q, 9, none⟩ = some (.int .i64 c.fst) := HK.out.cell 9
    have z10 : w.cell? ⟨q, 10, none⟩ = some (.int .i64 c.lst) := HK.out.cell 10
    have z11 : w.cell? ⟨q, 11, none⟩ = some (.int .i64 c.pt) := HK.out.cell 11
    have z12 : w.cell? ⟨q, 12, none⟩ = some (.bool c.dn) := HK.out.cell 12
    conv => arg 2; whnf
    go_wp2
    all_goals (clear z2 z9 z10 z11 z12; refine HEX.out _ _ _ _ _ _ _ _ _ _ _ _ _ _ _ _ _ _ ?_; clear HEX HK; simp_all <;> omega)
noncomputable def st2C : Code := codeOr (Try.f20.body.bind (regionAt 3))
set_option maxRecDepth 100000 in
set_option maxHeartbeats 8000000 in
theorem st2_cond (q : Nat)  (c : CallD) (z : CallX) (w : World) {u0 u1 u2 u3 u4 u6 u7 u8 u9 u10 u11 u12 u13 u14 u15 u16 u17 u18 u19 u20 u21 u22 u23 u24 u25 u26 u27 u28 u29 u30 u31 u32 u33 u34 u35 u36 u37 u38 u39 u40 u41 u42 u43 u44 u45 u46 u47 u48 u49 u50 u51 u52 u53 u54 u55 u56 u57 u58 u59 u60 u61 u62 u63 u64 u65 u66 u67 u68 u69 : Value} (Q : Exit → Act → World → Prop) (HK : Hid (Blk w q 48 (callCs c z)))
    (hexit : ∀ (v29 v30 v31 v32 v33 v34 v35 v36 v37 v38 v39 v40 v41 v42 : Value) (rb : Bool), (rb = true ↔ (c.fst < 0 ∨ (c.dn = true ∧ c.lst < c.fst))) → Q .normal ⟨(u0 :: u1 :: u2 :: u3 :: u4 :: .pointer (some ⟨q, 0, none⟩) :: u6 :: u7 :: u8 :: u9 :: u10 :: u11 :: u12 :: u13 :: u14 :: u15 :: u16 :: u17 :: u18 :: u19 :: u20 :: u21 :: u22 :: u23 :: u24 :: u25 :: u26 :: u27 :: .bool rb :: v29 :: v30 :: v31 :: v32 :: v33 :: v34 :: v35 :: v36 :: v37 :: v38 :: v39 :: v40 :: v41 :: v42 :: u43 :: u44 :: u45 :: u46 :: u47 :: u48 :: u49 :: u50 :: u51 :: u52 :: u53 :: u54 :: u55 :: u56 :: u57 :: u58 :: u59 :: u60 :: u61 :: u62 :: u63 :: u64 :: u65 :: u66 :: u67 :: u68 :: u69 :: []).toArray, []⟩ w) :
    Code.wp Try.prog st2C Q ⟨(u0 :: u1 :: u2 :: u3 :: u4 :: .pointer (some ⟨q, 0, none⟩) :: u6 :: u7 :: u8 :: u9 :: u10 :: u11 :: u12 :: u13 :: u14 :: u15 :: u16 :: u17 :: u18 :: u19 :: u20 :: u21 :: u22 :: u23 :: u24 :: u25 :: u26 :: u27 :: u28 :: u29 :: u30 :: u31 :: u32 :: u33 :: u34 :: u35 :: u36 :: u37 :: u38 :: u39 :: u40 :: u41 :: u42 :: u43 :: u44 :: u45 :: u46 :: u47 :: u48 :: u49 :: u50 :: u51 :: u52 :: u53 :: u54 :: u55 :: u56 :: u57 :: u58 :: u59 :: u60 :: u61 :: u62 :: u63 :: u64 :: u65 :: u66 :: u67 :: u68 :: u69 :: []).toArray, []⟩ w := by
  skip
  all_goals
    have HEX := Lib.hid hexit
    clear hexit
    have z2 : w.cell? ⟨q, 2, none⟩ = some (.int .i64 c.kd) := HK.out.cell 2
    have z9 : w.cell? ⟨q, 9, none⟩ = some (.int .i64 c.fst) := HK.out.cell 9
    have z10 : w.cell? ⟨q, 10, none⟩ = some (.int .i64 c.lst) := HK.out.cell 10
    have z11 : w.cell? ⟨q, 11, none⟩ = some (.int .i64 c.pt) := HK.out.cell 11
    have z12 : w.cell? ⟨q, 12, none⟩ = some (.bool c.dn) := HK.out.cell 12
    conv => arg 2; whnf
    go_wp2
    all_goals (clear z2 z9 z10 z11 z12; refine HEX.out _ _ _ _ _ _ _ _ _ _ _ _ _ _ _ ?_; clear HEX HK; simp_all <;> omega)
noncomputable def st3C : Code := codeOr (Try.f20.body.bind (regionAt 8))
set_option maxRecDepth 100000 in
set_option maxHeartbeats 8000000 in
theorem st3_cond (q : Nat) (one : Bool) (c : CallD) (z : CallX) (w : World) {u0 u1 u2 u3 u4 u7 u8 u9 u10 u11 u12 u13 u14 u15 u16 u17 u18 u19 u20 u21 u22 u23 u24 u25 u26 u27 u28 u29 u30 u31 u32 u33 u34 u35 u36 u37 u38 u39 u40 u41 u42 u43 u44 u45 u46 u47 u48 u49 u50 u51 u52 u53 u54 u55 u56 u57 u58 u59 u60 u61 u62 u63 u64 u65 u66 u67 u68 u69 : Value} (Q : Exit → Act → World → Prop) (HK : Hid (Blk w q 48 (callCs c z)))
    (hexit : ∀ (v53 v54 v55 v56 v57 v58 v59 v60 v61 v62 v63 : Value) (rb : Bool), (rb = true ↔ (one = false ∧ (c.dn = true ∨ c.pt ≠ -1))) → Q .normal ⟨(u0 :: u1 :: u2 :: u3 :: u4 :: .pointer (some ⟨q, 0, none⟩) :: .bool one :: u7 :: u8 :: u9 :: u10 :: u11 :: u12 :: u13 :: u14 :: u15 :: u16 :: u17 :: u18 :: u19 :: u20 :: u21 :: u22 :: u23 :: u24 :: u25 :: u26 :: u27 :: u28 :: u29 :: u30 :: u31 :: u32 :: u33 :: u34 :: u35 :: u36 :: u37 :: u38 :: u39 :: u40 :: u41 :: u42 :: u43 :: u44 :: u45 :: u46 :: u47 :: u48 :: u49 :: u50 :: u51 :: .bool rb :: v53 :: v54 :: v55 :: v56 :: v57 :: v58 :: v59 :: v60 :: v61 :: v62 :: v63 :: u64 :: u65 :: u66 :: u67 :: u68 :: u69 :: []).toArray, []⟩ w) :
    Code.wp Try.prog st3C Q ⟨(u0 :: u1 :: u2 :: u3 :: u4 :: .pointer (some ⟨q, 0, none⟩) :: .bool one :: u7 :: u8 :: u9 :: u10 :: u11 :: u12 :: u13 :: u14 :: u15 :: u16 :: u17 :: u18 :: u19 :: u20 :: u21 :: u22 :: u23 :: u24 :: u25 :: u26 :: u27 :: u28 :: u29 :: u30 :: u31 :: u32 :: u33 :: u34 :: u35 :: u36 :: u37 :: u38 :: u39 :: u40 :: u41 :: u42 :: u43 :: u44 :: u45 :: u46 :: u47 :: u48 :: u49 :: u50 :: u51 :: u52 :: u53 :: u54 :: u55 :: u56 :: u57 :: u58 :: u59 :: u60 :: u61 :: u62 :: u63 :: u64 :: u65 :: u66 :: u67 :: u68 :: u69 :: []).toArray, []⟩ w := by
  cases one
  all_goals
    have HEX := Lib.hid hexit
    clear hexit
    have z2 : w.cell? ⟨q, 2, none⟩ = some (.int .i64 c.kd) := HK.out.cell 2
    have z9 : w.cell? ⟨q, 9, none⟩ = some (.int .i64 c.fst) := HK.out.cell 9
    have z10 : w.cell? ⟨q, 10, none⟩ = some (.int .i64 c.lst) := HK.out.cell 10
    have z11 : w.cell? ⟨q, 11, none⟩ = some (.int .i64 c.pt) := HK.out.cell 11
    have z12 : w.cell? ⟨q, 12, none⟩ = some (.bool c.dn) := HK.out.cell 12
    conv => arg 2; whnf
    go_wp2
    all_goals (clear z2 z9 z10 z11 z12; refine HEX.out _ _ _ _ _ _ _ _ _ _ _ _ ?_; clear HEX HK; simp_all <;> omega)
end Go.Proofs.Ytpbnngfiinihmaa

namespace Go.Proofs.Ytpbnngfiinihmaa
open Go.RowKit
theorem mom_no2 {c : CallD} (h : true = true ↔ (c.fst < 0 ∨ (c.dn = true ∧ c.lst < c.fst))) : ¬ momentE c := fun hm => hm.1 (h.1 rfl)
theorem mom_other {c : CallD} (h2 : false = true ↔ (c.fst < 0 ∨ (c.dn = true ∧ c.lst < c.fst))) (hs : ¬ (c.kd = 1 ∨ c.kd = 2 ∨ c.kd = 3)) : momentE c ↔ c.pt = -1 := by
  unfold momentE; rw [if_neg hs]
  exact ⟨fun h => h.2, fun h => ⟨fun h => (by have := h2.2 h; cases this), h⟩⟩
theorem mom_single {c : CallD} {one r3 : Bool} (h2 : false = true ↔ (c.fst < 0 ∨ (c.dn = true ∧ c.lst < c.fst))) (hs : c.kd = 1 ∨ c.kd = 2 ∨ c.kd = 3) (h1 : one = true ↔ (c.fst ≤ c.pt ∧ (c.dn = false ∨ c.pt ≤ c.lst)))
    (h3 : r3 = true ↔ (one = false ∧ (c.dn = true ∨ c.pt ≠ -1))) : momentE c ↔ r3 = false := by
  unfold momentE; rw [if_pos hs]
  have n2 : ¬ _ := fun h => by have := h2.2 h; cases this
  have e3 : r3 = false ↔ ¬ (one = false ∧ (c.dn = true ∨ c.pt ≠ -1)) := by rw [← h3]; cases r3 <;> simp
  have e1 : one = false ↔ ¬ (c.fst ≤ c.pt ∧ (c.dn = false ∨ c.pt ≤ c.lst)) := by rw [← h1]; cases one <;> simp
  rw [e3, e1]
  refine ⟨fun h => ?_, fun h => ⟨n2, ?_⟩⟩
  · have h := h.2
    cases hd : c.dn
    · rw [hd] at h; simp at h; simp; omega
    · rw [hd] at h; simp at h; simp; omega
  · cases hd : c.dn
    · rw [hd] at h; simp at h ⊢; omega
    · rw [hd] at h; simp at h ⊢; omega
set_option maxRecDepth 100000 in
set_option maxHeartbeats 8000000 in
theorem stands_any (A : Option Addr) (n d i : Nat) (l : List CallD) (c : CallD) (w : World) (hL : CallsM w Any A n l) (hn : n ≤ 1048576) (hnd : n ≤ d) (hi : i < n) (hc : l[i]? = some c) :
    Calls Try.prog 20 #[.slice A n d, .int .i64 i] w fun e w' => e = .returned (.bool (decide (pointE l i c))) ∧ Below w.heap.size w w' := by
  have HL := Lib.hid hL
  have HN := Lib.hid hL.len
  clear hL
  obtain ⟨b, o, c', z, rfl, hFb, hlk, hw, hat⟩ := HL.out.at_ hi
  rw [hc] at hlk
  injection hlk with hlk
  subst hlk
  have HAT := Lib.hid hat
  have HC := Lib.hid hc
  have hi' : (i : Int) < (n : Int) := by omega
  have hid : (i : Int) ≤ (d : Int) := by omega
  clear hw hFb hat hc
  obtain ⟨sb, hsb⟩ : ∃ sb, sb = decide (c.kd = 1 ∨ c.kd = 2 ∨ c.kd = 3) := ⟨_, rfl⟩
  have HSB := Lib.hid hsb
  clear hsb
  go_enter Try.func20, Try.ntmps20
  go_upto_region 2 with (first | (refine wpList_load_call rfl (.tmp 9) rfl rfl HAT.out ?_) | (refine wpList_store_call _ rfl (.tmp 5) (.tmp 10) rfl rfl rfl rfl ?_))
  obtain ⟨w1, hw1⟩ : ∃ W, W = w.alloc (.cells (callCs c z) 48) := ⟨_, rfl⟩
  rw [← hw1]
  have HB : Hid (Below w.heap.size w w1) := Lib.hid (by rw [hw1]; exact (Below.refl _ _).alloc (Nat.le_refl _) _)
  have HK : Hid (Blk w1 w.heap.size 48 (callCs c z)) := Lib.hid (by rw [hw1]; exact Blk.new _ _ _)
  clear hw1
  have z2 : w1.cell? ⟨w.heap.size, 2, none⟩ = some (.int .i64 c.kd) := HK.out.cell 2
  have z11 : w1.cell? ⟨w.heap.size, 11, none⟩ = some (.int .i64 c.pt) := HK.out.cell 11
  refine st1_cond w.heap.size c z w1 _ HK ?_
  intro v11 v12 v13 v14 v15 v16 v17 v18 v19 v20 v21 v22 v23 v24 v25 v26 v27 one hone
  have H1 := Lib.hid hone
  clear hone
  go_upto_region 3 with fail
  refine st2_cond w.heap.size c z w1 _ HK ?_
  intro v29 v30 v31 v32 v33 v34 v35 v36 v37 v38 v39 v40 v41 v42 r2 hr2
  have H2 := Lib.hid hr2
  clear hr2
  cases r2 with
  | true =>
    go_wp2
    go_ret
    refine ⟨ret_bool ?_, HB.out⟩
    exact ⟨fun h => by simp at h, fun h => absurd h.1 (mom_no2 (by simpa using H2.out))⟩
  | false =>
    cases sb with
    | false =>
      have HNS : Hid (¬ (c.kd = 1 ∨ c.kd = 2 ∨ c.kd = 3)) := Lib.hid (of_decide_eq_false HSB.out.symm)
      have HM := Lib.hid (mom_other (by simpa using H2.out) HNS.out)
      by_cases hp : c.pt = -1
      · have HP := Lib.hid hp
        rw [hp] at z11
        clear hp
        go_wp2_with (first | (go_at_call 43; refine (single_any _ _).mono ?_; rintro e w2 ⟨rfl, rfl⟩; rw [← HSB.out]) | (go_at_call 44; go_loud (refine (containsC_any (some ⟨b, o, none⟩) i d w.heap.size (l.take i) c z w1 ((HL.out.below HB.out).take (by omega)) (by omega) HK.out).mono ?_); rintro e w3 ⟨⟨rb, rfl, hrb⟩, hb3⟩; have HRB := Lib.hid hrb; have HB3 := Lib.hid (HB.out.trans (hb3.mono HB.out.size)); clear hrb hb3))
        go_ret
        refine ⟨ret_bool ?_, HB3.out⟩
        have hrb := HRB.out
        constructor
        · intro h
          exact ⟨HM.out.2 HP.out, fun x hx hcl => by have := hrb.2 ⟨x, hx, hcl⟩; rw [this] at h; simp at h⟩
        · intro h
          cases rb with
          | false => rfl
          | true => obtain ⟨x, hx, hcl⟩ := hrb.1 rfl; exact absurd hcl (h.2 x hx)
      · have HP := Lib.hid hp
        have hp' : (c.pt == -1) = false := by simpa using hp
        clear hp
        go_wp2_with (go_at_call 43; refine (single_any _ _).mono ?_; rintro e w2 ⟨rfl, rfl⟩; rw [← HSB.out])
        go_ret
        refine ⟨ret_bool ?_, HB.out⟩
        exact ⟨fun h => by simp at h, fun h => absurd (HM.out.1 h.1) HP.out⟩
    | true =>
      have HNS : Hid (c.kd = 1 ∨ c.kd = 2 ∨ c.kd = 3) := Lib.hid (of_decide_eq_true HSB.out.symm)
      go_upto_region 8 with (go_at_call 43; refine (single_any _ _).mono ?_; rintro e w2 ⟨rfl, rfl⟩; rw [← HSB.out])
      refine st3_cond w.heap.size one c z w1 _ HK ?_
      intro v53 v54 v55 v56 v57 v58 v59 v60 v61 v62 v63 r3 hr3
      have HM := Lib.hid (mom_single (by simpa using H2.out) HNS.out H1.out hr3)
      clear hr3
      cases r3 with
      | true =>
        go_wp2
        go_ret
        refine ⟨ret_bool ?_, HB.out⟩
        exact ⟨fun h => by simp at h, fun h => by have := HM.out.1 h.1; simp at this⟩
      | false =>
        go_wp2_with (go_at_call 44; go_loud (refine (containsC_any (some ⟨b, o, none⟩) i d w.heap.size (l.take i) c z w1 ((HL.out.below HB.out).take (by omega)) (by omega) HK.out).mono ?_); rintro e w3 ⟨⟨rb, rfl, hrb⟩, hb3⟩; have HRB := Lib.hid hrb; have HB3 := Lib.hid (HB.out.trans (hb3.mono HB.out.size)); clear hrb hb3)
        go_ret
        refine ⟨ret_bool ?_, HB3.out⟩
        have hrb := HRB.out
        constructor
        · intro h
          exact ⟨HM.out.2 (by simp), fun x hx hcl => by have := hrb.2 ⟨x, hx, hcl⟩; rw [this] at h; simp at h⟩
        · intro h
          cases rb with
          | false => rfl
          | true => obtain ⟨x, hx, hcl⟩ := hrb.1 rfl; exact absurd hcl (h.2 x hx)
end Go.Proofs.Ytpbnngfiinihmaa

namespace Go.Proofs.Ytpbnngfiinihmaa
open Go.RowKit Go.Maps
theorem strKeyed : Keyed Try.prog 9 := string_keyed Try.underlying9
theorem bsZero (w : World) : (zeroValue 36).run Try.prog w = .ok (.slice none 0 0) w := by kernel_rfl
/-- an element is read as it stands -/
def rawE (v : Value) : Option (DataW Value × List MemPlace) := some (.held v, [])
/-- the key of a text -/
def kl (k : List UInt8) : Lit := .string k
theorem kl_inj {a b : List UInt8} (h : kl a = kl b) : a = b := by injection h
theorem kl_key (k : List UInt8) : WideAt.IsKeyLit (kl k) := by simp [WideAt.IsKeyLit, kl]
theorem keyOf_sOf {k : List UInt8} (hk : k.length ≤ maxLen) : keyOf Try.prog 9 (.string (sOf k)) = some (kl k) := by
  have h := Go.WideMaps.keyOf_string_mk (P := Try.prog) (k := 9) Try.underlying9 (s := sOf k) (by simpa [sOf, ByteArray.size] using hk)
  rw [h]; simp [sOf, kl]
/-- block b is a table of at most n entries that reads as m; its texts lie in F -/
def TabM (w : World) (b n : Nat) (F : Nat → Prop) (m : List Ent) : Prop :=
  ∃ D : DataW Value, w.ownsMap Try.prog 9 rawE b n D ∧ IsMap D ∧ (∀ k, has D (kl k) = (hasE m k).isSome) ∧ ∀ k v, hasE m k = some v → ∃ u, (∀ z, D.atKey (kl k) z = .held u) ∧ SB w F u v
section
variable {w w' : World} {b n : Nat} {F G S : Nat → Prop} {m : List Ent}
theorem TabM.made (w : World) (F : Nat → Prop) : TabM (w.alloc (.map #[] 0)) w.heap.size 0 F [] := ⟨.map [], World.ownsMap_made _ _ _ _, isMap_empty, fun k => rfl, fun k v h => by cases h⟩
theorem TabM.lt (h : TabM w b n F m) : b < w.heap.size := by obtain ⟨D, h, _⟩ := h; exact h.lt
theorem TabM.weak (h : TabM w b n F m) (hF : ∀ b, F b → G b) : TabM w b n G m :=
  let ⟨D, a, i, c, d⟩ := h; ⟨D, a, i, c, fun k v hk => let ⟨u, e, s⟩ := d k v hk; ⟨u, e, s.weak hF⟩⟩
theorem TabM.chg (h : TabM w b n F m) (hc : Chg S w w') (hb : ¬ S b) (hs : ∀ b, F b → ¬ S b) : TabM w' b n F m := by
  have hlt := h.lt
  obtain ⟨D, ⟨es, clock, hm, r⟩, i, c, d⟩ := h
  exact ⟨D, ⟨es, clock, (hc.block b hlt hb).trans hm, r⟩, i, c, fun k v hk => let ⟨u, e, s⟩ := d k v hk; ⟨u, e, s.chg hc hs⟩⟩
theorem TabM.below (h : TabM w b n F m) (hb : Below w.heap.size w w') : TabM w' b n F m := h.chg (S := Nil) (Chg.of_below hb) (fun h => h) (fun _ _ h => h)
theorem TabM.mono {n' : Nat} (h : TabM w b n F m) (hn : n ≤ n') : TabM w b n' F m := let ⟨D, a, r⟩ := h; ⟨D, a.mono hn, r⟩
/-- the value at a key, or nil -/
theorem TabM.look (h : TabM w b n F m) {k : List UInt8} (hk : k.length ≤ maxLen) : ∃ A nn cc, (Instr.lookup 53 (.map (some b)) (.string (sOf k)) true).run Try.prog w = .ok (.tuple #[.slice A nn cc, .bool (hasE m k).isSome]) w ∧
    (Instr.lookup 53 (.map (some b)) (.string (sOf k)) false).run Try.prog w = .ok (.slice A nn cc) w ∧ SB w F (.slice A nn cc) ((hasE m k).getD []) := by
  obtain ⟨D, a, i, c, d⟩ := h
  have hzd : rawE (.slice none 0 0) = some (.held (.slice none 0 0), []) := rfl
  obtain ⟨v, ps, hrun, hv⟩ := a.look_ok strKeyed Try.underlying53 (bsZero w) hzd (keyOf_sOf hk)
  obtain ⟨v2, ps2, hrun2, hv2⟩ := a.lookup strKeyed Try.underlying53 (bsZero w) hzd (keyOf_sOf hk)
  rw [c k] at hrun
  unfold rawE at hv hv2
  simp only [Option.some.injEq, Prod.mk.injEq] at hv hv2
  have e : v2 = v := by
    have := hv2.1.trans hv.1.symm
    injection this
  subst e
  cases hh : hasE m k with
  | none =>
    rw [hh] at hrun
    have hno : has D (kl k) = false := by rw [c k, hh]; rfl
    rw [atKey_of_not_has hno] at hv
    have : v2 = .slice none 0 0 := by injection hv.1
    subst this
    exact ⟨none, 0, 0, hrun, hrun2, SB.nil _ _⟩
  | some x =>
    rw [hh] at hrun
    obtain ⟨u, hu, s⟩ := d k x hh
    rw [hu] at hv
    have : v2 = u := by injection hv.1
    subst this
    obtain ⟨A, nn, cc, rfl, s1, s2, s3, s4⟩ := s
    exact ⟨A, nn, cc, hrun, hrun2, SB.mk s1 s2 s3 s4⟩
end
section
variable {w : World} {b n : Nat} {F : Nat → Prop} {m : List Ent} {ops : Array Oper} {rest : List Oper} {o : Oper} {a : Act} {Q : Exit → Act → World → Prop}
/-- m[k] = v -/
theorem wpList_tab_put (hg : o.guard = none) (t x v : Operand) (hop : o.op = Op.mapUpdate 53 t x v) (hm : a.eval t = .map (some b)) (hT : TabM w b n F m) (hn : n < maxLen) (e : Ent) (hk : e.1.length ≤ maxLen) (u : Value) (hx : a.eval x = .string (sOf e.1)) (hv : a.eval v = u) (hs : SB w F u e.2) (hF : ¬ F b)
    (hK : ∀ w', TabM w' b (n + 1) F (putE m e) → Chg (One b) w w' → wpList Try.prog ops Q rest (a.put o.dst undef) w') :
    wpList Try.prog ops Q (o :: rest) a w := by
  obtain ⟨D, hD, hI, hc, hd⟩ := hT
  refine wpList_mapUpdate_own w hg t x v 53 hop 9 36 strKeyed Try.underlying53 _ b n D hm hD hn (.string (sOf e.1)) u (kl e.1) hx hv (keyOf_sOf hk) (.held u) [] rfl ?_
  intro w' hw' hg'
  have hchg : Chg (One b) w w' := (Chg.refl _ _).grown hg' (fun c hc _ => by injection hc with hc; exact hc.symm)
  have hfs : ∀ c, F c → ¬ One b c := fun c hc e => hF (by have e : c = b := e; rw [← e]; exact hc)
  refine hK w' ⟨_, hw', hI.put _ _, fun k => ?_, fun k y hky => ?_⟩ hchg
  · rw [hasE_put]
    by_cases hke : k = e.1
    · subst hke; rw [if_pos rfl, has_put_same hI (kl_key _)]; rfl
    · rw [if_neg hke, has_put_other (fun h => hke (kl_inj h)), hc k]
  · rw [hasE_put] at hky
    by_cases hke : k = e.1
    · subst hke
      rw [if_pos rfl] at hky
      injection hky with hky
      subst hky
      exact ⟨u, fun z => atKey_put_same hI (kl_key _) _ _, hs.chg hchg hfs⟩
    · rw [if_neg hke] at hky
      obtain ⟨u', h1, h2⟩ := hd k y hky
      exact ⟨u', fun z => by rw [atKey_put_other (fun h => hke (kl_inj h))]; exact h1 z, h2.chg hchg hfs⟩
/-- delete(m, k) -/
theorem wpList_tab_cut (hg : o.guard = none) (t x : Operand) (hop : o.op = Op.call { callee := Callee.builtin Builtin.delete, args := #[t, x], argTypes := #[53, 9] }) (hm : a.eval t = .map (some b)) (hT : TabM w b n F m) (k0 : List UInt8) (hk : k0.length ≤ maxLen) (hx : a.eval x = .string (sOf k0)) (hF : ¬ F b)
    (hK : ∀ w', TabM w' b n F (cutE m k0) → Chg (One b) w w' → wpList Try.prog ops Q rest (a.put o.dst (.tuple #[])) w') :
    wpList Try.prog ops Q (o :: rest) a w := by
  obtain ⟨D, hD, hI, hc, hd⟩ := hT
  refine wpList_delete_own w hg t x 53 9 hop 36 strKeyed Try.underlying53 _ b n D hm hD (.string (sOf k0)) (kl k0) hx (keyOf_sOf hk) ?_
  intro w' hw' hg'
  have hchg : Chg (One b) w w' := (Chg.refl _ _).grown hg'.grown (fun c hc _ => by injection hc with hc; exact hc.symm)
  have hfs : ∀ c, F c → ¬ One b c := fun c hc e => hF (by have e : c = b := e; rw [← e]; exact hc)
  refine hK w' ⟨_, hw', hI.del _, fun k => ?_, fun k y hky => ?_⟩ hchg
  · rw [hasE_cut]
    by_cases hke : k = k0
    · subst hke; rw [if_pos rfl, has_del_same]; rfl
    · rw [if_neg hke, has_del_other (fun h => hke (kl_inj h)), hc k]
  · rw [hasE_cut] at hky
    by_cases hke : k = k0
    · rw [if_pos hke] at hky; cases hky
    · rw [if_neg hke] at hky
      obtain ⟨u', h1, h2⟩ := hd k y hky
      exact ⟨u', fun z => by rw [atKey_del_other (fun h => hke (kl_inj h))]; exact h1 z, h2.chg hchg hfs⟩
end
end Go.Proofs.Ytpbnngfiinihmaa
