/- WALKS: the document's Seen: the third loop, whole. WALKS: order.Seen, its second closure; slices.IndexFunc, ContainsFunc over tables. WALKS: the document's Seen: the fifth loop's inner one. WALKS: the document's Seen: the fifth loop. -/
import Derived.Test.YtpbnngfiinihmaaOc16
import Derived.Test.YtpbnngfiinihmaaOc07
import Derived.Test.YtpbnngfiinihmaaOc09
set_option linter.unusedVariables false
set_option linter.unusedSimpArgs false
namespace Go.Proofs.Ytpbnngfiinihmaa
open Go.RowKit
open Go.Lib (compareBytes)
open Sf (Off)
noncomputable def r4C : Code := codeOr (Try.f16.body.bind (blockIn 4))
set_option maxRecDepth 100000 in
set_option maxHeartbeats 8000000 in
theorem r4_in (base hb : Nat) (a b : Int) (sA cA : Option Addr) (sn sc cn cc : Nat) (start : List Ent) (l : List CallD) (ks0 : List (List UInt8)) (kv0 mv0 : Value) (us0 ums0 : List Value) (h2 h3 h4 h5 : Value) (w : World) {u0 u1 u2 u3 u7 u8 u9 u10 u11 u12 u14 u15 u16 u19 u20 u21 u22 u23 u24 u25 u26 u27 u28 u29 u30 u31 u32 u33 u34 u35 u36 u37 u38 u39 u40 u41 u42 u43 u44 u45 u46 u47 u48 u49 u50 u51 u52 u53 u54 u55 u56 u57 u58 u59 u60 u61 u62 u63 u64 u65 u66 u67 u68 u69 u70 u71 u72 u73 u74 u75 u76 u77 u78 u79 u80 u81 u82 u83 u84 u85 u86 u87 u88 u89 u90 u91 u92 u93 u94 u95 u96 u97 u98 u99 u100 u101 u102 u103 u104 u105 u106 u107 u108 u109 u110 u111 u112 u113 u114 u115 u116 u117 u118 u119 u120 u121 u122 u123 u124 u125 u126 u127 u128 u129 u130 u131 u132 u133 u134 u135 u136 u137 u138 u139 u140 u141 u142 u143 u144 u145 u146 u147 u148 u149 u150 u151 u152 u153 u154 u155 u156 u157 u158 u159 u160 u161 u162 u163 u164 u165 u166 u167 u168 u169 u170 u171 u172 u173 u174 u175 u176 u177 u178 u179 u180 u181 u182 u183 u184 u185 u186 u187 u188 u189 u190 u191 u192 u193 u194 u195 u196 u197 u198 u199 u200 u201 u202 : Value} (Q : Exit → Act → World → Prop)
    (hsn : sn ≤ 1048576) (hcn : cn ≤ 1048576) (hk0 : ks0.length ≤ 2097152) (hbm : b < 9223372036854775808) (ham : -9223372036854775808 ≤ a) (HSH : Hid (Short 1152921504606 start)) (HS : Hid (Ents w (Under base) sA sn start)) (HL : Hid (CallsM w (Under base) cA cn l)) (hbw : base ≤ w.heap.size) (hbb : hb < base)
    (HH : Hid (Blk w hb 29 #[.slice sA sn sc, .slice cA cn cc, h2, h3, h4, h5])) (HK : Hid (Kt w base kv0 us0 ks0)) (HM : Hid (Mt w base kv0 mv0 ums0 (looksE start l a b []))) (HSP : Hid (∀ g, mv0.ownBlock = some g → kv0.ownBlock ≠ some g))
    (hexit : ∀ (v18 v19 v97 v98 v99 v100 v101 v102 v103 v104 v105 v106 v107 v108 v109 v110 v111 v112 v113 v114 v115 v116 v117 v118 v119 v120 v121 v122 v123 v124 v125 v126 v127 v128 v129 v130 v131 v132 v133 v134 v135 v136 v137 v138 v139 v140 v141 v142 v143 v144 v145 : Value) (kvv mvv : Value) (us2 ums2 : List Value) (w' : World), Kt w' base kvv us2 (ks0 ++ keysC l l.length) → Mt w' base kvv mvv ums2 (looksE start l a b l) → Chg (From base) w w' → Q (.exit 4) ⟨(u0 :: u1 :: u2 :: u3 :: .int .i64 a :: .int .i64 b :: .pointer (some ⟨hb, 0, none⟩) :: u7 :: u8 :: u9 :: u10 :: u11 :: u12 :: kvv :: u14 :: u15 :: u16 :: mvv :: v18 :: v19 :: u20 :: u21 :: u22 :: u23 :: u24 :: u25 :: u26 :: u27 :: u28 :: u29 :: u30 :: u31 :: u32 :: u33 :: u34 :: u35 :: u36 :: u37 :: u38 :: u39 :: u40 :: u41 :: u42 :: u43 :: u44 :: u45 :: u46 :: u47 :: u48 :: u49 :: u50 :: u51 :: u52 :: u53 :: u54 :: u55 :: u56 :: u57 :: u58 :: u59 :: u60 :: u61 :: u62 :: u63 :: u64 :: u65 :: u66 :: u67 :: u68 :: u69 :: u70 :: u71 :: u72 :: u73 :: u74 :: u75 :: u76 :: u77 :: u78 :: u79 :: u80 :: u81 :: u82 :: u83 :: u84 :: u85 :: u86 :: u87 :: u88 :: u89 :: u90 :: u91 :: u92 :: u93 :: u94 :: u95 :: u96 :: v97 :: v98 :: v99 :: v100 :: v101 :: v102 :: v103 :: v104 :: v105 :: v106 :: v107 :: v108 :: v109 :: v110 :: v111 :: v112 :: v113 :: v114 :: v115 :: v116 :: v117 :: v118 :: v119 :: v120 :: v121 :: v122 :: v123 :: v124 :: v125 :: v126 :: v127 :: v128 :: v129 :: v130 :: v131 :: v132 :: v133 :: v134 :: v135 :: v136 :: v137 :: v138 :: v139 :: v140 :: v141 :: v142 :: v143 :: v144 :: v145 :: u146 :: u147 :: u148 :: u149 :: u150 :: u151 :: u152 :: u153 :: u154 :: u155 :: u156 :: u157 :: u158 :: u159 :: u160 :: u161 :: u162 :: u163 :: u164 :: u165 :: u166 :: u167 :: u168 :: u169 :: u170 :: u171 :: u172 :: u173 :: u174 :: u175 :: u176 :: u177 :: u178 :: u179 :: u180 :: u181 :: u182 :: u183 :: u184 :: u185 :: u186 :: u187 :: u188 :: u189 :: u190 :: u191 :: u192 :: u193 :: u194 :: u195 :: u196 :: u197 :: u198 :: u199 :: u200 :: u201 :: u202 :: []).toArray, []⟩ w') :
    Code.wp Try.prog r4C Q ⟨(u0 :: u1 :: u2 :: u3 :: .int .i64 a :: .int .i64 b :: .pointer (some ⟨hb, 0, none⟩) :: u7 :: u8 :: u9 :: u10 :: u11 :: u12 :: kv0 :: u14 :: u15 :: u16 :: mv0 :: .int .i64 0 :: u19 :: u20 :: u21 :: u22 :: u23 :: u24 :: u25 :: u26 :: u27 :: u28 :: u29 :: u30 :: u31 :: u32 :: u33 :: u34 :: u35 :: u36 :: u37 :: u38 :: u39 :: u40 :: u41 :: u42 :: u43 :: u44 :: u45 :: u46 :: u47 :: u48 :: u49 :: u50 :: u51 :: u52 :: u53 :: u54 :: u55 :: u56 :: u57 :: u58 :: u59 :: u60 :: u61 :: u62 :: u63 :: u64 :: u65 :: u66 :: u67 :: u68 :: u69 :: u70 :: u71 :: u72 :: u73 :: u74 :: u75 :: u76 :: u77 :: u78 :: u79 :: u80 :: u81 :: u82 :: u83 :: u84 :: u85 :: u86 :: u87 :: u88 :: u89 :: u90 :: u91 :: u92 :: u93 :: u94 :: u95 :: u96 :: u97 :: u98 :: u99 :: u100 :: u101 :: u102 :: u103 :: u104 :: u105 :: u106 :: u107 :: u108 :: u109 :: u110 :: u111 :: u112 :: u113 :: u114 :: u115 :: u116 :: u117 :: u118 :: u119 :: u120 :: u121 :: u122 :: u123 :: u124 :: u125 :: u126 :: u127 :: u128 :: u129 :: u130 :: u131 :: u132 :: u133 :: u134 :: u135 :: u136 :: u137 :: u138 :: u139 :: u140 :: u141 :: u142 :: u143 :: u144 :: u145 :: u146 :: u147 :: u148 :: u149 :: u150 :: u151 :: u152 :: u153 :: u154 :: u155 :: u156 :: u157 :: u158 :: u159 :: u160 :: u161 :: u162 :: u163 :: u164 :: u165 :: u166 :: u167 :: u168 :: u169 :: u170 :: u171 :: u172 :: u173 :: u174 :: u175 :: u176 :: u177 :: u178 :: u179 :: u180 :: u181 :: u182 :: u183 :: u184 :: u185 :: u186 :: u187 :: u188 :: u189 :: u190 :: u191 :: u192 :: u193 :: u194 :: u195 :: u196 :: u197 :: u198 :: u199 :: u200 :: u201 :: u202 :: []).toArray, []⟩ w := by
  have HEX := Lib.hid hexit
  have HN := Lib.hid HL.out.len
  have HBW := Lib.hid hbw
  obtain ⟨i0, hi0, iz0, iz1, iz2⟩ := info_parts bytes_info
  obtain ⟨j0, hj0, jz0, jz1, jz2⟩ := info_parts ents_info
  have HUF : Hid (∀ b, Under base b → ¬ From base b) := Lib.hid (fun b h1 h2 => by have h1 : b < base := h1; have h2 : base ≤ b := h2; omega)
  clear hexit
  conv => arg 2; whnf
  go_loopg [18, 13, 17] cn (fun g' iv kv mv wz => ∃ (j : Nat) (us ums : List Value), g' = cn - j ∧ j ≤ cn ∧ iv = .int .i64 j ∧ Kt wz base kv us (ks0 ++ keysC l j) ∧ Mt wz base kv mv ums (looksE start l a b (l.take j)) ∧ (∀ g, mv.ownBlock = some g → kv.ownBlock ≠ some g) ∧ Chg (From base) w wz)
  case atStart => exact ⟨0, us0, ums0, by omega, by omega, rfl, by simpa [keysC] using HK.out, by simpa using HM.out, HSP.out, Chg.refl _ _⟩
  case round =>
    obtain ⟨j, us, ums, hg, hj, rfl, hk, hm, hsp, hc1⟩ := hrel
    have HG := Lib.hid hg
    have HKM := Lib.hid hk
    have HMR := Lib.hid hm
    have HSR := Lib.hid hsp
    have HC := Lib.hid hc1
    have HMM : Hid ((looksE start l a b (l.take j)).length ≤ 1048577) := Lib.hid (by
      unfold looksE
      have h1 := List.length_filter_le (fun c : CallD => decide (a ≤ c.pt ∧ c.pt < b)) (l.take j)
      have h2 : (l.take j).length ≤ j := by rw [List.length_take]; omega
      simp only [List.length_cons, List.length_map]
      omega)
    have HML : Hid ((ks0 ++ keysC l j).length ≤ 4194304) := Lib.hid (by
      unfold keysC
      have h1 := List.length_filter_le (fun c : CallD => decide (c.kd = 2 ∨ c.kd = 3)) (l.take j)
      have h2 : (l.take j).length ≤ j := by rw [List.length_take]; omega
      simp only [List.length_append, List.length_map]
      omega)
    have HHr := Lib.hid (HH.out.chg hc1 (HUF.out hb hbb))
    have y1 : wr.cell? ⟨hb, 1, none⟩ = some (.slice cA cn cc) := HHr.out.cell 1
    clear hg hk hm hsp
    by_cases hlt : j < cn
    · have hlt' : (j : Int) < (cn : Int) := by omega
      have HSr := Lib.hid (HS.out.chg hc1 HUF.out)
      have HLr := Lib.hid (HL.out.chg hc1 HUF.out)
      have hbr : base ≤ wr.heap.size := by have := hc1.size; omega
      obtain ⟨g, o, c, x, hcA, hFg, hlp, hcw, hat⟩ := HLr.out.at_ hlt
      subst hcA
      have HC0 := Lib.hid hlp
      have HCW := Lib.hid hcw
      have HAT := Lib.hid hat
      have HBR := Lib.hid hbr
      clear hlp hcw hat hc1 hFg hbr
      go_upto_region 20 with (first | (refine wpList_load_call rfl (.tmp 107) rfl rfl HAT.out ?_) | (refine wpList_store_call _ rfl (.tmp 19) (.tmp 108) rfl rfl rfl rfl ?_))
      obtain ⟨w1, hw1⟩ : ∃ W, W = wr.alloc (.cells (callCs c x) 48) := ⟨_, rfl⟩
      rw [← hw1]
      have hb1 : Below wr.heap.size wr w1 := by rw [hw1]; exact (Below.refl _ _).alloc (Nat.le_refl _) _
      have HBK : Hid (Blk w1 wr.heap.size 48 (callCs c x)) := Lib.hid (by rw [hw1]; exact Blk.new _ _ _)
      have HB1 := Lib.hid hb1
      have HKM1 := Lib.hid (HKM.out.below hb1)
      have HMR1 := Lib.hid (HMR.out.below hb1)
      have HC1 := Lib.hid (HC.out.then hb1)
      have HCW1 := Lib.hid (HCW.out.below hb1)
      have HH1 := Lib.hid (HHr.out.below hb1)
      have HS1 := Lib.hid (HSr.out.below hb1)
      have HL1 := Lib.hid (HLr.out.below hb1)
      have HBS : Hid (base ≤ w1.heap.size) := Lib.hid (Nat.le_trans HBR.out hb1.size)
      have x2 : w1.cell? ⟨wr.heap.size, 2, none⟩ = some (.int .i64 c.kd) := HBK.out.cell 2
      have x3 : w1.cell? ⟨wr.heap.size, 3, none⟩ = some (.slice x.kA x.kn x.kc) := HBK.out.cell 3
      clear hw1 hb1 y1
      refine r20_any wr.heap.size c.kd w1 _ x2 ?_
      intro v109 v110 v111 v112 v113 v114 v115 v116 v117 rb hrb
      have HRB := Lib.hid hrb
      clear hrb x2
      cases rb with
      | true =>
        have HKD : Hid (c.kd = 2 ∨ c.kd = 3) := Lib.hid (HRB.out.1 (by simp))
        go_upto_region 22 with (at_builtin; go_loud (refine wpList_append_any _ rfl (.tmp 119) (.tmp 123) _ rfl base 36 i0 _ 1 24 Try.underlying73 hi0 iz0 iz1 iz2 rfl (by omega) u13 _ us rfl (own_below HKM1.out.own ((Below.refl _ _).alloc (Nat.le_refl _) _)) (From w1.heap.size) (some ⟨w1.heap.size, 0, none⟩) 1 1 [.slice x.kA x.kn x.kc] rfl (Rd.one w1 _ _) (by simp [Value.oneCell']) (by have := HML.out; simp only [maxLen]; omega) (by have := HML.out; omega) (by have := HBS.out; simp; omega) ?_); intro v6 w6 hown6 hg6 hat6; have HO6 := Lib.hid hown6; have HG6 := Lib.hid hg6; have HA6 := Lib.hid hat6; clear hown6 hg6 hat6)
        obtain ⟨wa, hwa⟩ : ∃ W, W = w1.alloc (.cells #[.slice x.kA x.kn x.kc] 36) := ⟨_, rfl⟩
        have hg6 := HG6.out
        have ha6 := HA6.out
        have ho6 := HO6.out
        rw [← hwa] at hg6 ha6
        have hba : Below w1.heap.size w1 wa := by rw [hwa]; exact (Below.refl _ _).alloc (Nat.le_refl _) _
        have hol : ∀ g, u13.ownBlock = some g → base ≤ g := fun g hg => (own_lt HKM1.out.own g hg).1
        have hcg : Chg (From base) wa w6 := (Chg.of_grown hg6).mono (fun g _ e => hol g e)
        have HK6 := Lib.hid ((HKM1.out.below hba).push ho6 hg6 (HCW1.out.keyF.below hba))
        have HM6 := Lib.hid ((HMR1.out.below hba).rekey hg6 ha6 HSR.out)
        have HSP6 : Hid (∀ g, u17.ownBlock = some g → v6.ownBlock ≠ some g) := Lib.hid (fun g h1 h2 => by
          have h3 := own_lt HMR1.out.own g h1
          rcases ha6 with h4 | h4
          · exact HSR.out g h1 (h4 ▸ h2)
          · rw [h4] at h2; injection h2 with h2; have := hba.size; omega)
        have hc16 := (Chg.of_below (S := From base) hba).trans hcg (fun _ _ h => h)
        have HC6 := Lib.hid (HC1.out.trans hc16 (fun _ _ h => h))
        have HH6 := Lib.hid (HH1.out.chg hc16 (HUF.out hb hbb))
        have HS6 := Lib.hid (HS1.out.chg hc16 HUF.out)
        have HL6 := Lib.hid (HL1.out.chg hc16 HUF.out)
        have hsz6 : base ≤ w6.heap.size := Nat.le_trans HBS.out hc16.size
        have x11' : w6.cell? ⟨wr.heap.size, 11, none⟩ = some (.int .i64 c.pt) := (Chg.of_grown hg6).cell (show ¬ (u13.ownBlock = some wr.heap.size) from fun e => by have := (own_lt HKM.out.own _ e).2; omega) (bkeep hba (HBK.out.cell 11))
        clear hwa hg6 ha6 ho6 hba hol hcg hc16 x3
        refine r22_any wr.heap.size a b c.pt w6 _ x11' ?_
        intro v125 v126 v127 v128 v129 v130 v131 v132 v133 rb2 hrb2
        have HR2 := Lib.hid hrb2
        clear hrb2
        have HYB := Lib.hid hsz6
        have HXL : Hid (∀ g, Xs v6 u17 g → g < w6.heap.size) := Lib.hid (fun g hg => by
          rcases hg with hg | hg
          · exact (own_lt HK6.out.own g hg).2
          · exact (own_lt HM6.out.own g hg).2)
        have HXB : Hid (∀ g, Xs v6 u17 g → base ≤ g) := Lib.hid (fun g hg => by
          rcases hg with hg | hg
          · exact (own_lt HK6.out.own g hg).1
          · exact (own_lt HM6.out.own g hg).1)
        have HOF : Hid (∀ g, Under base g → Off (Xs v6 u17) g) := Lib.hid (fun g h1 h2 => by have h1 : g < base := h1; have := HXB.out g h2; omega)
        cases rb2 with
        | true =>
          have HAB : Hid (a ≤ c.pt ∧ c.pt < b) := Lib.hid (HR2.out.1 (by simp))
          have hw1 := IntWalk.i64_in (c.pt + 1) (by have := HAB.out; omega)
          have y0 : w6.cell? ⟨hb, 0, none⟩ = some (.slice sA sn sc) := HH6.out.cell 0
          have y1 : w6.cell? ⟨hb, 1, none⟩ = some (.slice (some ⟨g, o, none⟩) cn cc) := HH6.out.cell 1
          have x11 := x11'
          go_wp2_with (first | (go_at_call 13; (have := Sf.rafter_any (X := Xs v6 u17) sA (some ⟨g, o, none⟩) sn sc cn cc (c.pt + 1) start l w6 (HS6.out.weak HOF.out) (HL6.out.weak HOF.out) hsn hcn HSH.out HXL.out); refine this.mono ?_; clear this; rintro e5 w5 ⟨eA, en, ec, rfl, he5, hb5⟩; have HE5 := Lib.hid he5; have HB5 := Lib.hid hb5; have HM5 := Lib.hid (HM6.out.below hb5); clear he5 hb5) | (at_builtin; go_loud (refine wpList_append_any _ rfl (.tmp 135) (.tmp 144) _ rfl base 27 j0 _ 1 24 Try.underlying75 hj0 jz0 jz1 jz2 rfl (by omega) u17 _ ums rfl (own_below HM5.out.own ((Below.refl _ _).alloc (Nat.le_refl _) _)) (From w5.heap.size) (some ⟨w5.heap.size, 0, none⟩) 1 1 [.slice eA en ec] rfl (Rd.one w5 _ _) (by simp [Value.oneCell']) (by have := HMM.out; simp only [maxLen]; omega) (by have := HMM.out; omega) (by have h1 := HB5.out.size; have h2 := HYB.out; simp; omega) ?_); intro v7 w7 hown7 hg7 hat7; have HO7 := Lib.hid hown7; have HG7 := Lib.hid hg7; have HA7 := Lib.hid hat7; clear hown7 hg7 hat7))
          go_roundg (cn - (j + 1))
          case measure => have := HG.out; omega
          case rel =>
            obtain ⟨wa, hwa⟩ : ∃ W, W = w5.alloc (.cells #[.slice eA en ec] 27) := ⟨_, rfl⟩
            have hg7 := HG7.out
            have ha7 := HA7.out
            have ho7 := HO7.out
            rw [← hwa] at hg7 ha7
            have hba : Below w5.heap.size w5 wa := by rw [hwa]; exact (Below.refl _ _).alloc (Nat.le_refl _) _
            have hbw : Below w6.heap.size w6 wa := HB5.out.trans (hba.mono HB5.out.size)
            have hcg : Chg (fun g => u17.ownBlock = some g) wa w7 := Chg.of_grown hg7
            have hMa := HM5.out.below hba
            have hen : en ≤ 2097152 := by have h1 := HE5.out.len; have h2 := afterE_len start l (c.pt + 1); have h3 := HS6.out.len; have h4 := HL6.out.len; omega
            have hsep := HSP6.out
            refine ⟨j + 1, (us ++ [.slice x.kA x.kn x.kc]), ums ++ [.slice eA en ec], rfl, by omega, by go_num, ?_, ?_, ?_, ?_⟩
            · rw [keysC_yes HC0.out HKD.out, ← List.append_assoc]
              exact (HK6.out.below hbw).chg hcg (fun g h1 h2 => hsep g h2 h1) (fun g h1 h2 => by have := (own_lt hMa.own g h2).1; omega)
            · rw [looks_yes HC0.out HAB.out]
              exact hMa.push ho7 hg7 ha7 ⟨eA, en, ec, rfl, hen, HE5.out.below hba⟩
            · intro g h1 h2
              have h3 := own_lt HK6.out.own g h2
              rcases ha7 with h4 | h4
              · exact hsep g (h4 ▸ h1) h2
              · rw [h4] at h1; injection h1 with h1; have := hbw.size; omega
            · exact (HC6.out.then hbw).trans hcg (fun g _ e => (own_lt hMa.own g e).1)
        | false =>
          have HAB : Hid (¬ (a ≤ c.pt ∧ c.pt < b)) := Lib.hid (fun h => by have := HR2.out.2 h; cases this)
          go_wp2
          go_roundg (cn - (j + 1))
          case measure => have := HG.out; omega
          case rel =>
            refine ⟨j + 1, (us ++ [.slice x.kA x.kn x.kc]), ums, rfl, by omega, by go_num, ?_, ?_, HSP6.out, HC6.out⟩
            · rw [keysC_yes HC0.out HKD.out, ← List.append_assoc]
              exact HK6.out
            · rw [looks_no HC0.out HAB.out]; exact HM6.out
      | false =>
        have HKD : Hid (¬ (c.kd = 2 ∨ c.kd = 3)) := Lib.hid (fun h => by have := HRB.out.2 h; cases this)
        have x11' : w1.cell? ⟨wr.heap.size, 11, none⟩ = some (.int .i64 c.pt) := HBK.out.cell 11
        clear x3
        go_upto_region 22 with fail
        refine r22_any wr.heap.size a b c.pt w1 _ x11' ?_
        intro v125 v126 v127 v128 v129 v130 v131 v132 v133 rb2 hrb2
        have HR2 := Lib.hid hrb2
        clear hrb2
        have HYB := Lib.hid HBS.out
        have HXL : Hid (∀ g, Xs u13 u17 g → g < w1.heap.size) := Lib.hid (fun g hg => by
          rcases hg with hg | hg
          · exact (own_lt HKM1.out.own g hg).2
          · exact (own_lt HMR1.out.own g hg).2)
        have HXB : Hid (∀ g, Xs u13 u17 g → base ≤ g) := Lib.hid (fun g hg => by
          rcases hg with hg | hg
          · exact (own_lt HKM1.out.own g hg).1
          · exact (own_lt HMR1.out.own g hg).1)
        have HOF : Hid (∀ g, Under base g → Off (Xs u13 u17) g) := Lib.hid (fun g h1 h2 => by have h1 : g < base := h1; have := HXB.out g h2; omega)
        cases rb2 with
        | true =>
          have HAB : Hid (a ≤ c.pt ∧ c.pt < b) := Lib.hid (HR2.out.1 (by simp))
          have hw1 := IntWalk.i64_in (c.pt + 1) (by have := HAB.out; omega)
          have y0 : w1.cell? ⟨hb, 0, none⟩ = some (.slice sA sn sc) := HH1.out.cell 0
          have y1 : w1.cell? ⟨hb, 1, none⟩ = some (.slice (some ⟨g, o, none⟩) cn cc) := HH1.out.cell 1
          have x11 := x11'
          go_wp2_with (first | (go_at_call 13; (have := Sf.rafter_any (X := Xs u13 u17) sA (some ⟨g, o, none⟩) sn sc cn cc (c.pt + 1) start l w1 (HS1.out.weak HOF.out) (HL1.out.weak HOF.out) hsn hcn HSH.out HXL.out); refine this.mono ?_; clear this; rintro e5 w5 ⟨eA, en, ec, rfl, he5, hb5⟩; have HE5 := Lib.hid he5; have HB5 := Lib.hid hb5; have HM5 := Lib.hid (HMR1.out.below hb5); clear he5 hb5) | (at_builtin; go_loud (refine wpList_append_any _ rfl (.tmp 135) (.tmp 144) _ rfl base 27 j0 _ 1 24 Try.underlying75 hj0 jz0 jz1 jz2 rfl (by omega) u17 _ ums rfl (own_below HM5.out.own ((Below.refl _ _).alloc (Nat.le_refl _) _)) (From w5.heap.size) (some ⟨w5.heap.size, 0, none⟩) 1 1 [.slice eA en ec] rfl (Rd.one w5 _ _) (by simp [Value.oneCell']) (by have := HMM.out; simp only [maxLen]; omega) (by have := HMM.out; omega) (by have h1 := HB5.out.size; have h2 := HYB.out; simp; omega) ?_); intro v7 w7 hown7 hg7 hat7; have HO7 := Lib.hid hown7; have HG7 := Lib.hid hg7; have HA7 := Lib.hid hat7; clear hown7 hg7 hat7))
          go_roundg (cn - (j + 1))
          case measure => have := HG.out; omega
          case rel =>
            obtain ⟨wa, hwa⟩ : ∃ W, W = w5.alloc (.cells #[.slice eA en ec] 27) := ⟨_, rfl⟩
            have hg7 := HG7.out
            have ha7 := HA7.out
            have ho7 := HO7.out
            rw [← hwa] at hg7 ha7
            have hba : Below w5.heap.size w5 wa := by rw [hwa]; exact (Below.refl _ _).alloc (Nat.le_refl _) _
            have hbw : Below w1.heap.size w1 wa := HB5.out.trans (hba.mono HB5.out.size)
            have hcg : Chg (fun g => u17.ownBlock = some g) wa w7 := Chg.of_grown hg7
            have hMa := HM5.out.below hba
            have hen : en ≤ 2097152 := by have h1 := HE5.out.len; have h2 := afterE_len start l (c.pt + 1); have h3 := HS1.out.len; have h4 := HL1.out.len; omega
            have hsep := HSR.out
            refine ⟨j + 1, us, ums ++ [.slice eA en ec], rfl, by omega, by go_num, ?_, ?_, ?_, ?_⟩
            · rw [keysC_no HC0.out HKD.out]
              exact (HKM1.out.below hbw).chg hcg (fun g h1 h2 => hsep g h2 h1) (fun g h1 h2 => by have := (own_lt hMa.own g h2).1; omega)
            · rw [looks_yes HC0.out HAB.out]
              exact hMa.push ho7 hg7 ha7 ⟨eA, en, ec, rfl, hen, HE5.out.below hba⟩
            · intro g h1 h2
              have h3 := own_lt HKM1.out.own g h2
              rcases ha7 with h4 | h4
              · exact hsep g (h4 ▸ h1) h2
              · rw [h4] at h1; injection h1 with h1; have := hbw.size; omega
            · exact (HC1.out.then hbw).trans hcg (fun g _ e => (own_lt hMa.own g e).1)
        | false =>
          have HAB : Hid (¬ (a ≤ c.pt ∧ c.pt < b)) := Lib.hid (fun h => by have := HR2.out.2 h; cases this)
          go_wp2
          go_roundg (cn - (j + 1))
          case measure => have := HG.out; omega
          case rel =>
            refine ⟨j + 1, us, ums, rfl, by omega, by go_num, ?_, ?_, HSR.out, HC1.out⟩
            · rw [keysC_no HC0.out HKD.out]
              exact HKM1.out
            · rw [looks_no HC0.out HAB.out]; exact HMR1.out
    · have hin : j = cn := by omega
      subst hin
      go_wp2
      have h1 := HKM.out
      have h2 := HMR.out
      rw [take_all HN.out] at h2
      refine HEX.out _ _ _ _ _ _ _ _ _ _ _ _ _ _ _ _ _ _ _ _ _ _ _ _ _ _ _ _ _ _ _ _ _ _ _ _ _ _ _ _ _ _ _ _ _ _ _ _ _ _ _ _ _ us ums _ ?_ h2 HC.out
      rw [← HN.out]; exact h1
end Go.Proofs.Ytpbnngfiinihmaa

namespace Go.Proofs.Ytpbnngfiinihmaa
open Go.RowKit Go.Maps
/-- what a look's closure answers of a table -/
def sameK (m : List Ent) (k : List UInt8) (tb : Bool) (v : List UInt8) : Prop := (hasE m k).isSome = tb ∧ (hasE m k).getD [] = v
instance (m : List Ent) (k : List UInt8) (tb : Bool) (v : List UInt8) : Decidable (sameK m k tb v) := by unfold sameK; infer_instance
set_option maxRecDepth 100000 in
set_option maxHeartbeats 4000000 in
theorem seenC_any (F G : Nat → Prop) (b n : Nat) (m : List Ent) (k v : List UInt8) (tb : Bool) (A : Option Addr) (nn cc ps pb pv : Nat) (w : World) (hT : TabM w b n F m) (hk : k.length ≤ maxLen) (hv : SB w G (.slice A nn cc) v)
    (c1 : w.cell? ⟨ps, 0, none⟩ = some (.string (sOf k))) (c2 : w.cell? ⟨pb, 0, none⟩ = some (.bool tb)) (c3 : w.cell? ⟨pv, 0, none⟩ = some (.slice A nn cc)) :
    Calls Try.prog 37 #[.map (some b), .pointer (some ⟨ps, 0, none⟩), .pointer (some ⟨pb, 0, none⟩), .pointer (some ⟨pv, 0, none⟩)] w fun e w' => e = .returned (.bool (decide (sameK m k tb v))) ∧ w = w' := by
  obtain ⟨vA, vn, vc, hlk, _, hsv⟩ := hT.look hk
  have HSV := Lib.hid hsv.parts
  have HV := Lib.hid hv.parts
  obtain ⟨mb, hmb⟩ : ∃ mb, mb = (hasE m k).isSome := ⟨_, rfl⟩
  have HMB := Lib.hid hmb
  rw [← hmb] at hlk
  clear hsv hv hT hmb
  by_cases hb : tb = mb
  · have HTB := Lib.hid hb
    subst hb
    go_enter Try.func37, Try.ntmps37
    go_wp2_with (go_at_call 27; go_loud (refine (equal_any F G vA A vn vc nn cc _ _ w HSV.out.2.2.2 HSV.out.2.2.1 HV.out.2.2.2 HV.out.2.2.1).mono ?_); rintro e w2 ⟨rfl, rfl⟩)
    all_goals (go_ret; refine ⟨ret_bool ?_, rfl⟩; have := HMB.out; simp [sameK, this])
  · have HTB := Lib.hid hb
    go_enter Try.func37, Try.ntmps37
    cases tb <;> cases mb <;> first | exact absurd rfl HTB.out | skip
    all_goals
      go_wp2_with fail
      go_ret
      refine ⟨ret_bool ?_, rfl⟩
      have := HMB.out
      simp [sameK, ← this]
theorem fit_same {ms : List (List Ent)} {l : List Ent} {k : List UInt8} : fitE ms l k ↔ ∃ m ∈ ms, sameK m k (hasE l k).isSome ((hasE l k).getD []) := by
  unfold fitE sameK
  constructor
  · rintro ⟨m, hm, e⟩; exact ⟨m, hm, by rw [e], by rw [e]⟩
  · rintro ⟨m, hm, e1, e2⟩; exact ⟨m, hm, opt_same.2 ⟨e1.symm, e2⟩⟩
section
variable (F G : Nat → Prop) (base N : Nat) (A : Option Addr) (n c : Nat) (us : List Value) (ms : List (List Ent)) (k v : List UInt8) (tb : Bool) (B : Option Addr) (nn cc ps pb pv : Nat) (w : World) (hL : Lk w base N F (.slice A n c) us ms) (hn : n ≤ 4194304) (hk : k.length ≤ maxLen) (hv : SB w G (.slice B nn cc) v)
    (c1 : w.cell? ⟨ps, 0, none⟩ = some (.string (sOf k))) (c2 : w.cell? ⟨pb, 0, none⟩ = some (.bool tb)) (c3 : w.cell? ⟨pv, 0, none⟩ = some (.slice B nn cc))
include hL hn hk hv c1 c2 c3
set_option maxRecDepth 100000 in
set_option maxHeartbeats 4000000 in
theorem indexT_any :
    Calls Try.prog 55 #[.slice A n c, .func (.func 37) #[] #[.pointer (some ⟨ps, 0, none⟩), .pointer (some ⟨pb, 0, none⟩), .pointer (some ⟨pv, 0, none⟩)]] w fun e w' => (∃ z : Int, e = .returned (.int .i64 z) ∧ (0 ≤ z ↔ ∃ m ∈ ms, sameK m k tb v)) ∧ w = w' := by
  have HL := Lib.hid hL
  have HV := Lib.hid hv
  have HN : Hid (ms.length = n) := Lib.hid (by obtain ⟨A', c', e, _, _⟩ := own_val hL.own; injection e with e1 e2 e3; exact e2.symm)
  clear hL hv
  go_enter Try.func55, Try.ntmps55
  go_wp2
  go_loopg [8] n (fun g' iv wz => ∃ i : Nat, g' = n - i ∧ i ≤ n ∧ iv = .int .i64 i ∧ (∀ x ∈ ms.take i, ¬ sameK x k tb v) ∧ w = wz)
  case atStart => exact ⟨0, by omega, by omega, rfl, by simp, rfl⟩
  case round =>
    obtain ⟨i, hg, hi, rfl, hno, rfl⟩ := hrel
    have HG := Lib.hid hg
    have HNO := Lib.hid hno
    clear hg hno
    by_cases hlt : i < n
    · have hlt' : (i : Int) < (n : Int) := by omega
      obtain ⟨b, o, u, x, rfl, _, hx, ⟨mb, rfl, _, _, hT⟩, hc⟩ := RowG.get HL.out hlt
      have HX := Lib.hid hx
      have HT := Lib.hid hT
      obtain ⟨rb, hrb⟩ : ∃ rb, rb = decide (sameK x k tb v) := ⟨_, rfl⟩
      have HRB := Lib.hid hrb
      clear hx hT hrb
      cases rb with
      | true =>
        go_wp2_with (go_at_call 37; go_loud (refine (seenC_any F G mb N x k v tb B nn cc ps pb pv w HT.out hk HV.out c1 c2 c3).mono ?_); rintro e w2 ⟨rfl, rfl⟩; rw [← HRB.out])
        go_ret
        exact ⟨⟨(i : Int), rfl, fun _ => ⟨x, List.mem_of_getElem? HX.out, of_decide_eq_true HRB.out.symm⟩, fun _ => by omega⟩, rfl⟩
      | false =>
        go_wp2_with (go_at_call 37; go_loud (refine (seenC_any F G mb N x k v tb B nn cc ps pb pv w HT.out hk HV.out c1 c2 c3).mono ?_); rintro e w2 ⟨rfl, rfl⟩; rw [← HRB.out])
        go_roundg (n - (i + 1))
        case measure => have := HG.out; omega
        case rel =>
          refine ⟨i + 1, rfl, by omega, by go_num, fun x' hx' => ?_, rfl⟩
          rw [List.take_add_one, HX.out] at hx'
          rcases List.mem_append.1 hx' with h | h
          · exact HNO.out x' h
          · simp at h
            subst h
            exact of_decide_eq_false HRB.out.symm
    · have hin : i = n := by omega
      subst hin
      go_wp2
      go_ret
      refine ⟨⟨-1, rfl, fun h => (by omega), fun h => ?_⟩, rfl⟩
      obtain ⟨x, hx, hcl⟩ := h
      exact (HNO.out x (by rw [List.take_of_length_le (by have := HN.out; omega)]; exact hx) hcl).elim
set_option maxRecDepth 100000 in
theorem containsT_any :
    Calls Try.prog 36 #[.slice A n c, .func (.func 37) #[] #[.pointer (some ⟨ps, 0, none⟩), .pointer (some ⟨pb, 0, none⟩), .pointer (some ⟨pv, 0, none⟩)]] w fun e w' => (∃ rb : Bool, e = .returned (.bool rb) ∧ (rb = true ↔ ∃ m ∈ ms, sameK m k tb v)) ∧ w = w' := by
  have HH := Lib.hid (indexT_any F G base N A n c us ms k v tb B nn cc ps pb pv w hL hn hk hv c1 c2 c3)
  clear hL hv
  go_enter Try.func36, Try.ntmps36
  go_wp2_with (go_at_call 55; go_loud (refine HH.out.mono ?_); rintro e w2 ⟨⟨z, rfl, hz⟩, rfl⟩; have HZ := Lib.hid hz; clear hz)
  go_ret
  exact ⟨⟨_, rfl, by rw [← HZ.out]; simp⟩, rfl⟩
end
end Go.Proofs.Ytpbnngfiinihmaa

namespace Go.Proofs.Ytpbnngfiinihmaa
open Go.RowKit
open Go.Lib (compareBytes)
open Sf (Off)
noncomputable def r34C : Code := codeOr (Try.f16.body.bind (regionAt 34))
noncomputable def r35C : Code := codeOr (Try.f16.body.bind (regionAt 35))
set_option maxRecDepth 100000 in
set_option maxHeartbeats 4000000 in
theorem r34_any (kb ko kn kc mb mo mn mc i j en ec kkn kkc : Nat) (eA kkA : Option Addr) (m : List Ent) (k : List UInt8) (tb : Bool) (w : World) {u0 u1 u2 u3 u4 u5 u6 u7 u8 u9 u10 u11 u12 u14 u15 u16 u18 u19 u21 u22 u23 u24 u26 u27 u28 u29 u30 u31 u32 u33 u34 u35 u36 u37 u38 u39 u40 u41 u42 u43 u44 u45 u46 u47 u48 u49 u50 u51 u52 u53 u54 u55 u56 u57 u58 u59 u60 u61 u62 u63 u64 u65 u66 u67 u68 u69 u70 u71 u72 u73 u74 u75 u76 u77 u78 u79 u80 u81 u82 u83 u84 u85 u86 u87 u88 u89 u90 u91 u92 u93 u94 u95 u96 u97 u98 u99 u100 u101 u102 u103 u104 u105 u106 u107 u108 u109 u110 u111 u112 u113 u114 u115 u116 u117 u118 u119 u120 u121 u122 u123 u124 u125 u126 u127 u128 u129 u130 u131 u132 u133 u134 u135 u136 u137 u138 u139 u140 u141 u142 u143 u144 u145 u146 u147 u148 u149 u150 u151 u152 u153 u154 u155 u156 u157 u158 u159 u160 u161 u162 u163 u164 u165 u166 u167 u168 u169 u170 u171 u172 u173 u174 u175 u176 u177 u178 u179 u180 u181 u182 u183 u184 u185 u186 u187 u188 u189 u190 u191 u192 u193 u194 u195 u196 u197 u198 u199 u200 u201 u202 : Value} (Q : Exit → Act → World → Prop) (HQP : Hid (∀ c t (a : Act) w, Q (.panic c) ⟨t, a.defers⟩ w → Q (.panic c) a w))
    (hi1 : i < kn) (hj1 : j < mn) (hen : en ≤ 2097152) (HM : Hid (Ents w Any eA en m)) (HK : Hid (SB w Any (.slice kkA kkn kkc) k)) (HTB : Hid (tb = (hasE m k).isSome))
    (S0 : w.drew.cell? ⟨mb, mo + j, none⟩ = some (.slice eA en ec) ∧ w.drew.cell? ⟨kb, ko + i, none⟩ = some (.slice kkA kkn kkc))
    (hexit : ∀ (v176 v177 v178 v179 v180 v181 v182 v183 v184 v185 v186 v187 : Value) (A2 : Option Addr) (n2 c2 : Nat) (w' : World), SB w' Any (.slice A2 n2 c2) ((hasE m k).getD []) → Below w.heap.size w w' → Q .normal ⟨(u0 :: u1 :: u2 :: u3 :: u4 :: u5 :: u6 :: u7 :: u8 :: u9 :: u10 :: u11 :: u12 :: .slice (some ⟨kb, ko, none⟩) kn kc :: u14 :: u15 :: u16 :: .slice (some ⟨mb, mo, none⟩) mn mc :: u18 :: u19 :: .int .i64 i :: u21 :: u22 :: u23 :: u24 :: .int .i64 j :: .slice A2 n2 c2 :: .bool tb :: u28 :: u29 :: u30 :: u31 :: u32 :: u33 :: u34 :: u35 :: u36 :: u37 :: u38 :: u39 :: u40 :: u41 :: u42 :: u43 :: u44 :: u45 :: u46 :: u47 :: u48 :: u49 :: u50 :: u51 :: u52 :: u53 :: u54 :: u55 :: u56 :: u57 :: u58 :: u59 :: u60 :: u61 :: u62 :: u63 :: u64 :: u65 :: u66 :: u67 :: u68 :: u69 :: u70 :: u71 :: u72 :: u73 :: u74 :: u75 :: u76 :: u77 :: u78 :: u79 :: u80 :: u81 :: u82 :: u83 :: u84 :: u85 :: u86 :: u87 :: u88 :: u89 :: u90 :: u91 :: u92 :: u93 :: u94 :: u95 :: u96 :: u97 :: u98 :: u99 :: u100 :: u101 :: u102 :: u103 :: u104 :: u105 :: u106 :: u107 :: u108 :: u109 :: u110 :: u111 :: u112 :: u113 :: u114 :: u115 :: u116 :: u117 :: u118 :: u119 :: u120 :: u121 :: u122 :: u123 :: u124 :: u125 :: u126 :: u127 :: u128 :: u129 :: u130 :: u131 :: u132 :: u133 :: u134 :: u135 :: u136 :: u137 :: u138 :: u139 :: u140 :: u141 :: u142 :: u143 :: u144 :: u145 :: u146 :: u147 :: u148 :: u149 :: u150 :: u151 :: u152 :: u153 :: u154 :: u155 :: u156 :: u157 :: u158 :: u159 :: u160 :: u161 :: u162 :: u163 :: u164 :: u165 :: u166 :: u167 :: u168 :: u169 :: u170 :: u171 :: u172 :: u173 :: u174 :: u175 :: v176 :: v177 :: v178 :: v179 :: v180 :: v181 :: v182 :: v183 :: v184 :: v185 :: v186 :: v187 :: u188 :: u189 :: u190 :: u191 :: u192 :: u193 :: u194 :: u195 :: u196 :: u197 :: u198 :: u199 :: u200 :: u201 :: u202 :: []).toArray, []⟩ w') :
    Code.wp Try.prog r34C Q ⟨(u0 :: u1 :: u2 :: u3 :: u4 :: u5 :: u6 :: u7 :: u8 :: u9 :: u10 :: u11 :: u12 :: .slice (some ⟨kb, ko, none⟩) kn kc :: u14 :: u15 :: u16 :: .slice (some ⟨mb, mo, none⟩) mn mc :: u18 :: u19 :: .int .i64 i :: u21 :: u22 :: u23 :: u24 :: .int .i64 j :: u26 :: u27 :: u28 :: u29 :: u30 :: u31 :: u32 :: u33 :: u34 :: u35 :: u36 :: u37 :: u38 :: u39 :: u40 :: u41 :: u42 :: u43 :: u44 :: u45 :: u46 :: u47 :: u48 :: u49 :: u50 :: u51 :: u52 :: u53 :: u54 :: u55 :: u56 :: u57 :: u58 :: u59 :: u60 :: u61 :: u62 :: u63 :: u64 :: u65 :: u66 :: u67 :: u68 :: u69 :: u70 :: u71 :: u72 :: u73 :: u74 :: u75 :: u76 :: u77 :: u78 :: u79 :: u80 :: u81 :: u82 :: u83 :: u84 :: u85 :: u86 :: u87 :: u88 :: u89 :: u90 :: u91 :: u92 :: u93 :: u94 :: u95 :: u96 :: u97 :: u98 :: u99 :: u100 :: u101 :: u102 :: u103 :: u104 :: u105 :: u106 :: u107 :: u108 :: u109 :: u110 :: u111 :: u112 :: u113 :: u114 :: u115 :: u116 :: u117 :: u118 :: u119 :: u120 :: u121 :: u122 :: u123 :: u124 :: u125 :: u126 :: u127 :: u128 :: u129 :: u130 :: u131 :: u132 :: u133 :: u134 :: u135 :: u136 :: u137 :: u138 :: u139 :: u140 :: u141 :: u142 :: u143 :: u144 :: u145 :: u146 :: u147 :: u148 :: u149 :: u150 :: u151 :: u152 :: u153 :: u154 :: u155 :: u156 :: u157 :: u158 :: u159 :: u160 :: u161 :: u162 :: u163 :: u164 :: u165 :: u166 :: u167 :: u168 :: u169 :: u170 :: u171 :: u172 :: u173 :: u174 :: u175 :: u176 :: u177 :: u178 :: u179 :: u180 :: u181 :: u182 :: u183 :: u184 :: u185 :: u186 :: u187 :: u188 :: u189 :: u190 :: u191 :: u192 :: u193 :: u194 :: u195 :: u196 :: u197 :: u198 :: u199 :: u200 :: u201 :: u202 :: []).toArray, []⟩ w := by
  have HEX := Lib.hid hexit
  have hd : Below w.heap.size w w.drew := (Below.refl _ _).drew
  have HD := Lib.hid hd
  have S0' := S0
  clear hexit hd
  conv => arg 2; whnf
  refine wp_region_V (fun w' => w'.cell? ⟨mb, mo + j, none⟩ = some (.slice eA en ec) ∧ w'.cell? ⟨kb, ko + i, none⟩ = some (.slice kkA kkn kkc)) (by kernel_rfl) ?_
  refine wpV_take (i := 0) (v := ?_) rfl (by kernel_rfl) (by kernel_rfl) (by kernel_rfl) (by first | exact fun _ _ _ h => h | exact fun c a w h => HQP.out c _ a w h) S0 (Or.inl ⟨by kernel_rfl, ?_⟩) ?_
  rotate_left
  · intro w hSw
    go_simp
    try with_reducible rfl
  try simp only [Act.put, List.setIfInBounds_toArray, List.set_cons_zero, List.set_cons_succ]
  refine wpV_take (i := 1) (v := ?_) rfl (by kernel_rfl) (by kernel_rfl) (by kernel_rfl) (by first | exact fun _ _ _ h => h | exact fun c a w h => HQP.out c _ a w h) S0 (Or.inl ⟨by kernel_rfl, ?_⟩) ?_
  rotate_left
  · intro w hSw
    go_simp
    try with_reducible rfl
  try simp only [Act.put, List.setIfInBounds_toArray, List.set_cons_zero, List.set_cons_succ]
  refine wpV_take (i := 2) (v := ?_) rfl (by kernel_rfl) (by kernel_rfl) (by kernel_rfl) (by first | exact fun _ _ _ h => h | exact fun c a w h => HQP.out c _ a w h) S0 (Or.inl ⟨by kernel_rfl, ?_⟩) ?_
  rotate_left
  · intro w hSw
    go_simp
    try with_reducible rfl
  try simp only [Act.put, List.setIfInBounds_toArray, List.set_cons_zero, List.set_cons_succ]
  refine wpV_take (i := 4) (v := ?_) rfl (by kernel_rfl) (by kernel_rfl) (by kernel_rfl) (by first | exact fun _ _ _ h => h | exact fun c a w h => HQP.out c _ a w h) S0 (Or.inl ⟨by kernel_rfl, ?_⟩) ?_
  rotate_left
  · intro w hSw
    go_simp
    try with_reducible rfl
  try simp only [Act.put, List.setIfInBounds_toArray, List.set_cons_zero, List.set_cons_succ]
  refine wpV_take (i := 5) (v := ?_) rfl (by kernel_rfl) (by kernel_rfl) (by kernel_rfl) (by first | exact fun _ _ _ h => h | exact fun c a w h => HQP.out c _ a w h) S0 (Or.inl ⟨by kernel_rfl, ?_⟩) ?_
  rotate_left
  · intro w hSw
    go_simp
    try with_reducible rfl
  try simp only [Act.put, List.setIfInBounds_toArray, List.set_cons_zero, List.set_cons_succ]
  refine wpV_take (i := 6) (v := ?_) rfl (by kernel_rfl) (by kernel_rfl) (by kernel_rfl) (by first | exact fun _ _ _ h => h | exact fun c a w h => HQP.out c _ a w h) S0 (Or.inl ⟨by kernel_rfl, ?_⟩) ?_
  rotate_left
  · intro w hSw
    go_simp
    try with_reducible rfl
  try simp only [Act.put, List.setIfInBounds_toArray, List.set_cons_zero, List.set_cons_succ]
  refine wpV_take (i := 3) (v := ?_) rfl (by kernel_rfl) (by kernel_rfl) (by kernel_rfl) (by first | exact fun _ _ _ h => h | exact fun c a w h => HQP.out c _ a w h) S0 (Or.inl ⟨by kernel_rfl, ?_⟩) ?_
  rotate_left
  · intro w hSw
    obtain ⟨s0, s1⟩ := hSw
    go_simp
    try with_reducible rfl
  try simp only [Act.put, List.setIfInBounds_toArray, List.set_cons_zero, List.set_cons_succ]
  refine wpV_take (i := 7) (v := ?_) rfl (by kernel_rfl) (by kernel_rfl) (by kernel_rfl) (by first | exact fun _ _ _ h => h | exact fun c a w h => HQP.out c _ a w h) S0 (Or.inl ⟨by kernel_rfl, ?_⟩) ?_
  rotate_left
  · intro w hSw
    obtain ⟨s0, s1⟩ := hSw
    go_simp
    try with_reducible rfl
  try simp only [Act.put, List.setIfInBounds_toArray, List.set_cons_zero, List.set_cons_succ]
  refine wpV_one (i := 8) (by kernel_rfl) rfl (fun K hK => ?_)
  go_simp
  go_loud (refine (rhas_any eA kkA en ec kkn kkc m k _ (HM.out.below HD.out) (by omega) (HK.out.below HD.out)).mono ?_); rintro e w2 ⟨A2, n2, c2, rfl, hs2, hb2⟩; rw [← HTB.out]; have HS2 := Lib.hid hs2; have HB2 := Lib.hid hb2; clear hs2 hb2
  refine hK.out _ _ ⟨bkeep HB2.out S0'.1, bkeep HB2.out S0'.2⟩ ?_
  clear hK K
  try simp only [Act.put, List.setIfInBounds_toArray, List.set_cons_zero, List.set_cons_succ]
  refine wpV_take (i := 9) (v := ?_) rfl (by kernel_rfl) (by kernel_rfl) (by kernel_rfl) (by first | exact fun _ _ _ h => h | exact fun c a w h => HQP.out c _ a w h) ⟨bkeep HB2.out S0'.1, bkeep HB2.out S0'.2⟩ (Or.inl ⟨by kernel_rfl, ?_⟩) ?_
  rotate_left
  · intro w hSw
    go_simp
    try with_reducible rfl
  try simp only [Act.put, List.setIfInBounds_toArray, List.set_cons_zero, List.set_cons_succ]
  refine wpV_take (i := 10) (v := ?_) rfl (by kernel_rfl) (by kernel_rfl) (by kernel_rfl) (by first | exact fun _ _ _ h => h | exact fun c a w h => HQP.out c _ a w h) ⟨bkeep HB2.out S0'.1, bkeep HB2.out S0'.2⟩ (Or.inl ⟨by kernel_rfl, ?_⟩) ?_
  rotate_left
  · intro w hSw
    go_simp
    try with_reducible rfl
  try simp only [Act.put, List.setIfInBounds_toArray, List.set_cons_zero, List.set_cons_succ]
  refine wpV_take (i := 11) (v := ?_) rfl (by kernel_rfl) (by kernel_rfl) (by kernel_rfl) (by first | exact fun _ _ _ h => h | exact fun c a w h => HQP.out c _ a w h) ⟨bkeep HB2.out S0'.1, bkeep HB2.out S0'.2⟩ (Or.inl ⟨by kernel_rfl, ?_⟩) ?_
  rotate_left
  · intro w hSw
    go_simp
    try with_reducible rfl
  try simp only [Act.put, List.setIfInBounds_toArray, List.set_cons_zero, List.set_cons_succ]
  refine wpV_take (i := 12) (v := ?_) rfl (by kernel_rfl) (by kernel_rfl) (by kernel_rfl) (by first | exact fun _ _ _ h => h | exact fun c a w h => HQP.out c _ a w h) ⟨bkeep HB2.out S0'.1, bkeep HB2.out S0'.2⟩ (Or.inl ⟨by kernel_rfl, ?_⟩) ?_
  rotate_left
  · intro w hSw
    go_simp
    try with_reducible rfl
  try simp only [Act.put, List.setIfInBounds_toArray, List.set_cons_zero, List.set_cons_succ]
  refine wpV_take (i := 13) (v := ?_) rfl (by kernel_rfl) (by kernel_rfl) (by kernel_rfl) (by first | exact fun _ _ _ h => h | exact fun c a w h => HQP.out c _ a w h) ⟨bkeep HB2.out S0'.1, bkeep HB2.out S0'.2⟩ (Or.inl ⟨by kernel_rfl, ?_⟩) ?_
  rotate_left
  · intro w hSw
    go_simp
    try with_reducible rfl
  try simp only [Act.put, List.setIfInBounds_toArray, List.set_cons_zero, List.set_cons_succ]
  refine wpV_done (by kernel_rfl) ?_ _
  go_simp
  exact HEX.out _ _ _ _ _ _ _ _ _ _ _ _ A2 n2 c2 _ HS2.out (HD.out.trans HB2.out)
set_option maxRecDepth 100000 in
set_option maxHeartbeats 4000000 in
theorem r35_any (vA A2 : Option Addr) (vn vc n2 c2 : Nat) (u v : List UInt8) (vb ac tb : Bool) (w : World) {u0 u1 u2 u3 u4 u5 u6 u7 u8 u9 u10 u11 u12 u13 u14 u15 u16 u17 u18 u19 u20 u21 u25 u28 u29 u30 u31 u32 u33 u34 u35 u36 u37 u38 u39 u40 u41 u42 u43 u44 u45 u46 u47 u48 u49 u50 u51 u52 u53 u54 u55 u56 u57 u58 u59 u60 u61 u62 u63 u64 u65 u66 u67 u68 u69 u70 u71 u72 u73 u74 u75 u76 u77 u78 u79 u80 u81 u82 u83 u84 u85 u86 u87 u88 u89 u90 u91 u92 u93 u94 u95 u96 u97 u98 u99 u100 u101 u102 u103 u104 u105 u106 u107 u108 u109 u110 u111 u112 u113 u114 u115 u116 u117 u118 u119 u120 u121 u122 u123 u124 u125 u126 u127 u128 u129 u130 u131 u132 u133 u134 u135 u136 u137 u138 u139 u140 u141 u142 u143 u144 u145 u146 u147 u148 u149 u150 u151 u152 u153 u154 u155 u156 u157 u158 u159 u160 u161 u162 u163 u164 u165 u166 u167 u168 u169 u170 u171 u172 u173 u174 u175 u176 u177 u178 u179 u180 u181 u182 u183 u184 u185 u186 u187 u188 u189 u190 u191 u192 u193 u194 u195 u196 u197 u198 u199 u200 u201 u202 : Value} (Q : Exit → Act → World → Prop)
    (HV : Hid (SB w Any (.slice vA vn vc) v)) (HU : Hid (SB w Any (.slice A2 n2 c2) u))
    (hexit : ∀ (v188 v189 v190 v191 v192 v193 v194 v195 v196 v197 v198 v199 v200 : Value) (rb : Bool), (rb = true ↔ (ac = true ∨ (vb = tb ∧ u = v))) → Q .normal ⟨(u0 :: u1 :: u2 :: u3 :: u4 :: u5 :: u6 :: u7 :: u8 :: u9 :: u10 :: u11 :: u12 :: u13 :: u14 :: u15 :: u16 :: u17 :: u18 :: u19 :: u20 :: u21 :: .slice vA vn vc :: .bool vb :: .bool rb :: u25 :: .slice A2 n2 c2 :: .bool tb :: u28 :: u29 :: u30 :: u31 :: u32 :: u33 :: u34 :: u35 :: u36 :: u37 :: u38 :: u39 :: u40 :: u41 :: u42 :: u43 :: u44 :: u45 :: u46 :: u47 :: u48 :: u49 :: u50 :: u51 :: u52 :: u53 :: u54 :: u55 :: u56 :: u57 :: u58 :: u59 :: u60 :: u61 :: u62 :: u63 :: u64 :: u65 :: u66 :: u67 :: u68 :: u69 :: u70 :: u71 :: u72 :: u73 :: u74 :: u75 :: u76 :: u77 :: u78 :: u79 :: u80 :: u81 :: u82 :: u83 :: u84 :: u85 :: u86 :: u87 :: u88 :: u89 :: u90 :: u91 :: u92 :: u93 :: u94 :: u95 :: u96 :: u97 :: u98 :: u99 :: u100 :: u101 :: u102 :: u103 :: u104 :: u105 :: u106 :: u107 :: u108 :: u109 :: u110 :: u111 :: u112 :: u113 :: u114 :: u115 :: u116 :: u117 :: u118 :: u119 :: u120 :: u121 :: u122 :: u123 :: u124 :: u125 :: u126 :: u127 :: u128 :: u129 :: u130 :: u131 :: u132 :: u133 :: u134 :: u135 :: u136 :: u137 :: u138 :: u139 :: u140 :: u141 :: u142 :: u143 :: u144 :: u145 :: u146 :: u147 :: u148 :: u149 :: u150 :: u151 :: u152 :: u153 :: u154 :: u155 :: u156 :: u157 :: u158 :: u159 :: u160 :: u161 :: u162 :: u163 :: u164 :: u165 :: u166 :: u167 :: u168 :: u169 :: u170 :: u171 :: u172 :: u173 :: u174 :: u175 :: u176 :: u177 :: u178 :: u179 :: u180 :: u181 :: u182 :: u183 :: u184 :: u185 :: u186 :: u187 :: v188 :: v189 :: v190 :: v191 :: v192 :: v193 :: v194 :: v195 :: v196 :: v197 :: v198 :: v199 :: v200 :: u201 :: u202 :: []).toArray, []⟩ w) :
    Code.wp Try.prog r35C Q ⟨(u0 :: u1 :: u2 :: u3 :: u4 :: u5 :: u6 :: u7 :: u8 :: u9 :: u10 :: u11 :: u12 :: u13 :: u14 :: u15 :: u16 :: u17 :: u18 :: u19 :: u20 :: u21 :: .slice vA vn vc :: .bool vb :: .bool ac :: u25 :: .slice A2 n2 c2 :: .bool tb :: u28 :: u29 :: u30 :: u31 :: u32 :: u33 :: u34 :: u35 :: u36 :: u37 :: u38 :: u39 :: u40 :: u41 :: u42 :: u43 :: u44 :: u45 :: u46 :: u47 :: u48 :: u49 :: u50 :: u51 :: u52 :: u53 :: u54 :: u55 :: u56 :: u57 :: u58 :: u59 :: u60 :: u61 :: u62 :: u63 :: u64 :: u65 :: u66 :: u67 :: u68 :: u69 :: u70 :: u71 :: u72 :: u73 :: u74 :: u75 :: u76 :: u77 :: u78 :: u79 :: u80 :: u81 :: u82 :: u83 :: u84 :: u85 :: u86 :: u87 :: u88 :: u89 :: u90 :: u91 :: u92 :: u93 :: u94 :: u95 :: u96 :: u97 :: u98 :: u99 :: u100 :: u101 :: u102 :: u103 :: u104 :: u105 :: u106 :: u107 :: u108 :: u109 :: u110 :: u111 :: u112 :: u113 :: u114 :: u115 :: u116 :: u117 :: u118 :: u119 :: u120 :: u121 :: u122 :: u123 :: u124 :: u125 :: u126 :: u127 :: u128 :: u129 :: u130 :: u131 :: u132 :: u133 :: u134 :: u135 :: u136 :: u137 :: u138 :: u139 :: u140 :: u141 :: u142 :: u143 :: u144 :: u145 :: u146 :: u147 :: u148 :: u149 :: u150 :: u151 :: u152 :: u153 :: u154 :: u155 :: u156 :: u157 :: u158 :: u159 :: u160 :: u161 :: u162 :: u163 :: u164 :: u165 :: u166 :: u167 :: u168 :: u169 :: u170 :: u171 :: u172 :: u173 :: u174 :: u175 :: u176 :: u177 :: u178 :: u179 :: u180 :: u181 :: u182 :: u183 :: u184 :: u185 :: u186 :: u187 :: u188 :: u189 :: u190 :: u191 :: u192 :: u193 :: u194 :: u195 :: u196 :: u197 :: u198 :: u199 :: u200 :: u201 :: u202 :: []).toArray, []⟩ w := by
  have HEX := Lib.hid hexit
  have q1 := conv_any w _ vA vn vc v HV.out.parts.2.2.2 HV.out.parts.2.2.1
  have q2 := conv_any w _ A2 n2 c2 u HU.out.parts.2.2.2 HU.out.parts.2.2.1
  have q3 : ((sOf u).toList == (sOf v).toList) = decide (u = v) := sOf_eq
  clear hexit
  conv => arg 2; whnf
  cases ac <;> cases vb <;> cases tb
  all_goals
    go_wp2
    refine HEX.out _ _ _ _ _ _ _ _ _ _ _ _ _ _ ?_
    clear HEX q1 q2
    simp_all
noncomputable def rb8C : Code := codeOr (Try.f16.body.bind (blockIn 8))
set_option maxRecDepth 100000 in
set_option maxHeartbeats 4000000 in
theorem rb8_in (base kn kc mn mc i vn vc : Nat) (kA mA vA : Option Addr) (us ums : List Value) (ks : List (List UInt8)) (ms : List (List Ent)) (k v : List UInt8) (vb : Bool) (w : World) {u0 u1 u2 u3 u4 u5 u6 u7 u8 u9 u10 u11 u12 u14 u15 u16 u18 u19 u21 u26 u27 u28 u29 u30 u31 u32 u33 u34 u35 u36 u37 u38 u39 u40 u41 u42 u43 u44 u45 u46 u47 u48 u49 u50 u51 u52 u53 u54 u55 u56 u57 u58 u59 u60 u61 u62 u63 u64 u65 u66 u67 u68 u69 u70 u71 u72 u73 u74 u75 u76 u77 u78 u79 u80 u81 u82 u83 u84 u85 u86 u87 u88 u89 u90 u91 u92 u93 u94 u95 u96 u97 u98 u99 u100 u101 u102 u103 u104 u105 u106 u107 u108 u109 u110 u111 u112 u113 u114 u115 u116 u117 u118 u119 u120 u121 u122 u123 u124 u125 u126 u127 u128 u129 u130 u131 u132 u133 u134 u135 u136 u137 u138 u139 u140 u141 u142 u143 u144 u145 u146 u147 u148 u149 u150 u151 u152 u153 u154 u155 u156 u157 u158 u159 u160 u161 u162 u163 u164 u165 u166 u167 u168 u169 u170 u171 u172 u173 u174 u175 u176 u177 u178 u179 u180 u181 u182 u183 u184 u185 u186 u187 u188 u189 u190 u191 u192 u193 u194 u195 u196 u197 u198 u199 u200 u201 u202 : Value} (Q : Exit → Act → World → Prop) (HQP : Hid (∀ c t (a : Act) w, Q (.panic c) ⟨t, a.defers⟩ w → Q (.panic c) a w))
    (hi1 : i < kn) (hkn : kn ≤ 8388608) (hmn : mn ≤ 8388608) (HK : Hid (Kt w base (.slice kA kn kc) us ks)) (hkk : ks[i]? = some k) (HM : Hid (Mt w base (.slice kA kn kc) (.slice mA mn mc) ums ms)) (HV : Hid (SB w Any (.slice vA vn vc) v))
    (hexit : ∀ (v25 v26 v27 v170 v171 v172 v173 v174 v175 v176 v177 v178 v179 v180 v181 v182 v183 v184 v185 v186 v187 v188 v189 v190 v191 v192 v193 v194 v195 v196 v197 v198 v199 v200 : Value) (rb : Bool) (w' : World), (rb = true ↔ ∃ m ∈ ms, sameK m k vb v) → Below w.heap.size w w' → Q (.exit 8) ⟨(u0 :: u1 :: u2 :: u3 :: u4 :: u5 :: u6 :: u7 :: u8 :: u9 :: u10 :: u11 :: u12 :: .slice kA kn kc :: u14 :: u15 :: u16 :: .slice mA mn mc :: u18 :: u19 :: .int .i64 i :: u21 :: .slice vA vn vc :: .bool vb :: .bool rb :: v25 :: v26 :: v27 :: u28 :: u29 :: u30 :: u31 :: u32 :: u33 :: u34 :: u35 :: u36 :: u37 :: u38 :: u39 :: u40 :: u41 :: u42 :: u43 :: u44 :: u45 :: u46 :: u47 :: u48 :: u49 :: u50 :: u51 :: u52 :: u53 :: u54 :: u55 :: u56 :: u57 :: u58 :: u59 :: u60 :: u61 :: u62 :: u63 :: u64 :: u65 :: u66 :: u67 :: u68 :: u69 :: u70 :: u71 :: u72 :: u73 :: u74 :: u75 :: u76 :: u77 :: u78 :: u79 :: u80 :: u81 :: u82 :: u83 :: u84 :: u85 :: u86 :: u87 :: u88 :: u89 :: u90 :: u91 :: u92 :: u93 :: u94 :: u95 :: u96 :: u97 :: u98 :: u99 :: u100 :: u101 :: u102 :: u103 :: u104 :: u105 :: u106 :: u107 :: u108 :: u109 :: u110 :: u111 :: u112 :: u113 :: u114 :: u115 :: u116 :: u117 :: u118 :: u119 :: u120 :: u121 :: u122 :: u123 :: u124 :: u125 :: u126 :: u127 :: u128 :: u129 :: u130 :: u131 :: u132 :: u133 :: u134 :: u135 :: u136 :: u137 :: u138 :: u139 :: u140 :: u141 :: u142 :: u143 :: u144 :: u145 :: u146 :: u147 :: u148 :: u149 :: u150 :: u151 :: u152 :: u153 :: u154 :: u155 :: u156 :: u157 :: u158 :: u159 :: u160 :: u161 :: u162 :: u163 :: u164 :: u165 :: u166 :: u167 :: u168 :: u169 :: v170 :: v171 :: v172 :: v173 :: v174 :: v175 :: v176 :: v177 :: v178 :: v179 :: v180 :: v181 :: v182 :: v183 :: v184 :: v185 :: v186 :: v187 :: v188 :: v189 :: v190 :: v191 :: v192 :: v193 :: v194 :: v195 :: v196 :: v197 :: v198 :: v199 :: v200 :: u201 :: u202 :: []).toArray, []⟩ w') :
    Code.wp Try.prog rb8C Q ⟨(u0 :: u1 :: u2 :: u3 :: u4 :: u5 :: u6 :: u7 :: u8 :: u9 :: u10 :: u11 :: u12 :: .slice kA kn kc :: u14 :: u15 :: u16 :: .slice mA mn mc :: u18 :: u19 :: .int .i64 i :: u21 :: .slice vA vn vc :: .bool vb :: .bool false :: .int .i64 0 :: u26 :: u27 :: u28 :: u29 :: u30 :: u31 :: u32 :: u33 :: u34 :: u35 :: u36 :: u37 :: u38 :: u39 :: u40 :: u41 :: u42 :: u43 :: u44 :: u45 :: u46 :: u47 :: u48 :: u49 :: u50 :: u51 :: u52 :: u53 :: u54 :: u55 :: u56 :: u57 :: u58 :: u59 :: u60 :: u61 :: u62 :: u63 :: u64 :: u65 :: u66 :: u67 :: u68 :: u69 :: u70 :: u71 :: u72 :: u73 :: u74 :: u75 :: u76 :: u77 :: u78 :: u79 :: u80 :: u81 :: u82 :: u83 :: u84 :: u85 :: u86 :: u87 :: u88 :: u89 :: u90 :: u91 :: u92 :: u93 :: u94 :: u95 :: u96 :: u97 :: u98 :: u99 :: u100 :: u101 :: u102 :: u103 :: u104 :: u105 :: u106 :: u107 :: u108 :: u109 :: u110 :: u111 :: u112 :: u113 :: u114 :: u115 :: u116 :: u117 :: u118 :: u119 :: u120 :: u121 :: u122 :: u123 :: u124 :: u125 :: u126 :: u127 :: u128 :: u129 :: u130 :: u131 :: u132 :: u133 :: u134 :: u135 :: u136 :: u137 :: u138 :: u139 :: u140 :: u141 :: u142 :: u143 :: u144 :: u145 :: u146 :: u147 :: u148 :: u149 :: u150 :: u151 :: u152 :: u153 :: u154 :: u155 :: u156 :: u157 :: u158 :: u159 :: u160 :: u161 :: u162 :: u163 :: u164 :: u165 :: u166 :: u167 :: u168 :: u169 :: u170 :: u171 :: u172 :: u173 :: u174 :: u175 :: u176 :: u177 :: u178 :: u179 :: u180 :: u181 :: u182 :: u183 :: u184 :: u185 :: u186 :: u187 :: u188 :: u189 :: u190 :: u191 :: u192 :: u193 :: u194 :: u195 :: u196 :: u197 :: u198 :: u199 :: u200 :: u201 :: u202 :: []).toArray, []⟩ w := by
  have HEX := Lib.hid hexit
  have HKK := Lib.hid hkk
  have HN : Hid (ms.length = mn) := Lib.hid (by obtain ⟨A', c', e, _, _⟩ := own_val HM.out.own; injection e with e1 e2 e3; exact e2.symm)
  obtain ⟨kb, ko, ku, kx, hka, hkb, hkx, hks, hkc⟩ := RowG.get HK.out hi1
  rw [hkk] at hkx
  injection hkx with hkx
  subst hkx
  subst hka
  obtain ⟨kkA, kkn, kkc, rfl, _⟩ := id hks
  have HKS : Hid (SB w Any (.slice kkA kkn kkc) k) := Lib.hid (hks.weak (fun _ _ => trivial))
  have HKC := Lib.hid hkc
  clear hexit hkk hks hkc
  conv => arg 2; whnf
  go_loopg [25, 24] mn (fun g' iv bv wz => ∃ (j : Nat) (rb : Bool), g' = mn - j ∧ j ≤ mn ∧ iv = .int .i64 j ∧ bv = .bool rb ∧ (rb = true ↔ ∃ m ∈ ms.take j, sameK m k vb v) ∧ Below w.heap.size w wz)
  case atStart => exact ⟨0, false, by omega, by omega, rfl, rfl, by simp, Below.refl _ _⟩
  case round =>
    obtain ⟨j, rb, hg, hj, rfl, rfl, hrb, hb⟩ := hrel
    have HG := Lib.hid hg
    have HRB := Lib.hid hrb
    have HB := Lib.hid hb
    clear hg hrb hb
    by_cases hlt : j < mn
    · have hlt' : (j : Int) < (mn : Int) := by omega
      obtain ⟨mb, mo, mu, m, rfl, hmb, hm, ⟨eA, en, ec, rfl, hen, hE⟩, hmc⟩ := RowG.get HM.out hlt
      have HMI := Lib.hid hm
      have HE1 : Hid (Ents wr Any eA en m) := Lib.hid ((hE.below HB.out).weak (fun _ _ => trivial))
      have HKS1 := Lib.hid (HKS.out.below HB.out)
      have HV1 := Lib.hid (HV.out.below HB.out)
      have z1 := Lib.hid (bkeep HB.out hmc)
      have z2 := Lib.hid (bkeep HB.out HKC.out)
      obtain ⟨tb, htb⟩ : ∃ tb, tb = (hasE m k).isSome := ⟨_, rfl⟩
      have HTB := Lib.hid htb
      clear hm hE hmc htb
      go_upto_region 34 with fail
      refine r34_any kb ko kn kc mb mo mn mc i j en ec kkn kkc eA kkA m k tb wr _ (by exact Lib.hid (fun c t a w h => HQP.out c t a w h)) hi1 hlt hen HE1 HKS1 HTB ⟨z1.out, z2.out⟩ ?_
      intro v176 v177 v178 v179 v180 v181 v182 v183 v184 v185 v186 v187 A2 n2 c2 w2 hs2 hb2
      have HS2 := Lib.hid hs2
      have HB2 := Lib.hid (HB.out.trans (hb2.mono HB.out.size))
      have HV2 := Lib.hid (HV1.out.below hb2)
      clear hs2 hb2
      go_upto_region 35 with fail
      refine r35_any vA A2 vn vc n2 c2 ((hasE m k).getD []) v vb rb tb w2 _ HV2 HS2 ?_
      intro v188 v189 v190 v191 v192 v193 v194 v195 v196 v197 v198 v199 v200 rb2 hrb2
      have HR2 := Lib.hid hrb2
      clear hrb2
      go_wp2
      go_roundg (mn - (j + 1))
      case measure => have := HG.out; omega
      case rel =>
        refine ⟨j + 1, rb2, rfl, by omega, by go_num, rfl, ?_, HB2.out⟩
        rw [HR2.out, HRB.out, List.take_add_one, HMI.out, HTB.out]
        constructor
        · rintro (⟨x, hx, h⟩ | ⟨h1, h2⟩)
          · exact ⟨x, List.mem_append.2 (.inl hx), h⟩
          · exact ⟨m, List.mem_append.2 (.inr (by simp)), h1.symm, h2⟩
        · rintro ⟨x, hx, h⟩
          rcases List.mem_append.1 hx with hx | hx
          · exact .inl ⟨x, hx, h⟩
          · simp at hx; subst hx; exact .inr ⟨h.1.symm, h.2⟩
    · have hin : j = mn := by omega
      subst hin
      go_wp2
      have h1 := HRB.out
      rw [take_all HN.out.symm] at h1
      exact HEX.out _ _ _ _ _ _ _ _ _ _ _ _ _ _ _ _ _ _ _ _ _ _ _ _ _ _ _ _ _ _ _ _ _ _ rb _ h1 HB.out
end Go.Proofs.Ytpbnngfiinihmaa

namespace Go.Proofs.Ytpbnngfiinihmaa
open Go.RowKit
open Go.Lib (compareBytes)
open Sf (Off)
noncomputable def rb6C : Code := codeOr (Try.f16.body.bind (blockIn 6))
set_option maxRecDepth 100000 in
set_option maxHeartbeats 8000000 in
theorem rb6_in (base kn kc mn mc ln lc an ac hn hc : Nat) (kA mA lA aA hA : Option Addr) (us ums : List Value) (ks : List (List UInt8)) (ms : List (List Ent)) (l : List Ent) (lo hi : List UInt8) (w : World) {u0 u4 u5 u6 u7 u8 u9 u10 u11 u12 u14 u15 u16 u18 u19 u21 u22 u23 u24 u25 u26 u27 u28 u29 u30 u31 u32 u33 u34 u35 u36 u37 u38 u39 u40 u41 u42 u43 u44 u45 u46 u47 u48 u49 u50 u51 u52 u53 u54 u55 u56 u57 u58 u59 u60 u61 u62 u63 u64 u65 u66 u67 u68 u69 u70 u71 u72 u73 u74 u75 u76 u77 u78 u79 u80 u81 u82 u83 u84 u85 u86 u87 u88 u89 u90 u91 u92 u93 u94 u95 u96 u97 u98 u99 u100 u101 u102 u103 u104 u105 u106 u107 u108 u109 u110 u111 u112 u113 u114 u115 u116 u117 u118 u119 u120 u121 u122 u123 u124 u125 u126 u127 u128 u129 u130 u131 u132 u133 u134 u135 u136 u137 u138 u139 u140 u141 u142 u143 u144 u145 u146 u147 u148 u149 u150 u151 u152 u153 u154 u155 u156 u157 u158 u159 u160 u161 u162 u163 u164 u165 u166 u167 u168 u169 u170 u171 u172 u173 u174 u175 u176 u177 u178 u179 u180 u181 u182 u183 u184 u185 u186 u187 u188 u189 u190 u191 u192 u193 u194 u195 u196 u197 u198 u199 u200 u201 u202 : Value} (Q : Exit → Act → World → Prop) (HQP : Hid (∀ c t (a : Act) w, Q (.panic c) ⟨t, a.defers⟩ w → Q (.panic c) a w))
    (hkn : kn ≤ 8388608) (hmn : mn ≤ 8388608) (hln : ln ≤ 1048576) (han : an ≤ 1152921504606) (hhn : hn ≤ 1152921504606) (HKL : Hid (∀ k ∈ ks, k.length ≤ 1152921504606)) (HK : Hid (Kt w base (.slice kA kn kc) us ks)) (HM : Hid (Mt w base (.slice kA kn kc) (.slice mA mn mc) ums ms))
    (HE : Hid (Ents w Any lA ln l)) (HL : Hid (SB w Any (.slice aA an ac) lo)) (HH : Hid (SB w Any (.slice hA hn hc) hi))
    (hexit : ∀ (v12 v20 v21 v22 v23 v24 v25 v26 v27 v146 v147 v148 v149 v150 v151 v152 v153 v154 v155 v156 v157 v158 v159 v160 v161 v162 v163 v164 v165 v166 v167 v168 v169 v170 v171 v172 v173 v174 v175 v176 v177 v178 v179 v180 v181 v182 v183 v184 v185 v186 v187 v188 v189 v190 v191 v192 v193 v194 v195 v196 v197 v198 v199 v200 v201 v202 : Value) (w' : World), (∀ k ∈ ks, inE lo hi k → fitE ms l k) → Below w.heap.size w w' → Q (.exit 6) ⟨(u0 :: .slice lA ln lc :: .slice aA an ac :: .slice hA hn hc :: u4 :: u5 :: u6 :: u7 :: u8 :: u9 :: u10 :: u11 :: v12 :: .slice kA kn kc :: u14 :: u15 :: u16 :: .slice mA mn mc :: u18 :: u19 :: v20 :: v21 :: v22 :: v23 :: v24 :: v25 :: v26 :: v27 :: u28 :: u29 :: u30 :: u31 :: u32 :: u33 :: u34 :: u35 :: u36 :: u37 :: u38 :: u39 :: u40 :: u41 :: u42 :: u43 :: u44 :: u45 :: u46 :: u47 :: u48 :: u49 :: u50 :: u51 :: u52 :: u53 :: u54 :: u55 :: u56 :: u57 :: u58 :: u59 :: u60 :: u61 :: u62 :: u63 :: u64 :: u65 :: u66 :: u67 :: u68 :: u69 :: u70 :: u71 :: u72 :: u73 :: u74 :: u75 :: u76 :: u77 :: u78 :: u79 :: u80 :: u81 :: u82 :: u83 :: u84 :: u85 :: u86 :: u87 :: u88 :: u89 :: u90 :: u91 :: u92 :: u93 :: u94 :: u95 :: u96 :: u97 :: u98 :: u99 :: u100 :: u101 :: u102 :: u103 :: u104 :: u105 :: u106 :: u107 :: u108 :: u109 :: u110 :: u111 :: u112 :: u113 :: u114 :: u115 :: u116 :: u117 :: u118 :: u119 :: u120 :: u121 :: u122 :: u123 :: u124 :: u125 :: u126 :: u127 :: u128 :: u129 :: u130 :: u131 :: u132 :: u133 :: u134 :: u135 :: u136 :: u137 :: u138 :: u139 :: u140 :: u141 :: u142 :: u143 :: u144 :: u145 :: v146 :: v147 :: v148 :: v149 :: v150 :: v151 :: v152 :: v153 :: v154 :: v155 :: v156 :: v157 :: v158 :: v159 :: v160 :: v161 :: v162 :: v163 :: v164 :: v165 :: v166 :: v167 :: v168 :: v169 :: v170 :: v171 :: v172 :: v173 :: v174 :: v175 :: v176 :: v177 :: v178 :: v179 :: v180 :: v181 :: v182 :: v183 :: v184 :: v185 :: v186 :: v187 :: v188 :: v189 :: v190 :: v191 :: v192 :: v193 :: v194 :: v195 :: v196 :: v197 :: v198 :: v199 :: v200 :: v201 :: v202 :: []).toArray, []⟩ w')
    (hret : ∀ (v20 v21 v22 v23 v24 v25 v26 v27 v146 v147 v148 v149 v150 v151 v152 v153 v154 v155 v156 v157 v158 v159 v160 v161 v162 v163 v164 v165 v166 v167 v168 v169 v170 v171 v172 v173 v174 v175 v176 v177 v178 v179 v180 v181 v182 v183 v184 v185 v186 v187 v188 v189 v190 v191 v192 v193 v194 v195 v196 v197 v198 v199 v200 v201 v202 : Value) (w' : World), (∃ k ∈ ks, inE lo hi k ∧ ¬ fitE ms l k) → Below w.heap.size w w' → Q .ret ⟨(u0 :: .slice lA ln lc :: .slice aA an ac :: .slice hA hn hc :: u4 :: u5 :: u6 :: u7 :: u8 :: u9 :: u10 :: u11 :: .bool false :: .slice kA kn kc :: u14 :: u15 :: u16 :: .slice mA mn mc :: u18 :: u19 :: v20 :: v21 :: v22 :: v23 :: v24 :: v25 :: v26 :: v27 :: u28 :: u29 :: u30 :: u31 :: u32 :: u33 :: u34 :: u35 :: u36 :: u37 :: u38 :: u39 :: u40 :: u41 :: u42 :: u43 :: u44 :: u45 :: u46 :: u47 :: u48 :: u49 :: u50 :: u51 :: u52 :: u53 :: u54 :: u55 :: u56 :: u57 :: u58 :: u59 :: u60 :: u61 :: u62 :: u63 :: u64 :: u65 :: u66 :: u67 :: u68 :: u69 :: u70 :: u71 :: u72 :: u73 :: u74 :: u75 :: u76 :: u77 :: u78 :: u79 :: u80 :: u81 :: u82 :: u83 :: u84 :: u85 :: u86 :: u87 :: u88 :: u89 :: u90 :: u91 :: u92 :: u93 :: u94 :: u95 :: u96 :: u97 :: u98 :: u99 :: u100 :: u101 :: u102 :: u103 :: u104 :: u105 :: u106 :: u107 :: u108 :: u109 :: u110 :: u111 :: u112 :: u113 :: u114 :: u115 :: u116 :: u117 :: u118 :: u119 :: u120 :: u121 :: u122 :: u123 :: u124 :: u125 :: u126 :: u127 :: u128 :: u129 :: u130 :: u131 :: u132 :: u133 :: u134 :: u135 :: u136 :: u137 :: u138 :: u139 :: u140 :: u141 :: u142 :: u143 :: u144 :: u145 :: v146 :: v147 :: v148 :: v149 :: v150 :: v151 :: v152 :: v153 :: v154 :: v155 :: v156 :: v157 :: v158 :: v159 :: v160 :: v161 :: v162 :: v163 :: v164 :: v165 :: v166 :: v167 :: v168 :: v169 :: v170 :: v171 :: v172 :: v173 :: v174 :: v175 :: v176 :: v177 :: v178 :: v179 :: v180 :: v181 :: v182 :: v183 :: v184 :: v185 :: v186 :: v187 :: v188 :: v189 :: v190 :: v191 :: v192 :: v193 :: v194 :: v195 :: v196 :: v197 :: v198 :: v199 :: v200 :: v201 :: v202 :: []).toArray, []⟩ w') :
    Code.wp Try.prog rb6C Q ⟨(u0 :: .slice lA ln lc :: .slice aA an ac :: .slice hA hn hc :: u4 :: u5 :: u6 :: u7 :: u8 :: u9 :: u10 :: u11 :: u12 :: .slice kA kn kc :: u14 :: u15 :: u16 :: .slice mA mn mc :: u18 :: u19 :: .int .i64 0 :: u21 :: u22 :: u23 :: u24 :: u25 :: u26 :: u27 :: u28 :: u29 :: u30 :: u31 :: u32 :: u33 :: u34 :: u35 :: u36 :: u37 :: u38 :: u39 :: u40 :: u41 :: u42 :: u43 :: u44 :: u45 :: u46 :: u47 :: u48 :: u49 :: u50 :: u51 :: u52 :: u53 :: u54 :: u55 :: u56 :: u57 :: u58 :: u59 :: u60 :: u61 :: u62 :: u63 :: u64 :: u65 :: u66 :: u67 :: u68 :: u69 :: u70 :: u71 :: u72 :: u73 :: u74 :: u75 :: u76 :: u77 :: u78 :: u79 :: u80 :: u81 :: u82 :: u83 :: u84 :: u85 :: u86 :: u87 :: u88 :: u89 :: u90 :: u91 :: u92 :: u93 :: u94 :: u95 :: u96 :: u97 :: u98 :: u99 :: u100 :: u101 :: u102 :: u103 :: u104 :: u105 :: u106 :: u107 :: u108 :: u109 :: u110 :: u111 :: u112 :: u113 :: u114 :: u115 :: u116 :: u117 :: u118 :: u119 :: u120 :: u121 :: u122 :: u123 :: u124 :: u125 :: u126 :: u127 :: u128 :: u129 :: u130 :: u131 :: u132 :: u133 :: u134 :: u135 :: u136 :: u137 :: u138 :: u139 :: u140 :: u141 :: u142 :: u143 :: u144 :: u145 :: u146 :: u147 :: u148 :: u149 :: u150 :: u151 :: u152 :: u153 :: u154 :: u155 :: u156 :: u157 :: u158 :: u159 :: u160 :: u161 :: u162 :: u163 :: u164 :: u165 :: u166 :: u167 :: u168 :: u169 :: u170 :: u171 :: u172 :: u173 :: u174 :: u175 :: u176 :: u177 :: u178 :: u179 :: u180 :: u181 :: u182 :: u183 :: u184 :: u185 :: u186 :: u187 :: u188 :: u189 :: u190 :: u191 :: u192 :: u193 :: u194 :: u195 :: u196 :: u197 :: u198 :: u199 :: u200 :: u201 :: u202 :: []).toArray, []⟩ w := by
  have HEX := Lib.hid hexit
  have HRT := Lib.hid hret
  have HN : Hid (ks.length = kn) := Lib.hid (by obtain ⟨A', c', e, _, _⟩ := own_val HK.out.own; injection e with e1 e2 e3; exact e2.symm)
  clear hexit hret
  conv => arg 2; whnf
  go_loopg [20] kn (fun g' iv wz => ∃ (i : Nat), g' = kn - i ∧ i ≤ kn ∧ iv = .int .i64 i ∧ (∀ k ∈ ks.take i, inE lo hi k → fitE ms l k) ∧ Below w.heap.size w wz)
  case atStart => exact ⟨0, by omega, by omega, rfl, by simp, Below.refl _ _⟩
  case round =>
    obtain ⟨i, hg, hi1, rfl, hall, hb⟩ := hrel
    have HG := Lib.hid hg
    have HA := Lib.hid hall
    have HB := Lib.hid hb
    clear hg hall hb
    by_cases hlt : i < kn
    · have hlt' : (i : Int) < (kn : Int) := by omega
      obtain ⟨kb, ko, ku, k, hka, hkb, hk, hks, hkc⟩ := RowG.get HK.out hlt
      have HKI := Lib.hid hk
      have HKM : Hid (k ∈ ks) := Lib.hid (List.mem_of_getElem? hk)
      have hka' := Lib.hid hka
      obtain ⟨kkA, kkn, kkc, rfl, _, _, hkl, _⟩ := id hks
      have HKS : Hid (SB wr Any (.slice kkA kkn kkc) k) := Lib.hid ((hks.weak (fun _ _ => trivial)).below HB.out)
      have hkkn : kkn ≤ 1152921504606 := by have := HKL.out k HKM.out; omega
      have HL1 := Lib.hid (HL.out.below HB.out)
      have HH1 := Lib.hid (HH.out.below HB.out)
      have HE1 := Lib.hid (HE.out.below HB.out)
      have HK1 := Lib.hid (HK.out.below HB.out)
      have HM1 := Lib.hid (HM.out.below HB.out)
      have z2 := bkeep HB.out hkc
      have Z2 := Lib.hid z2
      obtain ⟨wi, hwi⟩ : ∃ wi, wi = decide (inE lo hi k) := ⟨_, rfl⟩
      have HWI := Lib.hid hwi
      clear hk hks hkc hwi hkl
      have HNX : Hid ((inE lo hi k → fitE ms l k) → ∀ k ∈ ks.take (i + 1), inE lo hi k → fitE ms l k) := Lib.hid (fun h k' hk' => by
        rw [List.take_add_one, HKI.out] at hk'
        rcases List.mem_append.1 hk' with hk' | hk'
        · exact HA.out k' hk'
        · simp at hk'; subst hk'; exact h)
      subst hka
      go_upto_region 28 with (go_at_call 38; go_loud (refine (in_any kkA aA hA kkn kkc an ac hn hc k lo hi wr HKS.out HL1.out HH1.out hkkn han hhn).mono ?_); rintro e w2 ⟨rfl, q, rfl⟩; rw [← HWI.out])
      obtain ⟨w1, hw1⟩ : ∃ W, W = wr.drewN q := ⟨_, rfl⟩
      rw [← hw1]
      have hb1 : Below wr.heap.size wr w1 := by rw [hw1]; exact ((Chg.refl Nil wr).drewN q).below
      have HB1 := Lib.hid hb1
      have HBB := Lib.hid (HB.out.trans (hb1.mono HB.out.size))
      have z3 := bkeep hb1 Z2.out
      clear hw1 hb1 z2
      cases wi with
      | false =>
        have HNI : Hid (¬ inE lo hi k) := Lib.hid (of_decide_eq_false HWI.out.symm)
        go_wp2
        go_roundg (kn - (i + 1))
        case measure => have := HG.out; omega
        case rel => exact ⟨i + 1, rfl, by omega, by go_num, HNX.out (fun h => absurd h HNI.out), HBB.out⟩
      | true =>
        have HYI : Hid (inE lo hi k) := Lib.hid (of_decide_eq_true HWI.out.symm)
        have HES := Lib.hid (HE1.out.below HB1.out)
        have HKS1 := Lib.hid (HKS.out.below HB1.out)
        obtain ⟨vb, hvb⟩ : ∃ vb, vb = (hasE l k).isSome := ⟨_, rfl⟩
        have HVB := Lib.hid hvb
        clear hvb
        go_upto_region 32 with (go_at_call 40; go_loud (refine (rhas_any lA kkA ln lc kkn kkc l k w1 HES.out (by omega) HKS1.out).mono ?_); rintro e w2 ⟨A2, n2, c2, rfl, hs2, hb2⟩; rw [← HVB.out]; have HS2 := Lib.hid hs2; have HB2 := Lib.hid hb2; clear hs2 hb2)
        have HB3 := Lib.hid (HBB.out.trans (HB2.out.mono HBB.out.size))
        refine rb8_in base kn kc mn mc i n2 c2 _ mA A2 us ums ks ms k ((hasE l k).getD []) vb w2 _ (by exact Lib.hid (fun c t a w h => HQP.out c t a w h)) hlt hkn hmn (Lib.hid ((HK1.out.below HB1.out).below HB2.out)) HKI.out (Lib.hid ((HM1.out.below HB1.out).below HB2.out)) HS2 ?_
        intro v25 v26 v27 v170 v171 v172 v173 v174 v175 v176 v177 v178 v179 v180 v181 v182 v183 v184 v185 v186 v187 v188 v189 v190 v191 v192 v193 v194 v195 v196 v197 v198 v199 v200 rb w3 hrb hb3
        have HRB : Hid (rb = true ↔ fitE ms l k) := Lib.hid (by rw [hrb, fit_same, HVB.out])
        have HB4 := Lib.hid (HB3.out.trans (hb3.mono HB3.out.size))
        clear hrb hb3 z3
        cases rb with
        | true =>
          have HF : Hid (fitE ms l k) := Lib.hid (HRB.out.1 rfl)
          go_wp2
          go_roundg (kn - (i + 1))
          case measure => have := HG.out; omega
          case rel => exact ⟨i + 1, rfl, by omega, by go_num, HNX.out (fun _ => HF.out), HB4.out⟩
        | false =>
          have HF : Hid (¬ fitE ms l k) := Lib.hid (fun h => by have := HRB.out.2 h; cases this)
          go_wp2
          exact HRT.out _ _ _ _ _ _ _ _ _ _ _ _ _ _ _ _ _ _ _ _ _ _ _ _ _ _ _ _ _ _ _ _ _ _ _ _ _ _ _ _ _ _ _ _ _ _ _ _ _ _ _ _ _ _ _ _ _ _ _ _ _ _ _ _ _ _ ⟨k, HKM.out, HYI.out, HF.out⟩ HB4.out
    · have hin : i = kn := by omega
      subst hin
      go_wp2
      have h1 := HA.out
      rw [take_all HN.out.symm] at h1
      exact HEX.out _ _ _ _ _ _ _ _ _ _ _ _ _ _ _ _ _ _ _ _ _ _ _ _ _ _ _ _ _ _ _ _ _ _ _ _ _ _ _ _ _ _ _ _ _ _ _ _ _ _ _ _ _ _ _ _ _ _ _ _ _ _ _ _ _ _ _ h1 HB.out
end Go.Proofs.Ytpbnngfiinihmaa
