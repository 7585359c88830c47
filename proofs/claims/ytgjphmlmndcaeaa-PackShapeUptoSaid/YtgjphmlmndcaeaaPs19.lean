/- WALKS: is a tree packed (shape.Packed): the loop over a level; no level is empty. WALKS: is a tree packed (shape.Packed). append onto a row of the call's own that has room, from whatever slice. Over any program. WALKS: entries copied with marks behind them (document). -/
import Derived.Test.YtgjphmlmndcaeaaPs18
import Derived.Test.YtgjphmlmndcaeaaPs04
import Derived.Test.YtgjphmlmndcaeaaPs05
import Derived.Test.YtgjphmlmndcaeaaPs07
import Derived.Test.YtgjphmlmndcaeaaPs03
set_option linter.unusedVariables false
set_option linter.unusedSimpArgs false
namespace Go.Proofs.Ytgjphmlmndcaeaa
open Go.RowKit Go.Maps
noncomputable def pkInC : Code := codeOr (Try.f26.body.bind (blockIn 2))
set_option maxRecDepth 100000 in
set_option maxHeartbeats 4000000 in
theorem pk_in (D : Nat → Prop) (qc d M c lev fill inn : Nat) (nd lf bl : Int) (B : Option Addr) (X : Nat → Nd) (w : World) {u0 u1 u2 u4 u5 u6 u7 u8 u11 u12 u13 u14 u15 u16 u17 u18 u19 u20 u21 u22 u23 u24 u25 u26 u27 u28 u29 u30 u31 u32 u33 u34 u35 u36 u37 u38 u39 u40 u41 u42 u43 u44 u45 u46 u47 u48 u49 u50 u51 u52 u53 u54 u55 u59 u60 u61 u62 u63 u64 u65 u66 u67 u68 u69 u70 u71 u72 u73 u74 u75 u76 u77 u78 u79 u80 u81 u82 u83 u84 u85 u86 u87 u88 u89 u90 u91 u92 u93 u94 u95 u96 u97 u98 u99 u100 u101 u102 u103 u104 u105 u106 u107 u108 u109 u110 u111 u112 u113 u114 u115 u116 u117 u118 u119 u120 u121 u122 u123 u124 u125 u126 u127 u128 u129 u130 u131 u132 u133 u134 u135 u136 u137 u138 u139 u140 u141 u142 u143 u144 u145 u146 : Value} (Q : Exit → Act → World → Prop)
    (HC : Hid (Blk w qc 23 #[.int .i64 nd, .int .i64 lf, .int .i64 inn, .int .i64 fill, .int .i64 bl])) (HL : Hid (Lks w D B M ((List.range M).map (lkAt d X)))) (HP : Hid (PkOk fill inn lev M X)) (HV : Hid (∀ i, i < M → (X i).lev = (lev : Int))) (HB : Hid (∀ i, i < M → (X i).kids.length ≤ 1000)) (hM : M ≤ 100000)
    (hexit : ∀ (v4 v11 v12 v13 v58 v59 v60 v61 v62 v63 v64 v65 v66 v67 v68 v69 v70 v71 v72 v73 v74 v75 v76 v77 v78 v79 v80 v81 v82 v83 v84 v85 v86 v87 v88 v89 v90 v91 v92 v93 v94 v95 v96 v97 v98 v99 v100 v101 v102 v103 v104 v105 v106 v107 v108 v109 v110 v111 v112 v113 v114 v115 v116 v117 v118 v119 v120 v121 v122 v123 v124 v125 v126 v127 : Value) (w' : World), Below w.heap.size w w' → Q (.exit 2) ⟨(u0 :: u1 :: u2 :: .pointer (some ⟨qc, 0, none⟩) :: v4 :: u5 :: u6 :: u7 :: u8 :: .int .i64 (ksum X M) :: .int .i64 ((M : Int) - 1) :: v11 :: v12 :: v13 :: u14 :: u15 :: u16 :: u17 :: u18 :: u19 :: u20 :: u21 :: u22 :: u23 :: u24 :: u25 :: u26 :: u27 :: u28 :: u29 :: u30 :: u31 :: u32 :: u33 :: u34 :: u35 :: u36 :: u37 :: u38 :: u39 :: u40 :: u41 :: u42 :: u43 :: u44 :: u45 :: u46 :: u47 :: u48 :: u49 :: u50 :: u51 :: u52 :: u53 :: u54 :: u55 :: .slice B M c :: .int .i64 M :: v58 :: v59 :: v60 :: v61 :: v62 :: v63 :: v64 :: v65 :: v66 :: v67 :: v68 :: v69 :: v70 :: v71 :: v72 :: v73 :: v74 :: v75 :: v76 :: v77 :: v78 :: v79 :: v80 :: v81 :: v82 :: v83 :: v84 :: v85 :: v86 :: v87 :: v88 :: v89 :: v90 :: v91 :: v92 :: v93 :: v94 :: v95 :: v96 :: v97 :: v98 :: v99 :: v100 :: v101 :: v102 :: v103 :: v104 :: v105 :: v106 :: v107 :: v108 :: v109 :: v110 :: v111 :: v112 :: v113 :: v114 :: v115 :: v116 :: v117 :: v118 :: v119 :: v120 :: v121 :: v122 :: v123 :: v124 :: v125 :: v126 :: v127 :: u128 :: u129 :: u130 :: u131 :: u132 :: u133 :: u134 :: u135 :: u136 :: u137 :: u138 :: u139 :: u140 :: u141 :: u142 :: u143 :: u144 :: u145 :: u146 :: []).toArray, []⟩ w') :
    Code.wp Try.prog pkInC Q ⟨(u0 :: u1 :: u2 :: .pointer (some ⟨qc, 0, none⟩) :: u4 :: u5 :: u6 :: u7 :: u8 :: .int .i64 0 :: .int .i64 ((M : Int) - 1) :: u11 :: u12 :: u13 :: u14 :: u15 :: u16 :: u17 :: u18 :: u19 :: u20 :: u21 :: u22 :: u23 :: u24 :: u25 :: u26 :: u27 :: u28 :: u29 :: u30 :: u31 :: u32 :: u33 :: u34 :: u35 :: u36 :: u37 :: u38 :: u39 :: u40 :: u41 :: u42 :: u43 :: u44 :: u45 :: u46 :: u47 :: u48 :: u49 :: u50 :: u51 :: u52 :: u53 :: u54 :: u55 :: .slice B M c :: .int .i64 M :: .int .i64 0 :: u59 :: u60 :: u61 :: u62 :: u63 :: u64 :: u65 :: u66 :: u67 :: u68 :: u69 :: u70 :: u71 :: u72 :: u73 :: u74 :: u75 :: u76 :: u77 :: u78 :: u79 :: u80 :: u81 :: u82 :: u83 :: u84 :: u85 :: u86 :: u87 :: u88 :: u89 :: u90 :: u91 :: u92 :: u93 :: u94 :: u95 :: u96 :: u97 :: u98 :: u99 :: u100 :: u101 :: u102 :: u103 :: u104 :: u105 :: u106 :: u107 :: u108 :: u109 :: u110 :: u111 :: u112 :: u113 :: u114 :: u115 :: u116 :: u117 :: u118 :: u119 :: u120 :: u121 :: u122 :: u123 :: u124 :: u125 :: u126 :: u127 :: u128 :: u129 :: u130 :: u131 :: u132 :: u133 :: u134 :: u135 :: u136 :: u137 :: u138 :: u139 :: u140 :: u141 :: u142 :: u143 :: u144 :: u145 :: u146 :: []).toArray, []⟩ w := by
  have HEX := Lib.hid hexit
  clear hexit
  conv => arg 2; whnf
  go_loopg [9, 58] M (fun g' ks iv wr => ∃ i : Nat, g' = M - i ∧ i ≤ M ∧ iv = .int .i64 i ∧ ks = .int .i64 (ksum X i) ∧ Below w.heap.size w wr)
  case atStart => exact ⟨0, by omega, by omega, rfl, rfl, Below.refl _ _⟩
  case round =>
    obtain ⟨i, hg, hi, rfl, rfl, hb⟩ := hrel
    have HG := Lib.hid hg
    have HBW := Lib.hid hb
    rename World => wr
    clear hg hb
    by_cases hil : i < M
    · have hil' : (i : Int) < (M : Int) := by omega
      obtain ⟨b2, o2, ⟨id, low0, x⟩, lB, hA, kA, vA, dA, lm, ld, hn', hc, kn, kc, vn, vc, dn, dc, hB2, _, hk', e0, e1, e2, e3, e4, e5, e6, e7, _, hv⟩ := (HL.out.below HBW.out).at_ (j := i) hil
      have hkk : (id, low0, x) = lkAt d X i := by
        rw [lk_some hil] at hk'
        injection hk' with hk'; exact hk'.symm
      dsimp only at e0 e2 e4 hv
      have hxx : x = X i := congrArg (fun k : Lk => k.2.2) hkk
      have hkn : kn = (X i).keys.length := by rw [hv.k.len, hxx]
      have hdn : dn = (X i).kids.length := by rw [hv.d.len, hxx]
      have hlv : x.lev = (lev : Int) := by rw [hxx]; exact HV.out i hil
      rw [hlv] at e2
      have hp := HP.out i hil
      rw [← hkn, ← hdn] at hp
      have HPI := Lib.hid hp
      have hks : ksum X i + dn = ksum X (i + 1) := by rw [ksum_succ, hdn]
      have hkb : ksum X (i + 1) ≤ (i + 1) * 1000 := ksum_le X (fun j hj => HB.out j (by omega))
      have hks2 : (ksum X i : Int) + (dn : Int) = (ksum X (i + 1) : Int) := by omega
      have hi5 := IntWalk.i64_in ((ksum X i : Int) + (dn : Int)) (by omega)
      have HKS := Lib.hid hks2
      subst hB2
      obtain ⟨wx, hwx⟩ : ∃ W, W = wr.alloc (.cells #[.int .i64 id, .slice lB lm ld, .int .i64 lev, .slice hA hn' hc, .int .i64 x.right, .slice kA kn kc, .slice vA vn vc, .slice dA dn dc] 106) := ⟨_, rfl⟩
      have HBX : Hid (Below wr.heap.size wr wx) := Lib.hid (by rw [hwx]; exact (Below.refl _ _).alloc (Nat.le_refl _) _)
      have HQX : Hid (Blk wx wr.heap.size 106 #[.int .i64 id, .slice lB lm ld, .int .i64 lev, .slice hA hn' hc, .int .i64 x.right, .slice kA kn kc, .slice vA vn vc, .slice dA dn dc]) := Lib.hid (by rw [hwx]; exact Blk.new _ _ _)
      clear hk' hkk hxx hv hkn hdn hlv hp hks hkb hks2
      go_upto_region 12 with fail
      rw [← hwx]
      clear hwx e0 e1 e2 e3 e4 e5 e6 e7
      have x5 : wx.cell? ⟨wr.heap.size, 5, none⟩ = some (.slice kA kn kc) := HQX.out.cell 5
      have x7 : wx.cell? ⟨wr.heap.size, 7, none⟩ = some (.slice dA dn dc) := HQX.out.cell 7
      go_upto_region 14 with fail
      refine pk_cond qc wr.heap.size i M kn dn lev fill inn nd lf bl id x.right _ _ _ _ dA dc wx _ (Lib.hid (HC.out.below (HBW.out.trans (HBX.out.mono HBW.out.size)))) HQX hil HPI.out.1 HPI.out.2 ?_
      intro v75 v76 v77 v78 v79 v80 v81 v82 v83 v84 v85 v86 v87 v88 v89 v90 v91 v92 v93 v94 v95 v96 v97 v98 v99 v100 v101 v102 v103 v104 v105 v106 v107 v108 v109 v110 v111 v112 v113 v114 v115 v116 v117 v118 v119 v120 v121 v122 v123 v124 v125
      go_wp2_with fail
      go_roundg (M - (i + 1))
      case measure => have := HG.out; omega
      case rel => exact ⟨i + 1, rfl, by omega, by go_num, congrArg (Value.int .i64) HKS.out, HBW.out.trans (HBX.out.mono HBW.out.size)⟩
    · have hil' : ¬ (i : Int) < (M : Int) := by omega
      obtain rfl : i = M := by omega
      go_wp2
      exact HEX.out _ _ _ _ _ _ _ _ _ _ _ _ _ _ _ _ _ _ _ _ _ _ _ _ _ _ _ _ _ _ _ _ _ _ _ _ _ _ _ _ _ _ _ _ _ _ _ _ _ _ _ _ _ _ _ _ _ _ _ _ _ _ _ _ _ _ _ _ _ _ _ _ _ _ _ HBW.out
set_option maxRecDepth 100000 in
theorem pk1_no (A : Option Addr) (n c : Nat) (w : World) (hn : 1 ≤ n) : Calls Try.prog 51 #[.slice A n c] w fun e w' => e = .returned (.bool false) ∧ w = w' := by
  have h : ((n : Int) == 0) = false := by simp; omega
  go_enter Try.func51, Try.ntmps51
  go_wp2
  go_ret
  exact ⟨rfl, rfl⟩
set_option maxRecDepth 100000 in
theorem pk_index (D : Nat → Prop) (A : Option Addr) (n c : Nat) (g : Nat → List Lk) (w : World) (h : AllV w D A n g) (hn : n ≤ 100000) (hg : ∀ t, t < n → 1 ≤ (g t).length) :
    Calls Try.prog 81 #[.slice A n c, .func (.func 51) #[] #[]] w fun e w' => e = .returned (.int .i64 (-1)) ∧ w = w' := by
  have HT := Lib.hid h
  have HP := Lib.hid hg
  clear h hg
  go_enter Try.func81, Try.ntmps81
  go_wp2
  go_loopg [8] n (fun g' iv wr => ∃ i : Nat, g' = n - i ∧ i ≤ n ∧ iv = .int .i64 i ∧ wr = w)
  case atStart => exact ⟨0, by omega, by omega, rfl, rfl⟩
  case round =>
    obtain ⟨i, hg, hi, rfl, rfl⟩ := hrel
    have HG := Lib.hid hg
    clear hg
    by_cases hlt : i < n
    · have hlt' : (i : Int) < (n : Int) := by omega
      obtain ⟨b, o, B, c', rfl, _, c1, _⟩ := HT.out.at_ (t := i) hlt
      have hl := HP.out i hlt
      go_wp2_with (go_at_call 51; go_loud (refine (pk1_no B (g i).length c' _ hl).mono ?_); rintro e w' ⟨rfl, rfl⟩)
      go_roundg (n - (i + 1))
      case measure => have := HG.out; omega
      case rel => exact ⟨i + 1, rfl, by omega, by go_num, rfl⟩
    · have hlt' : ¬ (i : Int) < (n : Int) := by omega
      go_wp2
      go_ret
      exact ⟨rfl, rfl⟩
set_option maxRecDepth 100000 in
theorem pk_contains (D : Nat → Prop) (A : Option Addr) (n c : Nat) (g : Nat → List Lk) (w : World) (h : AllV w D A n g) (hn : n ≤ 100000) (hg : ∀ t, t < n → 1 ≤ (g t).length) :
    Calls Try.prog 50 #[.slice A n c, .func (.func 51) #[] #[]] w fun e w' => e = .returned (.bool false) ∧ w = w' := by
  have HT := Lib.hid h
  have HP := Lib.hid hg
  clear h hg
  go_enter Try.func50, Try.ntmps50
  go_wp2_with (go_at_call 81; refine (pk_index D A n c g _ HT.out hn HP.out).mono ?_; rintro e w' ⟨rfl, rfl⟩)
  go_ret
  exact ⟨rfl, rfl⟩
end Go.Proofs.Ytgjphmlmndcaeaa

namespace Go.Proofs.Ytgjphmlmndcaeaa
open Go.RowKit Go.Maps
set_option maxRecDepth 100000 in
set_option maxHeartbeats 4000000 in
theorem packed_any (F : Nat → Prop) (p : Nat) (nodes root : Int) (sl : List Slt) (nd lf bl : Int) (inn fill L : Nat) (N d : Nat → Nat) (X : Nat → Nat → Nd) (w : World) (hx : ArX w F p nodes sl root) (hn : sl.length ≤ 65536) (hF : ∀ b, F b → b < w.heap.size) (hc' : cfgOk nd lf inn fill bl)
    (ht : TreeOk sl root nd lf inn L N d X) (hpk : ∀ k, k ≤ L → PkOk fill inn k (N k) (X k)) (hks : ∀ k, k < L → ksum (X (k + 1)) (N (k + 1)) = N k) (htop : 0 < L → 2 ≤ (X L 0).kids.length) :
    Calls Try.prog 26 #[.pointer (some ⟨p, 0, none⟩), .agg #[.int .i64 nd, .int .i64 lf, .int .i64 inn, .int .i64 fill, .int .i64 bl]] w fun e w' => e = .returned (.bool true) ∧ Below w.heap.size w w' := by
  have HX := Lib.hid hx
  have HT := Lib.hid ht
  have HC := Lib.hid hc'
  have HF := Lib.hid hF
  have HPK := Lib.hid hpk
  have HKS := Lib.hid hks
  have hdeep := ht.deep
  have HB0 : Hid (Below w.heap.size w (w.alloc (.cells #[.int .i64 nd, .int .i64 lf, .int .i64 inn, .int .i64 fill, .int .i64 bl] 23))) := Lib.hid ((Below.refl _ _).alloc (Nat.le_refl _) _)
  have HK0 : Hid (Blk (w.alloc (.cells #[.int .i64 nd, .int .i64 lf, .int .i64 inn, .int .i64 fill, .int .i64 bl] 23)) w.heap.size 23 #[.int .i64 nd, .int .i64 lf, .int .i64 inn, .int .i64 fill, .int .i64 bl]) := Lib.hid (Blk.new _ _ _)
  clear hx hF hc' ht hpk hks
  go_enter Try.func26, Try.ntmps26
  go_upto_region 2 with (go_at_call 47; go_loud (refine (levels_any F p nodes root sl nd lf fill bl inn L N d X _ (HX.out.below HB0.out) hn (fun b hb => by have := HF.out b hb; simp; omega) HC.out HT.out).mono ?_); rintro e w1 ⟨A, c, rfl, q1, q2, ha1, hb1⟩; have HA1 := Lib.hid ha1.lt; have HB1 := Lib.hid (HB0.out.trans (hb1.mono HB0.out.size)); have HK1 := Lib.hid (HK0.out.below hb1); clear ha1 hb1)
  obtain ⟨w2, hw2⟩ : ∃ W, W = w1.alloc (.cells #[.int .i64 0, .int .i64 0] 101) := ⟨_, rfl⟩
  rw [← hw2]
  have hb12 : Below w1.heap.size w1 w2 := by rw [hw2]; exact (Below.refl _ _).alloc (Nat.le_refl _) _
  have HA2 := Lib.hid (HA1.out.below hb12)
  have HK2 := Lib.hid (HK1.out.below hb12)
  have HB2 := Lib.hid (HB1.out.trans (hb12.mono HB1.out.size))
  clear hw2 hb12 HA1 HK1 HB1 HK0 HB0
  obtain ⟨b0, o0, B0, cB0, hA0, _, c0, hl0⟩ := HA2.out.at_ (t := 0) (by omega)
  subst hA0
  rw [Nat.add_zero] at c0
  rw [Nat.sub_zero] at c0 hl0
  rw [lksOf_len, HT.out.top] at c0 hl0
  obtain ⟨b, o, lk, _, _, _, _, dA', _, _, _, _, _, _, _, _, dn', dc', hB0, _, hlk, _, _, _, _, _, _, _, c7, _, hnv⟩ := hl0.at_ (j := 0) (by omega)
  have hlk' : lk = lkAt (d L) (X L) 0 := by
    rw [show (lksOf N d X L)[0]? = some (lkAt (d L) (X L) 0) from lk_some (by rw [HT.out.top]; omega)] at hlk
    injection hlk with hlk; exact hlk.symm
  subst hB0 hlk'
  have hdn : dn' = (X L 0).kids.length := hnv.d.len
  rw [Nat.zero_mul, Nat.add_zero] at c7
  have c7' : w2.cell? ⟨b, o + 2 + 3 + 2, none⟩ = some (.slice dA' dn' dc') := c7
  have hw1 := IntWalk.i64_in ((L : Int) + 1) (by omega)
  have hnil := fun (w : World) => eql_links_nil w ⟨b0, o0, none⟩ (L + 1) c
  have hsl := hn
  by_cases hL : 0 < L
  · have h2 := htop hL
    have h3 : (1 : Int) < (L : Int) + 1 := by omega
    have h4 : ¬ (dn' : Int) < 2 := by omega
    have h5 : (0 : Int) < (L : Int) := by omega
    clear hl0 hlk hnv hdn htop h2
    go_wp2_with fail
    go_loopg [48] (L + 1) (fun g' iv wr => ∃ j : Nat, g' = L + 1 - j ∧ j ≤ L + 1 ∧ iv = .int .i64 j ∧ AllV wr (fun b => b < w1.heap.size) (some ⟨b0, o0, none⟩) (L + 1) (fun t => lksOf N d X (L - t)) ∧ Blk wr w.heap.size 23 #[.int .i64 nd, .int .i64 lf, .int .i64 inn, .int .i64 fill, .int .i64 bl] ∧ Below w.heap.size w wr)
    case atStart => exact ⟨0, by omega, by omega, rfl, HA2.out, HK2.out, HB2.out⟩
    case round =>
      obtain ⟨j, hg, hj, rfl, ha, hk, hb⟩ := hrel
      have HG := Lib.hid hg
      have HA := Lib.hid ha
      have HK := Lib.hid hk
      have HB := Lib.hid hb
      rename World => wr
      clear hg ha hk hb HA2 HK2 HB2
      by_cases hlt : j < L + 1
      · have hlt' : (j : Int) < (L : Int) + 1 := by omega
        obtain ⟨b, o, B, cB, hbo, _, c1, hl⟩ := HA.out.at_ (t := j) hlt
        rw [lksOf_len] at c1 hl
        injection hbo with hbo
        injection hbo with hb1 hb2
        subst hb1 hb2
        have HL := Lib.hid hl
        have hNj := HT.out.fit (k := L - j) (by omega)
        have hNj2 : N (L - j) ≤ 65536 := by omega
        have hw2 := IntWalk.i64_in ((N (L - j) : Int) - 1) (by omega)
        clear hl
        go_wp2_with fail
        refine pk_in _ w.heap.size (d (L - j)) (N (L - j)) cB (L - j) fill inn nd lf bl B (X (L - j)) wr _ HK HL (Lib.hid (HPK.out (L - j) (by omega))) (Lib.hid (fun i hi => (HT.out.lv (L - j) (by omega)).lev i hi)) (Lib.hid (fun i hi => HT.out.klen (L - j) i (by omega) hi)) (by omega) ?_
        intro v4 v11 v12 v13 v58 v59 v60 v61 v62 v63 v64 v65 v66 v67 v68 v69 v70 v71 v72 v73 v74 v75 v76 v77 v78 v79 v80 v81 v82 v83 v84 v85 v86 v87 v88 v89 v90 v91 v92 v93 v94 v95 v96 v97 v98 v99 v100 v101 v102 v103 v104 v105 v106 v107 v108 v109 v110 v111 v112 v113 v114 v115 v116 v117 v118 v119 v120 v121 v122 v123 v124 v125 v126 v127 w9 hb9
        have HA9 := Lib.hid (HA.out.below hb9)
        have HK9 := Lib.hid (HK.out.below hb9)
        have HB9 := Lib.hid (HB.out.trans (hb9.mono HB.out.size))
        clear hb9
        by_cases hj1 : j + 1 < L + 1
        · obtain ⟨b', o', B', cB', hbo', _, c2, _⟩ := HA9.out.at_ (t := j + 1) hj1
          rw [lksOf_len] at c2
          injection hbo' with hbo'
          injection hbo' with hb3 hb4
          subst hb3 hb4
          have hks := HKS.out (L - (j + 1)) (by omega)
          rw [show L - (j + 1) + 1 = L - j by omega] at hks
          have hne : ((ksum (X (L - j)) (N (L - j)) : Int) != (N (L - (j + 1)) : Int)) = false := by rw [hks]; simp
          have hlt1 : (j : Int) + 1 < (L : Int) + 1 := by omega
          have hlt2 : (j : Int) < (L : Int) := by omega
          have hw3 := IntWalk.i64_in ((j : Int) + 1) (by omega)
          have hlt3 : 0 ≤ (j : Int) + 1 := by omega
          have hlt4 : ((j : Int) + 1).toNat = j + 1 := by omega
          clear hks
          go_wp2_with fail
          go_roundg (L + 1 - (j + 1))
          case measure => have := HG.out; omega
          case rel => exact ⟨j + 1, rfl, by omega, by go_num, HA9.out, HK9.out, HB9.out⟩
        · have hlt1 : ¬ (j : Int) + 1 < (L : Int) + 1 := by omega
          have hlt2 : ¬ (j : Int) < (L : Int) := by omega
          have hw3 := IntWalk.i64_in ((j : Int) + 1) (by omega)
          go_wp2_with fail
          go_roundg (L + 1 - (j + 1))
          case measure => have := HG.out; omega
          case rel => exact ⟨j + 1, rfl, by omega, by go_num, HA9.out, HK9.out, HB9.out⟩
      · have hlt' : ¬ (j : Int) < (L : Int) + 1 := by omega
        go_wp2_with (go_at_call 50; go_loud (refine (pk_contains _ _ (L + 1) _ _ _ HA.out (by omega) (fun t ht => by rw [lksOf_len]; exact HT.out.pos (L - t))).mono ?_); rintro e w' ⟨rfl, rfl⟩)
        go_ret
        exact ⟨rfl, HB.out⟩
  · have h3 : ¬ (1 : Int) < (L : Int) + 1 := by omega
    have h5 : ¬ (0 : Int) < (L : Int) := by omega
    clear hl0 hlk hnv hdn htop
    go_wp2_with fail
    go_loopg [48] (L + 1) (fun g' iv wr => ∃ j : Nat, g' = L + 1 - j ∧ j ≤ L + 1 ∧ iv = .int .i64 j ∧ AllV wr (fun b => b < w1.heap.size) (some ⟨b0, o0, none⟩) (L + 1) (fun t => lksOf N d X (L - t)) ∧ Blk wr w.heap.size 23 #[.int .i64 nd, .int .i64 lf, .int .i64 inn, .int .i64 fill, .int .i64 bl] ∧ Below w.heap.size w wr)
    case atStart => exact ⟨0, by omega, by omega, rfl, HA2.out, HK2.out, HB2.out⟩
    case round =>
      obtain ⟨j, hg, hj, rfl, ha, hk, hb⟩ := hrel
      have HG := Lib.hid hg
      have HA := Lib.hid ha
      have HK := Lib.hid hk
      have HB := Lib.hid hb
      rename World => wr
      clear hg ha hk hb HA2 HK2 HB2
      by_cases hlt : j < L + 1
      · have hlt' : (j : Int) < (L : Int) + 1 := by omega
        obtain ⟨b, o, B, cB, hbo, _, c1, hl⟩ := HA.out.at_ (t := j) hlt
        rw [lksOf_len] at c1 hl
        injection hbo with hbo
        injection hbo with hb1 hb2
        subst hb1 hb2
        have HL := Lib.hid hl
        have hNj := HT.out.fit (k := L - j) (by omega)
        have hNj2 : N (L - j) ≤ 65536 := by omega
        have hw2 := IntWalk.i64_in ((N (L - j) : Int) - 1) (by omega)
        clear hl
        go_wp2_with fail
        refine pk_in _ w.heap.size (d (L - j)) (N (L - j)) cB (L - j) fill inn nd lf bl B (X (L - j)) wr _ HK HL (Lib.hid (HPK.out (L - j) (by omega))) (Lib.hid (fun i hi => (HT.out.lv (L - j) (by omega)).lev i hi)) (Lib.hid (fun i hi => HT.out.klen (L - j) i (by omega) hi)) (by omega) ?_
        intro v4 v11 v12 v13 v58 v59 v60 v61 v62 v63 v64 v65 v66 v67 v68 v69 v70 v71 v72 v73 v74 v75 v76 v77 v78 v79 v80 v81 v82 v83 v84 v85 v86 v87 v88 v89 v90 v91 v92 v93 v94 v95 v96 v97 v98 v99 v100 v101 v102 v103 v104 v105 v106 v107 v108 v109 v110 v111 v112 v113 v114 v115 v116 v117 v118 v119 v120 v121 v122 v123 v124 v125 v126 v127 w9 hb9
        have HA9 := Lib.hid (HA.out.below hb9)
        have HK9 := Lib.hid (HK.out.below hb9)
        have HB9 := Lib.hid (HB.out.trans (hb9.mono HB.out.size))
        clear hb9
        by_cases hj1 : j + 1 < L + 1
        · obtain ⟨b', o', B', cB', hbo', _, c2, _⟩ := HA9.out.at_ (t := j + 1) hj1
          rw [lksOf_len] at c2
          injection hbo' with hbo'
          injection hbo' with hb3 hb4
          subst hb3 hb4
          have hks := HKS.out (L - (j + 1)) (by omega)
          rw [show L - (j + 1) + 1 = L - j by omega] at hks
          have hne : ((ksum (X (L - j)) (N (L - j)) : Int) != (N (L - (j + 1)) : Int)) = false := by rw [hks]; simp
          have hlt1 : (j : Int) + 1 < (L : Int) + 1 := by omega
          have hlt2 : (j : Int) < (L : Int) := by omega
          have hw3 := IntWalk.i64_in ((j : Int) + 1) (by omega)
          have hlt3 : 0 ≤ (j : Int) + 1 := by omega
          have hlt4 : ((j : Int) + 1).toNat = j + 1 := by omega
          clear hks
          go_wp2_with fail
          go_roundg (L + 1 - (j + 1))
          case measure => have := HG.out; omega
          case rel => exact ⟨j + 1, rfl, by omega, by go_num, HA9.out, HK9.out, HB9.out⟩
        · have hlt1 : ¬ (j : Int) + 1 < (L : Int) + 1 := by omega
          have hlt2 : ¬ (j : Int) < (L : Int) := by omega
          have hw3 := IntWalk.i64_in ((j : Int) + 1) (by omega)
          go_wp2_with fail
          go_roundg (L + 1 - (j + 1))
          case measure => have := HG.out; omega
          case rel => exact ⟨j + 1, rfl, by omega, by go_num, HA9.out, HK9.out, HB9.out⟩
      · have hlt' : ¬ (j : Int) < (L : Int) + 1 := by omega
        go_wp2_with (go_at_call 50; go_loud (refine (pk_contains _ _ (L + 1) _ _ _ HA.out (by omega) (fun t ht => by rw [lksOf_len]; exact HT.out.pos (L - t))).mono ?_); rintro e w' ⟨rfl, rfl⟩)
        go_ret
        exact ⟨rfl, HB.out⟩
end Go.Proofs.Ytgjphmlmndcaeaa

namespace Go.Proofs.Ytgjphmlmndcaeaa
open Go.RowKit
section
variable {P : Program} (w : World)
theorem run_append_room_any (base : Nat) (t ty e : TypeId) (i : TypeInfo) (size : Nat) (ht : P.underlying t = some (.slice e)) (hi : P.info? e = some i) (hsize : i.size = size)
    (g n cap : Nat) (xs : List Value) (hown : w.ownsRow base e size (.slice (some ⟨g, 0, none⟩) n cap) n xs)
    (F : Nat → Prop) (A : Option Addr) (m c : Nat) (news : List Value) (hr : Rd w F size A m news) (h1 : ∀ u ∈ news, u.oneCell' = true) (hroom : n + m ≤ cap) :
    ∃ w', (Builtin.append_ #[t, t] ty #[.slice (some ⟨g, 0, none⟩) n cap, .slice A m c]).run P w = .ok (.slice (some ⟨g, 0, none⟩) (n + m) cap) w' ∧
      w'.ownsRow base e size (.slice (some ⟨g, 0, none⟩) (n + m) cap) (n + m) (xs ++ news) ∧ w.grownBy w' (some g) := by
  rcases A with _ | ad
  · have hm : m = 0 := by
      rcases Nat.eq_zero_or_pos m with h0 | h0
      · exact h0
      · obtain ⟨_, _, h, _⟩ := hr.2 h0
        cases h
    subst hm
    have hn : news = [] := List.eq_nil_of_length_eq_zero (by simpa using hr.1)
    subst hn
    exact ⟨w, run_append_of_nil w base t ty e i size ht hi _ n xs hown c, by simpa using hown, World.grownBy.refl w _⟩
  · have hcells : ∀ j u, news[j]? = some u → w.cell? (ad.add j) = some u := by
      intro j u hu
      rcases Nat.eq_zero_or_pos m with h0 | h0
      · subst h0
        have hn : news = [] := List.eq_nil_of_length_eq_zero (by simpa using hr.1)
        subst hn
        simp at hu
      · obtain ⟨b, o, h, _, hc⟩ := hr.2 h0
        injection h with h
        subst h
        rw [add_eq]
        exact hc j u hu
    exact run_append_fits (P := P) w base t ty e i size ht hi hsize g n cap xs hown ad m c news hr.1 hcells h1 hroom

theorem wp_append_room {o : Oper} {a : Act} {K : Act → World → Prop} {Q : Exit → Act → World → Prop} (s x : Operand) (t : TypeId)
    (ho : o.op = .call { callee := .builtin .append, args := #[s, x], argTypes := #[t, t] })
    (base : Nat) (e : TypeId) (i : TypeInfo) (size : Nat) (ht : P.underlying t = some (.slice e)) (hi : P.info? e = some i) (hsize : i.size = size)
    (g n cap : Nat) (xs : List Value) (hs : a.eval s = .slice (some ⟨g, 0, none⟩) n cap) (hown : w.ownsRow base e size (.slice (some ⟨g, 0, none⟩) n cap) n xs)
    (F : Nat → Prop) (A : Option Addr) (m c : Nat) (news : List Value) (hx : a.eval x = .slice A m c) (hr : Rd w F size A m news) (h1 : ∀ u ∈ news, u.oneCell' = true) (hroom : n + m ≤ cap)
    (h : ∀ w', w'.ownsRow base e size (.slice (some ⟨g, 0, none⟩) (n + m) cap) (n + m) (xs ++ news) → w.grownBy w' (some g) → K (a.put o.dst (.slice (some ⟨g, 0, none⟩) (n + m) cap)) w') : o.wp P a w K Q := by
  obtain ⟨w', hrun, h2, h3⟩ := run_append_room_any (P := P) w base t o.type e i size ht hi hsize g n cap xs hown F A m c news hr h1 hroom
  unfold Oper.wp execOp
  simp only [ho, resolve, invoke, builtin, Sem.run_bind, Sem.run_pure, Result.andThen_ok, List.map_toArray, List.map_cons, List.map_nil, hs, hx, hrun]
  exact h w' h2 h3
theorem wpList_append_room {ops : Array Oper} {rest : List Oper} {o : Oper} {a : Act} {Q : Exit → Act → World → Prop} (hgd : o.guard = none) (s x : Operand) (t : TypeId)
    (ho : o.op = .call { callee := .builtin .append, args := #[s, x], argTypes := #[t, t] })
    (base : Nat) (e : TypeId) (i : TypeInfo) (size : Nat) (ht : P.underlying t = some (.slice e)) (hi : P.info? e = some i) (hsize : i.size = size)
    (g n cap : Nat) (xs : List Value) (hs : a.eval s = .slice (some ⟨g, 0, none⟩) n cap) (hown : w.ownsRow base e size (.slice (some ⟨g, 0, none⟩) n cap) n xs)
    (F : Nat → Prop) (A : Option Addr) (m c : Nat) (news : List Value) (hx : a.eval x = .slice A m c) (hr : Rd w F size A m news) (h1 : ∀ u ∈ news, u.oneCell' = true) (hroom : n + m ≤ cap)
    (h : ∀ w', w'.ownsRow base e size (.slice (some ⟨g, 0, none⟩) (n + m) cap) (n + m) (xs ++ news) → w.grownBy w' (some g) → wpList P ops Q rest (a.put o.dst (.slice (some ⟨g, 0, none⟩) (n + m) cap)) w') : wpList P ops Q (o :: rest) a w :=
  wpList_plain hgd fun _ hK => wp_append_room w s x t ho base e i size ht hi hsize g n cap xs hs hown F A m c news hx hr h1 hroom fun w' h2 h3 => hK _ _ (h w' h2 h3)
theorem step_append_room_any {ops : Array Oper} {o : Oper} {a : Act} {K : Act → World → Prop} {Q : Exit → Act → World → Prop} {E : Prop} (hgd : o.guard = none) (s x : Operand) (t : TypeId)
    (ho : o.op = .call { callee := .builtin .append, args := #[s, x], argTypes := #[t, t] })
    (base : Nat) (e : TypeId) (i : TypeInfo) (size : Nat) (ht : P.underlying t = some (.slice e)) (hi : P.info? e = some i) (hsize : i.size = size)
    (g n cap : Nat) (xs : List Value) (hs : a.eval s = .slice (some ⟨g, 0, none⟩) n cap) (hown : w.ownsRow base e size (.slice (some ⟨g, 0, none⟩) n cap) n xs)
    (F : Nat → Prop) (A : Option Addr) (m c : Nat) (news : List Value) (hx : a.eval x = .slice A m c) (hr : Rd w F size A m news) (h1 : ∀ u ∈ news, u.oneCell' = true) (hroom : n + m ≤ cap)
    (h : ∀ w', w'.ownsRow base e size (.slice (some ⟨g, 0, none⟩) (n + m) cap) (n + m) (xs ++ news) → w.grownBy w' (some g) → K (a.put o.dst (.slice (some ⟨g, 0, none⟩) (n + m) cap)) w') :
    if Region.wanted o (yielded ops a.tmps) = true then Oper.wp P o a w K Q else E := by
  have hw : Region.wanted o (yielded ops a.tmps) = true := by simp [Region.wanted, hgd]
  rw [if_pos hw]
  exact wp_append_room w s x t ho base e i size ht hi hsize g n cap xs hs hown F A m c news hx hr h1 hroom h
end
/-- a row that is full: its block, whole -/
theorem own_full {w : World} {base : Nat} {e : TypeId} {size g n : Nat} {xs : List Value} (h : w.ownsRow base e size (.slice (some ⟨g, 0, none⟩) n n) n xs) : Blk w g e xs.toArray := by
  rcases h.2 with ⟨h', _⟩ | ⟨g', cap, cur, h', _, hg, _, _, hs, ht⟩
  · cases h'
  · injection h' with e1 _ e3
    injection e1 with e1
    injection e1 with e1
    subst e1; subst e3
    have : cur.toList = xs := by rw [← ht, List.take_of_length_le (by rw [Array.length_toList, hs]; exact Nat.le_refl _)]
    unfold Blk
    rw [hg, ← this]
/-- a row that has just been made, with room -/
theorem own_room (w : World) (e : TypeId) (size c : Nat) (cs : Array Value) (hs : cs.size = c * size) (hc : c ≤ maxLen) : (w.alloc (.cells cs e)).ownsRow w.heap.size e size (.slice (some ⟨w.heap.size, 0, none⟩) 0 c) 0 [] :=
  ⟨by simp, .inr ⟨w.heap.size, c, cs, rfl, Nat.le_refl _, heap_alloc_new w _, Nat.zero_le _, hc, hs, by simp⟩⟩
end Go.Proofs.Ytgjphmlmndcaeaa

namespace Go.Proofs.Ytgjphmlmndcaeaa
open Go.RowKit

/-- a text in a block of its own, of F, and the mark behind it -/
def MK (w : World) (F : Nat → Prop) (v : Value) (bs : List UInt8) : Prop := ∃ k, v = .slice (some ⟨k, 0, none⟩) bs.length (bs.length + 1) ∧ F k ∧ bs.length + 1 ≤ maxLen ∧ Blk w k 5 (bvs (bs ++ [77])).toArray
section
variable {S F G : Nat → Prop} {w w' : World} {v : Value} {bs : List UInt8}
theorem MK.weak (h : MK w F v bs) (hF : ∀ b, F b → G b) : MK w G v bs := let ⟨k, h1, h2, h3, h4⟩ := h; ⟨k, h1, hF k h2, h3, h4⟩
theorem MK.chg (h : MK w F v bs) (hc : Chg S w w') (hs : ∀ b, F b → ¬ S b) : MK w' F v bs := let ⟨k, h1, h2, h3, h4⟩ := h; ⟨k, h1, h2, h3, h4.chg hc (hs k h2)⟩
theorem MK.below (h : MK w F v bs) (hb : Below w.heap.size w w') : MK w' F v bs := h.chg (Chg.of_below (S := Nil) hb) (fun _ _ hf => hf)
theorem MK.lt (h : MK w F v bs) : MK w (fun b => F b ∧ b < w.heap.size) v bs := let ⟨k, h1, h2, h3, h4⟩ := h; ⟨k, h1, ⟨h2, h4.lt⟩, h3, h4⟩
theorem MK.sb (h : MK w F v bs) : SB w F v bs := by
  obtain ⟨k, h1, h2, h3, h4⟩ := h
  refine ⟨_, _, _, h1, by omega, h3, rfl, by simp [bvs], fun hn => ⟨k, 0, rfl, h2, fun j u hj => ?_⟩⟩
  rw [Nat.zero_add, h4.cell]
  have hl : j < bs.length := by
    rcases Nat.lt_or_ge j bs.length with h | h
    · exact h
    · rw [List.getElem?_eq_none (by simpa [bvs] using h)] at hj; cases hj
  simp only [bvs, List.getElem?_map, List.getElem?_toArray] at hj ⊢
  rw [List.getElem?_append_left hl]
  exact hj
end

set_option maxRecDepth 100000 in
theorem marked_any (A : Option Addr) (n c : Nat) (F : Nat → Prop) (bs : List UInt8) (w : World) (h : Rd w F 1 A n (bvs bs)) (hn : n = bs.length) (hn2 : n ≤ 1152921504606) :
    Calls Try.prog 34 #[.slice A n c] w fun e w' => ∃ v, e = .returned v ∧ MK w' (From w.heap.size) v bs ∧ Below w.heap.size w w' := by
  obtain ⟨i0, hi0, hz0, hz1, hz2⟩ := info_parts u8_info
  have HN := Lib.hid hn
  have HH := Lib.hid h
  have hmk := run_make_rowN (P := Try.prog) 41 5 i0 (.int .u8 0) Try.underlying41 hi0 hz0 .i64 .i64 0 (n + 1) (by omega) (by rw [hz2]; omega) (by omega)
  rw [hz1] at hmk
  simp only [Int.natCast_add, Int.natCast_one, Int.natCast_zero, Nat.mul_one, Value.cells] at hmk
  clear hn h
  go_enter Try.func34, Try.ntmps34
  go_wp2_with (first | (at_builtin; refine wpList_append_room _ rfl (.tmp 6) (.tmp 7) _ rfl w.heap.size 5 i0 1 Try.underlying41 hi0 hz1 w.heap.size 0 (n + 1) [] rfl (own_room w 5 1 (n + 1) _ (by simp [size_madeCells]) (by simp only [maxLen]; omega)) F A n c (bvs bs) rfl (HH.out.alloc _) (bvs_one bs) (by omega) ?_; intro w1 hown1 hg1; rw [Nat.zero_add, List.nil_append] at hown1; rw [Nat.zero_add]; have HO1 := Lib.hid hown1; have hlw := hg1.size; clear hown1) | (at_builtin; refine wpList_append_room _ rfl (.tmp 8) (.tmp 9) _ rfl w.heap.size 5 i0 1 Try.underlying41 hi0 hz1 w.heap.size n (n + 1) (bvs bs) rfl (own_below HO1.out ((Below.refl _ _).alloc (Nat.le_refl _) _)) (From w1.heap.size) (some ⟨w1.heap.size, 0, none⟩) 1 1 [.int .u8 77] rfl (Rd.one w1 _ _) (by intro u hu; simp at hu; subst hu; rfl) (by omega) ?_; intro w2 hown2 hg2; have HO2 := Lib.hid hown2; clear hown2))
  go_ret
  have hB := own_full HO2.out
  have hlen : n = bs.length := HN.out
  subst hlen
  refine ⟨_, rfl, ⟨w.heap.size, rfl, Nat.le_refl _, by simp only [maxLen]; omega, ?_⟩, ?_⟩
  · have he : bvs bs ++ [.int .u8 77] = bvs (bs ++ [77]) := by simp [bvs, bv]
    rw [← he]; exact hB
  · exact (((((Below.refl _ _).alloc (Nat.le_refl _) _).grown hg1 (by simp) (fun k hk => by injection hk with hk; omega))).alloc (by simp at hlw; omega) _).grown hg2 (by simp; simp at hlw; omega) (fun k hk => by injection hk with hk; omega)

theorem entry_info : (Try.prog.info? 43).map (fun i => (i.zero, i.size, i.bytes)) = some (some (.agg #[.slice none 0 0, .slice none 0 0]), 2, 48) := by kernel_rfl

/-- the first k entries, copied, in the list's cells -/
def Marked (w : World) (F : Nat → Prop) (k : Nat) (l : List Ent) (xs : List Value) : Prop :=
  ∀ (i : Nat) (e : Ent), i < k → l[i]? = some e → ∃ u v, xs[2 * i]? = some u ∧ xs[2 * i + 1]? = some v ∧ MK w F u e.1 ∧ MK w F v e.2
section
variable {S F G : Nat → Prop} {w w' : World} {k : Nat} {l : List Ent} {xs : List Value}
theorem Marked.chg (h : Marked w F k l xs) (hc : Chg S w w') (hs : ∀ b, F b → ¬ S b) : Marked w' F k l xs := fun i e hi he => let ⟨u, v, a, b, c, d⟩ := h i e hi he; ⟨u, v, a, b, c.chg hc hs, d.chg hc hs⟩
theorem Marked.weak (h : Marked w F k l xs) (hF : ∀ b, F b → G b) : Marked w G k l xs := fun i e hi he => let ⟨u, v, a, b, c, d⟩ := h i e hi he; ⟨u, v, a, b, c.weak hF, d.weak hF⟩
theorem Marked.below (h : Marked w F k l xs) (hb : Below w.heap.size w w') : Marked w' F k l xs := h.chg (Chg.of_below (S := Nil) hb) (fun _ _ hf => hf)
theorem Marked.push (h : Marked w F k l xs) (hl : xs.length = k * 2) {e : Ent} (he : l[k]? = some e) {u v : Value} (hu : MK w F u e.1) (hv : MK w F v e.2) : Marked w F (k + 1) l (xs ++ [u, v]) := by
  intro i e' hi he'
  rcases Nat.lt_or_ge i k with h1 | h1
  · obtain ⟨a, b, q1, q2, q3, q4⟩ := h i e' h1 he'
    exact ⟨a, b, by rw [List.getElem?_append_left (by omega)]; exact q1, by rw [List.getElem?_append_left (by omega)]; exact q2, q3, q4⟩
  · obtain rfl : i = k := by omega
    rw [he] at he'
    injection he' with he'
    subst he'
    refine ⟨u, v, ?_, ?_, hu, hv⟩
    · rw [List.getElem?_append_right (by omega), show 2 * i - xs.length = 0 by omega]; rfl
    · rw [List.getElem?_append_right (by omega), show 2 * i + 1 - xs.length = 1 by omega]; rfl
theorem Marked.more (h : Marked w F k l xs) (ys : List Value) : Marked w F k l (xs ++ ys) := fun i e hi he => by
  obtain ⟨u, v, a, b, c, d⟩ := h i e hi he
  exact ⟨u, v, by rw [List.getElem?_append_left ((List.getElem?_eq_some_iff.1 a).1)]; exact a, by rw [List.getElem?_append_left ((List.getElem?_eq_some_iff.1 b).1)]; exact b, c, d⟩
end

/-- a copied list: its row, its texts, and the marks behind all -/
def Copied (w : World) (B : Nat) (A : Option Addr) (n c : Nat) (l : List Ent) : Prop :=
  ∃ g k77 xs, A = some ⟨g, 0, none⟩ ∧ c = n + 1 ∧ Hid (n = l.length) ∧ n ≤ 1152921504606 ∧ B ≤ g ∧ Blk w g 43 (xs ++ [.slice (some ⟨k77, 0, none⟩) 1 1, .slice none 0 0]).toArray ∧ xs.length = n * 2 ∧ Marked w (fun b => B ≤ b ∧ b ≠ g) n l xs ∧ B ≤ k77 ∧ k77 ≠ g ∧ Blk w k77 5 #[.int .u8 77]
/-- the answer is a copied list -/
def NewCopy (w : World) (n : Nat) (l : List Ent) (e : Ending) (w' : World) : Prop := ∃ A c, e = .returned (.slice A n c) ∧ Copied w' w.heap.size A n c l ∧ Below w.heap.size w w'

theorem keep2 {w w1 : World} {a b : Nat} {c d : Nat} {u v : Value} (hb : Below w.heap.size w w1) (h : w.cell? ⟨a, c, none⟩ = some u ∧ w.cell? ⟨b, d, none⟩ = some v) : w1.cell? ⟨a, c, none⟩ = some u ∧ w1.cell? ⟨b, d, none⟩ = some v := ⟨bkeep hb h.1, bkeep hb h.2⟩
theorem Rd.one2 (w : World) (u v : Value) (t : TypeId) : Rd (w.alloc (.cells #[u, v] t)) (From w.heap.size) 2 (some ⟨w.heap.size, 0, none⟩) 1 [u, v] :=
  ⟨rfl, fun _ => ⟨w.heap.size, 0, rfl, Nat.le_refl _, fun j x hj => by
    rw [(Blk.new w t #[u, v]).cell]
    match j, hj with
    | 0, hj => simpa using hj
    | 1, hj => simpa using hj⟩⟩
set_option maxRecDepth 100000 in
theorem copy_any (A : Option Addr) (n c : Nat) (F : Nat → Prop) (l : List Ent) (w : World) (h : Ents w F A n l) (hn2 : n ≤ 1152921504606) (hsm : ∀ e ∈ l, e.1.length ≤ 1152921504606 ∧ e.2.length ≤ 1152921504606) :
    Calls Try.prog 15 #[.slice A n c] w (NewCopy w n l) := by
  obtain ⟨i0, hi0, hz0, hz1, hz2⟩ := info_parts entry_info
  have HN := Lib.hid h.len
  have HH := Lib.hid h
  have HS := Lib.hid hsm
  have hmk := run_make_rowN (P := Try.prog) 37 43 i0 _ Try.underlying37 hi0 hz0 .i64 .i64 0 (n + 1) (by omega) (by rw [hz2]; omega) (by omega)
  rw [hz1] at hmk
  simp only [Int.natCast_add, Int.natCast_one, Int.natCast_zero] at hmk
  clear h hsm
  go_enter Try.func15, Try.ntmps15
  go_wp2
  go_loopg [3, 4] n (fun g vs i wr => ∃ (k : Nat) (xs : List Value), g = n - k ∧ k ≤ n ∧ i = .int .i64 k ∧ vs = .slice (some ⟨w.heap.size, 0, none⟩) k (n + 1) ∧ wr.ownsRow w.heap.size 43 2 (.slice (some ⟨w.heap.size, 0, none⟩) k (n + 1)) k xs ∧ Marked wr (From (w.heap.size + 1)) k l xs ∧ Below w.heap.size w wr)
  case atStart => exact ⟨0, [], by omega, by omega, rfl, rfl, own_room w 43 2 (n + 1) _ (by simp [size_madeCells, Value.cells]) (by simp only [maxLen]; omega), fun i e hi => absurd hi (by omega), (Below.refl _ _).alloc (Nat.le_refl _) _⟩
  case round =>
    obtain ⟨k, xs, hg, hk, rfl, rfl, hown, hma, hbl⟩ := hrel
    have HG := Lib.hid hg
    have HO := Lib.hid hown
    have HM := Lib.hid hma
    clear hg hown hma
    by_cases hlt : k < n
    · obtain ⟨b, o, Ak, nk, ck, Av, nv, cv, key, val, rfl, hFb, hl, c1', c2', h1, h2, h3, h4, h5, h6, h7, h8⟩ := HH.out.at_ hlt
      have HL := Lib.hid hl
      have H4 := Lib.hid (h4.below hbl)
      have H8 := Lib.hid (h8.below hbl)
      have s1 : nk ≤ 1152921504606 := by have h := h3.out; have h' := (HS.out _ (List.mem_of_getElem? hl)).1; simp only at h'; omega
      have s2 : nv ≤ 1152921504606 := by have h := h7.out; have h' := (HS.out _ (List.mem_of_getElem? hl)).2; simp only at h'; omega
      have c1 := bkeep hbl c1'
      have c2 := bkeep hbl c2'
      have hbw : b < w.heap.size := cell_lt c1'
      have hsz := hbl.size
      have S0 := And.intro c1 c2
      clear hl h4 h8 c1' c2'
      go_wp2
      refine wp_region_V (fun w' => w'.cell? ⟨b, o + k * 2, none⟩ = some (.slice Ak nk ck) ∧ w'.cell? ⟨b, o + k * 2 + 1, none⟩ = some (.slice Av nv cv)) (by kernel_rfl) ?_
      have S0' : wr.drew.cell? ⟨b, o + k * 2, none⟩ = some (.slice Ak nk ck) ∧ wr.drew.cell? ⟨b, o + k * 2 + 1, none⟩ = some (.slice Av nv cv) := S0
      refine wpV_take (i := 0) (v := ?_) rfl (by kernel_rfl) (by kernel_rfl) (by kernel_rfl) (by first | exact fun _ _ _ h => h | exact fun c a w h => HQP.out c _ a w h) S0' (Or.inl ⟨by kernel_rfl, ?_⟩) ?_
      rotate_left
      · intro w hSw
        go_simp
        try with_reducible rfl
      try simp only [Act.put, List.setIfInBounds_toArray, List.set_cons_zero, List.set_cons_succ]
      refine wpV_take (i := 1) (v := ?_) rfl (by kernel_rfl) (by kernel_rfl) (by kernel_rfl) (by first | exact fun _ _ _ h => h | exact fun c a w h => HQP.out c _ a w h) S0' (Or.inl ⟨by kernel_rfl, ?_⟩) ?_
      rotate_left
      · intro w hSw
        go_simp
        try with_reducible rfl
      try simp only [Act.put, List.setIfInBounds_toArray, List.set_cons_zero, List.set_cons_succ]
      refine wpV_take (i := 2) (v := ?_) rfl (by kernel_rfl) (by kernel_rfl) (by kernel_rfl) (by first | exact fun _ _ _ h => h | exact fun c a w h => HQP.out c _ a w h) S0' (Or.inl ⟨by kernel_rfl, ?_⟩) ?_
      rotate_left
      · intro w hSw
        go_simp
        try with_reducible rfl
      try simp only [Act.put, List.setIfInBounds_toArray, List.set_cons_zero, List.set_cons_succ]
      refine wpV_take (i := 3) (v := ?_) rfl (by kernel_rfl) (by kernel_rfl) (by kernel_rfl) (by first | exact fun _ _ _ h => h | exact fun c a w h => HQP.out c _ a w h) S0' (Or.inl ⟨by kernel_rfl, ?_⟩) ?_
      rotate_left
      · intro w hSw
        go_simp
        try with_reducible rfl
      try simp only [Act.put, List.setIfInBounds_toArray, List.set_cons_zero, List.set_cons_succ]
      refine wpV_take (i := 4) (v := ?_) rfl (by kernel_rfl) (by kernel_rfl) (by kernel_rfl) (by first | exact fun _ _ _ h => h | exact fun c a w h => HQP.out c _ a w h) S0' (Or.inl ⟨by kernel_rfl, ?_⟩) ?_
      rotate_left
      · intro w hSw
        go_simp
        try with_reducible rfl
      try simp only [Act.put, List.setIfInBounds_toArray, List.set_cons_zero, List.set_cons_succ]
      refine wpV_take (i := 7) (v := ?_) rfl (by kernel_rfl) (by kernel_rfl) (by kernel_rfl) (by first | exact fun _ _ _ h => h | exact fun c a w h => HQP.out c _ a w h) S0' (Or.inl ⟨by kernel_rfl, ?_⟩) ?_
      rotate_left
      · intro w hSw
        go_simp
        try with_reducible rfl
      try simp only [Act.put, List.setIfInBounds_toArray, List.set_cons_zero, List.set_cons_succ]
      refine wpV_take (i := 8) (v := ?_) rfl (by kernel_rfl) (by kernel_rfl) (by kernel_rfl) (by first | exact fun _ _ _ h => h | exact fun c a w h => HQP.out c _ a w h) S0' (Or.inl ⟨by kernel_rfl, ?_⟩) ?_
      rotate_left
      · intro w hSw
        go_simp
        try with_reducible rfl
      try simp only [Act.put, List.setIfInBounds_toArray, List.set_cons_zero, List.set_cons_succ]
      refine wpV_take (i := 9) (v := ?_) rfl (by kernel_rfl) (by kernel_rfl) (by kernel_rfl) (by first | exact fun _ _ _ h => h | exact fun c a w h => HQP.out c _ a w h) S0' (Or.inl ⟨by kernel_rfl, ?_⟩) ?_
      rotate_left
      · intro w hSw
        go_simp
        try with_reducible rfl
      try simp only [Act.put, List.setIfInBounds_toArray, List.set_cons_zero, List.set_cons_succ]
      refine wpV_take (i := 10) (v := ?_) rfl (by kernel_rfl) (by kernel_rfl) (by kernel_rfl) (by first | exact fun _ _ _ h => h | exact fun c a w h => HQP.out c _ a w h) S0' (Or.inl ⟨by kernel_rfl, ?_⟩) ?_
      rotate_left
      · intro w hSw
        go_simp
        try with_reducible rfl
      try simp only [Act.put, List.setIfInBounds_toArray, List.set_cons_zero, List.set_cons_succ]
      refine wpV_take (i := 5) (v := ?_) rfl (by kernel_rfl) (by kernel_rfl) (by kernel_rfl) (by first | exact fun _ _ _ h => h | exact fun c a w h => HQP.out c _ a w h) S0' (Or.inl ⟨by kernel_rfl, ?_⟩) ?_
      rotate_left
      · intro w hSw
        obtain ⟨s1, s2⟩ := hSw
        go_simp
        try with_reducible rfl
      try simp only [Act.put, List.setIfInBounds_toArray, List.set_cons_zero, List.set_cons_succ]
      refine wpV_take (i := 11) (v := ?_) rfl (by kernel_rfl) (by kernel_rfl) (by kernel_rfl) (by first | exact fun _ _ _ h => h | exact fun c a w h => HQP.out c _ a w h) S0' (Or.inl ⟨by kernel_rfl, ?_⟩) ?_
      rotate_left
      · intro w hSw
        obtain ⟨s1, s2⟩ := hSw
        go_simp
        try with_reducible rfl
      try simp only [Act.put, List.setIfInBounds_toArray, List.set_cons_zero, List.set_cons_succ]
      refine wpV_one (i := 6) (by kernel_rfl) rfl (fun K hK => ?_)
      go_simp
      refine (marked_any Ak nk ck F key _ H4.out.drew h3.out s1).mono ?_; rintro e w1 ⟨_, rfl, ⟨ku, rfl, m1⟩, hb1⟩
      refine hK.out _ _ (keep2 hb1 S0') ?_
      clear hK K
      try simp only [Act.put, List.setIfInBounds_toArray, List.set_cons_zero, List.set_cons_succ]
      refine wpV_one (i := 12) (by kernel_rfl) rfl (fun K hK => ?_)
      go_simp
      refine (marked_any Av nv cv F val _ (H8.out.drew.below hb1) h7.out s2).mono ?_; rintro e w2 ⟨_, rfl, ⟨kv, rfl, m2⟩, hb2⟩
      refine hK.out _ _ (keep2 hb2 (keep2 hb1 S0')) ?_
      clear hK K
      try simp only [Act.put, List.setIfInBounds_toArray, List.set_cons_zero, List.set_cons_succ]
      refine wpV_take (i := 13) (v := ?_) rfl (by kernel_rfl) (by kernel_rfl) (by kernel_rfl) (by first | exact fun _ _ _ h => h | exact fun c a w h => HQP.out c _ a w h) (keep2 hb2 (keep2 hb1 S0')) (Or.inl ⟨by kernel_rfl, ?_⟩) ?_
      rotate_left
      · intro w hSw
        go_simp
        try with_reducible rfl
      try simp only [Act.put, List.setIfInBounds_toArray, List.set_cons_zero, List.set_cons_succ]
      refine wpV_one (i := 14) (by kernel_rfl) rfl (fun K hK => ?_)
      go_simp
      have hb3 : Below w2.heap.size w2 (w2.alloc (.cells #[.slice (some ⟨ku, 0, none⟩) key.length (key.length + 1), .slice (some ⟨kv, 0, none⟩) val.length (val.length + 1)] 43)) := (Below.refl _ _).alloc (Nat.le_refl _) _
      refine hK.out _ _ (keep2 hb3 (keep2 hb2 (keep2 hb1 S0'))) ?_
      clear hK K
      try simp only [Act.put, List.setIfInBounds_toArray, List.set_cons_zero, List.set_cons_succ]
      refine wpV_one (i := 15) (by kernel_rfl) rfl (fun K hK => ?_)
      refine step_append_room_any _ rfl (.tmp 15) (.tmp 29) _ rfl w.heap.size 43 i0 2 Try.underlying37 hi0 hz1 w.heap.size k (n + 1) xs rfl (own_below (own_below (own_below HO.out.drew hb1) hb2) ((Below.refl _ _).alloc (Nat.le_refl _) _)) (From w2.heap.size) (some ⟨w2.heap.size, 0, none⟩) 1 1 [.slice (some ⟨ku, 0, none⟩) key.length (key.length + 1), .slice (some ⟨kv, 0, none⟩) val.length (val.length + 1)] rfl (Rd.one2 w2 _ _ _) (by intro u hu; simp at hu; rcases hu with hu | hu <;> subst hu <;> rfl) (by omega) ?_; intro w3 hown3 hg3; have hc3 := (Chg.refl (One w.heap.size) _).grown hg3 (fun k hk _ => by injection hk with hk; exact hk.symm); have S3 := keep2 hb3 (keep2 hb2 (keep2 hb1 S0')); have hnb : ¬ One w.heap.size b := fun e => by have e : b = w.heap.size := e; omega
      refine hK.out _ _ ⟨hc3.cell hnb S3.1, hc3.cell hnb S3.2⟩ ?_
      clear hK K
      try simp only [Act.put, List.setIfInBounds_toArray, List.set_cons_zero, List.set_cons_succ]
      refine wpV_take (i := 16) (v := ?_) rfl (by kernel_rfl) (by kernel_rfl) (by kernel_rfl) (by first | exact fun _ _ _ h => h | exact fun c a w h => HQP.out c _ a w h) ⟨hc3.cell hnb S3.1, hc3.cell hnb S3.2⟩ (Or.inl ⟨by kernel_rfl, ?_⟩) ?_
      rotate_left
      · intro w hSw
        go_simp
        try with_reducible rfl
      try simp only [Act.put, List.setIfInBounds_toArray, List.set_cons_zero, List.set_cons_succ]
      refine wpV_done (by kernel_rfl) ?_ _
      have hz1' := hb1.size
      have hz2' := hb2.size
      have HO3 := Lib.hid hown3
      have hzz : wr.drew.heap.size = wr.heap.size := rfl
      have BB : Below wr.heap.size wr (w2.alloc (.cells #[.slice (some ⟨ku, 0, none⟩) key.length (key.length + 1), .slice (some ⟨kv, 0, none⟩) val.length (val.length + 1)] 43)) := (Below.refl wr.heap.size wr).drew.trans (hb1.trans ((hb2.mono hz1').alloc (by omega) _))
      have BB2 : Below w1.heap.size w1 (w2.alloc (.cells #[.slice (some ⟨ku, 0, none⟩) key.length (key.length + 1), .slice (some ⟨kv, 0, none⟩) val.length (val.length + 1)] 43)) := hb2.alloc hz2' _
      have BB3 : Below w2.heap.size w2 (w2.alloc (.cells #[.slice (some ⟨ku, 0, none⟩) key.length (key.length + 1), .slice (some ⟨kv, 0, none⟩) val.length (val.length + 1)] 43)) := (Below.refl _ _).alloc (Nat.le_refl _) _
      have hn1 : ∀ b, From (w.heap.size + 1) b → ¬ One w.heap.size b := fun b h e => by simp only [From, One] at h e; omega
      have hwl : w.heap.size < wr.heap.size := (own_lt HO.out _ rfl).2
      have HM3 := Lib.hid (((HM.out.below BB).chg hc3 hn1).push (by have := HO.out.1; omega) HL.out
        ((show MK w1 (From wr.drew.heap.size) _ key from ⟨ku, rfl, m1⟩).weak (G := From (w.heap.size + 1)) (fun b hb => by simp only [From] at hb ⊢; omega) |>.below BB2 |>.chg hc3 hn1)
        ((show MK w2 (From w1.heap.size) _ val from ⟨kv, rfl, m2⟩).weak (G := From (w.heap.size + 1)) (fun b hb => by simp only [From] at hb ⊢; omega) |>.below BB3 |>.chg hc3 hn1))
      have HB3 := Lib.hid ((hbl.trans (BB.mono hsz)).grown hg3 (by have := BB.size; omega) (fun k hk => by injection hk with hk; omega))
      clear hown3 hg3 hc3 m1 m2 hb1 hb2 BB BB2 BB3 S0 S0' c1 c2
      go_wp2
      go_roundg (n - (k + 1))
      case measure => have := HG.out; omega
      case rel => exact ⟨k + 1, _, rfl, by omega, by go_num, rfl, HO3.out, HM3.out, HB3.out⟩
    · have hk' : k = n := by omega
      subst hk'
      have hsz := hbl.size
      have hwl : w.heap.size < wr.heap.size := (own_lt HO.out _ rfl).2
      go_wp2_with (at_builtin; refine wpList_append_room _ rfl (.tmp 31) (.tmp 34) _ rfl w.heap.size 43 i0 2 Try.underlying37 hi0 hz1 w.heap.size k (k + 1) xs rfl (own_below HO.out (((Below.refl _ _).alloc (Nat.le_refl _) _).alloc (by simp) _)) (From (wr.heap.size + 1)) (some ⟨wr.heap.size + 1, 0, none⟩) 1 1 [.slice (some ⟨wr.heap.size, 0, none⟩) 1 1, .slice none 0 0] rfl (by have := Rd.one2 (wr.alloc (.cells #[.int .u8 77] 5)) (.slice (some ⟨wr.heap.size, 0, none⟩) 1 1) (.slice none 0 0) 43; simpa using this) (by intro u hu; simp at hu; rcases hu with hu | hu <;> subst hu <;> rfl) (by omega) ?_; intro w3 hown3 hg3)
      have hf := own_full hown3
      have hl := hown3.1
      have BB : Below wr.heap.size wr ((wr.alloc (.cells #[.int .u8 77] 5)).alloc (.cells #[.slice (some ⟨wr.heap.size, 0, none⟩) 1 1, .slice none 0 0] 43)) := ((Below.refl _ _).alloc (Nat.le_refl _) _).alloc (by simp) _
      have hc3 := (Chg.refl (One w.heap.size) _).grown hg3 (fun k hk _ => by injection hk with hk; exact hk.symm)
      have hn1 : ∀ b, From (w.heap.size + 1) b → ¬ One w.heap.size b := fun b h e => by simp only [From, One] at h e; omega
      have h77 : Blk ((wr.alloc (.cells #[.int .u8 77] 5)).alloc (.cells #[.slice (some ⟨wr.heap.size, 0, none⟩) 1 1, .slice none 0 0] 43)) wr.heap.size 5 #[.int .u8 77] := (Blk.new _ _ _).alloc _
      have h77' := h77.chg hc3 (fun e => by have e : wr.heap.size = w.heap.size := e; omega)
      go_wp2
      go_ret
      exact ⟨_, _, rfl, ⟨w.heap.size, wr.heap.size, xs, rfl, rfl, HN.out, hn2, Nat.le_refl _, hf, HO.out.1, ((HM.out.below BB).chg hc3 hn1).weak (fun b hb => by simp only [From] at hb; exact ⟨by omega, by omega⟩), hsz, by omega, h77'⟩,
        (hbl.trans (BB.mono hsz)).grown hg3 (by have := BB.size; omega) (fun k hk => by injection hk with hk; omega)⟩
end Go.Proofs.Ytgjphmlmndcaeaa
