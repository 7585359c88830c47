/- WALKS: a level of a tree, link by link (shape.chain): where all is right. WALKS: a level of a tree, link by link: parts of a round. WALKS: a level of a tree, link by link: the loop. WALKS: which latches are held; the document's arena. -/
import Derived.Test.YtgjphmlmndcaeaaPs11
import Derived.Test.YtgjphmlmndcaeaaPs15
import Derived.Test.YtgjphmlmndcaeaaPs12
import Derived.WalkMore
import Derived.Test.YtgjphmlmndcaeaaPs10
set_option linter.unusedVariables false
set_option linter.unusedSimpArgs false
namespace Go.Proofs.Ytgjphmlmndcaeaa
open Go.RowKit Go.Maps
open Go.Lib (compareBytes)
theorem link_info : (Try.prog.info? 106).map (fun i => (i.zero, i.size, i.bytes)) = some (some (.agg #[.int .i64 0, .slice none 0 0, .int .i64 0, .slice none 0 0, .int .i64 0, .slice none 0 0, .slice none 0 0, .slice none 0 0]), 8, 144) := by kernel_rfl
noncomputable def chKeyC : Code := codeOr (Try.f76.body.bind (regionAt 11))
noncomputable def chHighC : Code := codeOr (Try.f76.body.bind (regionAt 12))
set_option maxRecDepth 100000 in
theorem ch_key (F : Nat → Prop) (q : Nat) (id : Int) (low : List UInt8) (x : Nd) (lA hA kA vA dA : Option Addr) (ln lc hn hc kn kc vn vc dn dc : Nat) (w : World) {u0 u1 u2 u3 u4 u5 u6 u7 u8 u9 u10 u11 u15 u16 u17 u18 u19 u20 u21 u22 u23 u24 u25 u26 u27 u28 u29 u30 u31 u32 u33 u34 u35 u36 u37 u38 u39 u40 u41 u42 u43 u44 u45 u46 u47 u48 u49 u50 u51 u52 u53 u54 u55 u56 u57 u58 u59 u60 u61 u62 u63 u64 u65 u66 u67 u68 u69 u70 u71 u72 u73 u74 u75 u76 u77 u78 u79 u80 u81 u82 u83 u84 u85 u86 u87 u88 u89 u90 u91 u92 u93 u94 u95 u96 u97 u98 u99 u100 u101 u102 u103 u104 : Value} (Q : Exit → Act → World → Prop)
    (HK : Hid (Blk w q 93 #[.int .i64 x.lev, .slice hA hn hc, .int .i64 x.right, .slice kA kn kc, .slice vA vn vc, .slice dA dn dc])) (HV : Hid (NdV w F x hA kA vA dA hn hc kn kc vn vc dn dc)) (HL : Hid (Bt w F lA ln lc low))
    (hlow : ∀ a, x.keys[0]? = some a → TLe low a) (hexit : ∀ (v51 v52 v53 v54 v55 v56 v57 v58 v59 v60 v61 v62 v63 v64 v65 v66 v67 : Value), Q .normal ⟨(u0 :: u1 :: u2 :: u3 :: u4 :: u5 :: u6 :: u7 :: u8 :: u9 :: u10 :: u11 :: .slice lA ln lc :: .int .i64 id :: .pointer (some ⟨q, 0, none⟩) :: u15 :: u16 :: u17 :: u18 :: u19 :: u20 :: u21 :: u22 :: u23 :: u24 :: u25 :: u26 :: u27 :: u28 :: u29 :: u30 :: u31 :: u32 :: u33 :: u34 :: u35 :: u36 :: u37 :: u38 :: u39 :: u40 :: u41 :: u42 :: u43 :: u44 :: u45 :: u46 :: u47 :: u48 :: u49 :: u50 :: v51 :: v52 :: v53 :: v54 :: v55 :: v56 :: v57 :: v58 :: v59 :: v60 :: v61 :: v62 :: v63 :: v64 :: v65 :: v66 :: v67 :: u68 :: u69 :: u70 :: u71 :: u72 :: u73 :: u74 :: u75 :: u76 :: u77 :: u78 :: u79 :: u80 :: u81 :: u82 :: u83 :: u84 :: u85 :: u86 :: u87 :: u88 :: u89 :: u90 :: u91 :: u92 :: u93 :: u94 :: u95 :: u96 :: u97 :: u98 :: u99 :: u100 :: u101 :: u102 :: u103 :: u104 :: []).toArray, []⟩ w) :
    Code.wp Try.prog chKeyC Q ⟨(u0 :: u1 :: u2 :: u3 :: u4 :: u5 :: u6 :: u7 :: u8 :: u9 :: u10 :: u11 :: .slice lA ln lc :: .int .i64 id :: .pointer (some ⟨q, 0, none⟩) :: u15 :: u16 :: u17 :: u18 :: u19 :: u20 :: u21 :: u22 :: u23 :: u24 :: u25 :: u26 :: u27 :: u28 :: u29 :: u30 :: u31 :: u32 :: u33 :: u34 :: u35 :: u36 :: u37 :: u38 :: u39 :: u40 :: u41 :: u42 :: u43 :: u44 :: u45 :: u46 :: u47 :: u48 :: u49 :: u50 :: u51 :: u52 :: u53 :: u54 :: u55 :: u56 :: u57 :: u58 :: u59 :: u60 :: u61 :: u62 :: u63 :: u64 :: u65 :: u66 :: u67 :: u68 :: u69 :: u70 :: u71 :: u72 :: u73 :: u74 :: u75 :: u76 :: u77 :: u78 :: u79 :: u80 :: u81 :: u82 :: u83 :: u84 :: u85 :: u86 :: u87 :: u88 :: u89 :: u90 :: u91 :: u92 :: u93 :: u94 :: u95 :: u96 :: u97 :: u98 :: u99 :: u100 :: u101 :: u102 :: u103 :: u104 :: []).toArray, []⟩ w := by
  have HEX := Lib.hid hexit
  have HLO := Lib.hid hlow
  obtain ⟨z0, z1, z2, z3, z4, z5⟩ := cells6 HK.out
  clear hexit hlow
  conv => arg 2; whnf
  by_cases h0 : kn = 0
  · subst h0
    go_wp2_with (go_at_call 75; refine (need_true _ _ _).mono ?_; rintro e w' ⟨rfl, rfl⟩)
    exact HEX.out _ _ _ _ _ _ _ _ _ _ _ _ _ _ _ _ _
  · have h0' : 0 < kn := by omega
    have h1 : (0 : Int) < (kn : Int) := by omega
    obtain ⟨b, o, Ak, nk, ck, t, rfl, _, he, c1, q1, q2, q3, q4⟩ := HV.out.k.at_ (k := 0) h0'
    rw [Nat.add_zero] at c1
    have hd : decide (0 ≤ compareBytes t low) = true := decide_eq_true (HLO.out t he).ge
    clear he
    go_wp2_with (first | (go_at_call 75; refine (need_true _ _ _).mono ?_; rintro e w' ⟨rfl, rfl⟩) | (go_at_call 36; refine (compare_any _ _ _ _ _ _ F F t low _ q4 q3.out HL.out.2.2.2 HL.out.len).mono ?_; rintro e w' ⟨rfl, rfl⟩))
    exact HEX.out _ _ _ _ _ _ _ _ _ _ _ _ _ _ _ _ _
set_option maxRecDepth 100000 in
theorem ch_high (F : Nat → Prop) (q : Nat) (id : Int) (low : List UInt8) (x : Nd) (lA hA kA vA dA : Option Addr) (ln lc hn hc kn kc vn vc dn dc : Nat) (w : World) {u0 u1 u2 u3 u4 u5 u6 u7 u8 u9 u10 u11 u15 u16 u17 u18 u19 u20 u21 u22 u23 u24 u25 u26 u27 u28 u29 u30 u31 u32 u33 u34 u35 u36 u37 u38 u39 u40 u41 u42 u43 u44 u45 u46 u47 u48 u49 u50 u51 u52 u53 u54 u55 u56 u57 u58 u59 u60 u61 u62 u63 u64 u65 u66 u67 u68 u69 u70 u71 u72 u73 u74 u75 u76 u77 u78 u79 u80 u81 u82 u83 u84 u85 u86 u87 u88 u89 u90 u91 u92 u93 u94 u95 u96 u97 u98 u99 u100 u101 u102 u103 u104 : Value} (Q : Exit → Act → World → Prop)
    (HK : Hid (Blk w q 93 #[.int .i64 x.lev, .slice hA hn hc, .int .i64 x.right, .slice kA kn kc, .slice vA vn vc, .slice dA dn dc])) (HV : Hid (NdV w F x hA kA vA dA hn hc kn kc vn vc dn dc)) (HL : Hid (Bt w F lA ln lc low))
    (hlow : x.high = [] ∨ TLt low x.high) (hexit : ∀ (v68 v69 v70 v71 v72 v73 v74 v75 v76 v77 v78 v79 v80 v81 v82 : Value), Q .normal ⟨(u0 :: u1 :: u2 :: u3 :: u4 :: u5 :: u6 :: u7 :: u8 :: u9 :: u10 :: u11 :: .slice lA ln lc :: .int .i64 id :: .pointer (some ⟨q, 0, none⟩) :: u15 :: u16 :: u17 :: u18 :: u19 :: u20 :: u21 :: u22 :: u23 :: u24 :: u25 :: u26 :: u27 :: u28 :: u29 :: u30 :: u31 :: u32 :: u33 :: u34 :: u35 :: u36 :: u37 :: u38 :: u39 :: u40 :: u41 :: u42 :: u43 :: u44 :: u45 :: u46 :: u47 :: u48 :: u49 :: u50 :: u51 :: u52 :: u53 :: u54 :: u55 :: u56 :: u57 :: u58 :: u59 :: u60 :: u61 :: u62 :: u63 :: u64 :: u65 :: u66 :: u67 :: v68 :: v69 :: v70 :: v71 :: v72 :: v73 :: v74 :: v75 :: v76 :: v77 :: v78 :: v79 :: v80 :: v81 :: v82 :: u83 :: u84 :: u85 :: u86 :: u87 :: u88 :: u89 :: u90 :: u91 :: u92 :: u93 :: u94 :: u95 :: u96 :: u97 :: u98 :: u99 :: u100 :: u101 :: u102 :: u103 :: u104 :: []).toArray, []⟩ w) :
    Code.wp Try.prog chHighC Q ⟨(u0 :: u1 :: u2 :: u3 :: u4 :: u5 :: u6 :: u7 :: u8 :: u9 :: u10 :: u11 :: .slice lA ln lc :: .int .i64 id :: .pointer (some ⟨q, 0, none⟩) :: u15 :: u16 :: u17 :: u18 :: u19 :: u20 :: u21 :: u22 :: u23 :: u24 :: u25 :: u26 :: u27 :: u28 :: u29 :: u30 :: u31 :: u32 :: u33 :: u34 :: u35 :: u36 :: u37 :: u38 :: u39 :: u40 :: u41 :: u42 :: u43 :: u44 :: u45 :: u46 :: u47 :: u48 :: u49 :: u50 :: u51 :: u52 :: u53 :: u54 :: u55 :: u56 :: u57 :: u58 :: u59 :: u60 :: u61 :: u62 :: u63 :: u64 :: u65 :: u66 :: u67 :: u68 :: u69 :: u70 :: u71 :: u72 :: u73 :: u74 :: u75 :: u76 :: u77 :: u78 :: u79 :: u80 :: u81 :: u82 :: u83 :: u84 :: u85 :: u86 :: u87 :: u88 :: u89 :: u90 :: u91 :: u92 :: u93 :: u94 :: u95 :: u96 :: u97 :: u98 :: u99 :: u100 :: u101 :: u102 :: u103 :: u104 :: []).toArray, []⟩ w := by
  have HEX := Lib.hid hexit
  obtain ⟨z0, z1, z2, z3, z4, z5⟩ := cells6 HK.out
  have hl := HV.out.h.len
  by_cases h0 : hn = 0
  · clear hexit hlow hl
    conv => arg 2; whnf
    subst h0
    go_wp2_with (go_at_call 75; refine (need_true _ _ _).mono ?_; rintro e w' ⟨rfl, rfl⟩)
    exact HEX.out _ _ _ _ _ _ _ _ _ _ _ _ _ _ _
  · have hlt : TLt low x.high := hlow.resolve_left (fun e => h0 (by rw [hl, e]; rfl))
    have hd : decide (0 < compareBytes x.high low) = true := decide_eq_true hlt.gt
    have HHL := Lib.hid hl
    clear hexit hlow hl hlt
    conv => arg 2; whnf
    go_wp2_with (first | (go_at_call 75; refine (need_true _ _ _).mono ?_; rintro e w' ⟨rfl, rfl⟩) | (go_at_call 36; refine (compare_any _ _ _ _ _ _ F F x.high low _ HV.out.h.2.2.2 HHL.out HL.out.2.2.2 HL.out.len).mono ?_; rintro e w' ⟨rfl, rfl⟩))
    exact HEX.out _ _ _ _ _ _ _ _ _ _ _ _ _ _ _
end Go.Proofs.Ytgjphmlmndcaeaa

namespace Go.Proofs.Ytgjphmlmndcaeaa
open Go.RowKit Go.Maps
open Go.Lib (compareBytes)
noncomputable def chMetC : Code := codeOr (Try.f76.body.bind (regionAt 13))
noncomputable def chAppC : Code := codeOr (Try.f76.body.bind (regionAt 14))
noncomputable def chNextC : Code := codeOr (Try.f76.body.bind (regionAt 16))
set_option maxRecDepth 100000 in
theorem ch_met (mb n : Nat) (id : Int) (f : Int → Int) (w : World) {u0 u1 u2 u3 u5 u6 u7 u8 u9 u10 u11 u12 u14 u15 u16 u17 u18 u19 u20 u21 u22 u23 u24 u25 u26 u27 u28 u29 u30 u31 u32 u33 u34 u35 u36 u37 u38 u39 u40 u41 u42 u43 u44 u45 u46 u47 u48 u49 u50 u51 u52 u53 u54 u55 u56 u57 u58 u59 u60 u61 u62 u63 u64 u65 u66 u67 u68 u69 u70 u71 u72 u73 u74 u75 u76 u77 u78 u79 u80 u81 u82 u83 u84 u85 u86 u87 u88 u89 u90 u91 u92 u93 u94 u95 u96 u97 u98 u99 u100 u101 u102 u103 u104 : Value} (Q : Exit → Act → World → Prop) (HM : Hid (MapII w mb n f)) (h0 : f id = 0) (h1 : -9223372036854775808 ≤ id) (h2 : id ≤ 9223372036854775807) (hn : n ≤ 1000000000)
    (hexit : ∀ (v83 v84 v85 v86 : Value) (w' : World), MapII w' mb (n + 1) (fun j => if j = id then 1 else f j) → Chg (One mb) w w' → Q .normal ⟨(u0 :: u1 :: u2 :: u3 :: .map (some mb) :: u5 :: u6 :: u7 :: u8 :: u9 :: u10 :: u11 :: u12 :: .int .i64 id :: u14 :: u15 :: u16 :: u17 :: u18 :: u19 :: u20 :: u21 :: u22 :: u23 :: u24 :: u25 :: u26 :: u27 :: u28 :: u29 :: u30 :: u31 :: u32 :: u33 :: u34 :: u35 :: u36 :: u37 :: u38 :: u39 :: u40 :: u41 :: u42 :: u43 :: u44 :: u45 :: u46 :: u47 :: u48 :: u49 :: u50 :: u51 :: u52 :: u53 :: u54 :: u55 :: u56 :: u57 :: u58 :: u59 :: u60 :: u61 :: u62 :: u63 :: u64 :: u65 :: u66 :: u67 :: u68 :: u69 :: u70 :: u71 :: u72 :: u73 :: u74 :: u75 :: u76 :: u77 :: u78 :: u79 :: u80 :: u81 :: u82 :: v83 :: v84 :: v85 :: v86 :: u87 :: u88 :: u89 :: u90 :: u91 :: u92 :: u93 :: u94 :: u95 :: u96 :: u97 :: u98 :: u99 :: u100 :: u101 :: u102 :: u103 :: u104 :: []).toArray, []⟩ w') :
    Code.wp Try.prog chMetC Q ⟨(u0 :: u1 :: u2 :: u3 :: .map (some mb) :: u5 :: u6 :: u7 :: u8 :: u9 :: u10 :: u11 :: u12 :: .int .i64 id :: u14 :: u15 :: u16 :: u17 :: u18 :: u19 :: u20 :: u21 :: u22 :: u23 :: u24 :: u25 :: u26 :: u27 :: u28 :: u29 :: u30 :: u31 :: u32 :: u33 :: u34 :: u35 :: u36 :: u37 :: u38 :: u39 :: u40 :: u41 :: u42 :: u43 :: u44 :: u45 :: u46 :: u47 :: u48 :: u49 :: u50 :: u51 :: u52 :: u53 :: u54 :: u55 :: u56 :: u57 :: u58 :: u59 :: u60 :: u61 :: u62 :: u63 :: u64 :: u65 :: u66 :: u67 :: u68 :: u69 :: u70 :: u71 :: u72 :: u73 :: u74 :: u75 :: u76 :: u77 :: u78 :: u79 :: u80 :: u81 :: u82 :: u83 :: u84 :: u85 :: u86 :: u87 :: u88 :: u89 :: u90 :: u91 :: u92 :: u93 :: u94 :: u95 :: u96 :: u97 :: u98 :: u99 :: u100 :: u101 :: u102 :: u103 :: u104 :: []).toArray, []⟩ w := by
  have HEX := Lib.hid hexit
  have hl : (Instr.lookup 107 (.map (some mb)) (.int .i64 id) false).run Try.prog w = .ok (.int .i64 0) w := by
    have := HM.out.look h1 h2
    rw [h0] at this
    exact this
  clear hexit
  conv => arg 2; whnf
  go_wp2_with (at_mapUpdate; go_loud (refine wpList_MapII_put rfl _ _ _ rfl rfl HM.out (by unfold maxLen; omega) id 1 rfl rfl h1 h2 (by omega) (by omega) ?_); intro w1 hm1 hc1; have HM1 := Lib.hid hm1; have HC1 := Lib.hid hc1; clear hm1 hc1)
  exact HEX.out _ _ _ _ _ HM1.out HC1.out
set_option maxRecDepth 100000 in
theorem ch_app (base i q : Nat) (id : Int) (low : List UInt8) (x : Nd) (out : Value) (us : List Value) (f : Nat → Lk) (lA hA kA vA dA : Option Addr) (ln lc hn hc kn kc vn vc dn dc : Nat) (w : World) {u0 u1 u2 u3 u4 u5 u6 u7 u8 u9 u10 u15 u16 u17 u18 u19 u20 u21 u22 u23 u24 u25 u26 u27 u28 u29 u30 u31 u32 u33 u34 u35 u36 u37 u38 u39 u40 u41 u42 u43 u44 u45 u46 u47 u48 u49 u50 u51 u52 u53 u54 u55 u56 u57 u58 u59 u60 u61 u62 u63 u64 u65 u66 u67 u68 u69 u70 u71 u72 u73 u74 u75 u76 u77 u78 u79 u80 u81 u82 u83 u84 u85 u86 u87 u88 u89 u90 u91 u92 u93 u94 u95 u96 u97 u98 u99 u100 u101 u102 u103 u104 : Value} (Q : Exit → Act → World → Prop)
    (HK : Hid (Blk w q 93 #[.int .i64 x.lev, .slice hA hn hc, .int .i64 x.right, .slice kA kn kc, .slice vA vn vc, .slice dA dn dc])) (HV : Hid (NdV w (fun b => base ≤ b ∧ out.ownBlock ≠ some b) x hA kA vA dA hn hc kn kc vn vc dn dc)) (HL : Hid (Bt w (fun b => base ≤ b ∧ out.ownBlock ≠ some b) lA ln lc low))
    (HCH : Hid (Ch w base out i us f)) (hf : f i = (id, low, x)) (hi : i ≤ 100000) (hbase : base ≤ w.heap.size) (hq : base ≤ q) (hqo : out.ownBlock ≠ some q)
    (hexit : ∀ (out2 : Value) (v87 v88 v89 v90 v91 v92 v93 : Value) (us' : List Value) (w' : World), Ch w' base out2 (i + 1) us' f → Blk w' q 93 #[.int .i64 x.lev, .slice hA hn hc, .int .i64 x.right, .slice kA kn kc, .slice vA vn vc, .slice dA dn dc] → Bt w' (fun b => base ≤ b ∧ out2.ownBlock ≠ some b) hA hn hc x.high → Below base w w' → Q .normal ⟨(u0 :: u1 :: u2 :: u3 :: u4 :: u5 :: u6 :: u7 :: u8 :: u9 :: u10 :: out2 :: .slice lA ln lc :: .int .i64 id :: .pointer (some ⟨q, 0, none⟩) :: u15 :: u16 :: u17 :: u18 :: u19 :: u20 :: u21 :: u22 :: u23 :: u24 :: u25 :: u26 :: u27 :: u28 :: u29 :: u30 :: u31 :: u32 :: u33 :: u34 :: u35 :: u36 :: u37 :: u38 :: u39 :: u40 :: u41 :: u42 :: u43 :: u44 :: u45 :: u46 :: u47 :: u48 :: u49 :: u50 :: u51 :: u52 :: u53 :: u54 :: u55 :: u56 :: u57 :: u58 :: u59 :: u60 :: u61 :: u62 :: u63 :: u64 :: u65 :: u66 :: u67 :: u68 :: u69 :: u70 :: u71 :: u72 :: u73 :: u74 :: u75 :: u76 :: u77 :: u78 :: u79 :: u80 :: u81 :: u82 :: u83 :: u84 :: u85 :: u86 :: v87 :: v88 :: v89 :: v90 :: v91 :: v92 :: v93 :: u94 :: u95 :: u96 :: u97 :: u98 :: u99 :: u100 :: u101 :: u102 :: u103 :: u104 :: []).toArray, []⟩ w') :
    Code.wp Try.prog chAppC Q ⟨(u0 :: u1 :: u2 :: u3 :: u4 :: u5 :: u6 :: u7 :: u8 :: u9 :: u10 :: out :: .slice lA ln lc :: .int .i64 id :: .pointer (some ⟨q, 0, none⟩) :: u15 :: u16 :: u17 :: u18 :: u19 :: u20 :: u21 :: u22 :: u23 :: u24 :: u25 :: u26 :: u27 :: u28 :: u29 :: u30 :: u31 :: u32 :: u33 :: u34 :: u35 :: u36 :: u37 :: u38 :: u39 :: u40 :: u41 :: u42 :: u43 :: u44 :: u45 :: u46 :: u47 :: u48 :: u49 :: u50 :: u51 :: u52 :: u53 :: u54 :: u55 :: u56 :: u57 :: u58 :: u59 :: u60 :: u61 :: u62 :: u63 :: u64 :: u65 :: u66 :: u67 :: u68 :: u69 :: u70 :: u71 :: u72 :: u73 :: u74 :: u75 :: u76 :: u77 :: u78 :: u79 :: u80 :: u81 :: u82 :: u83 :: u84 :: u85 :: u86 :: u87 :: u88 :: u89 :: u90 :: u91 :: u92 :: u93 :: u94 :: u95 :: u96 :: u97 :: u98 :: u99 :: u100 :: u101 :: u102 :: u103 :: u104 :: []).toArray, []⟩ w := by
  have HEX := Lib.hid hexit
  have HF := Lib.hid hf
  obtain ⟨z0, z1, z2, z3, z4, z5⟩ := cells6 HK.out
  obtain ⟨i0, hi0, iz0, iz1, iz2⟩ := info_parts link_info
  have hql := HK.out.lt
  clear hexit hf
  conv => arg 2; whnf
  go_wp2_with (at_builtin; go_loud (refine wpList_append_any _ rfl (.tmp 87) (.tmp 92) _ rfl base 106 i0 _ 8 144 Try.underlying104 hi0 iz0 iz1 iz2 rfl (by omega) out i us rfl (HCH.out.own.alloc _) (From w.heap.size) (some ⟨w.heap.size, 0, none⟩) 1 1 [.int .i64 id, .slice lA ln lc, .int .i64 x.lev, .slice hA hn hc, .int .i64 x.right, .slice kA kn kc, .slice vA vn vc, .slice dA dn dc] rfl (by have := Rd.lit w #[.int .i64 id, .slice lA ln lc, .int .i64 x.lev, .slice hA hn hc, .int .i64 x.right, .slice kA kn kc, .slice vA vn vc, .slice dA dn dc] 106 8 rfl; simpa using this) (by simp [Value.oneCell']) (by simp only [maxLen]; omega) (by omega) (by simp; omega) ?_); intro v6 w6 hown6 hg6 hat6; have HO6 := Lib.hid hown6; have HG6 := Lib.hid hg6; have HA6 := Lib.hid hat6; clear hown6 hg6 hat6)
  obtain ⟨wa, hwa⟩ : ∃ W, W = w.alloc (.cells #[.int .i64 id, .slice lA ln lc, .int .i64 x.lev, .slice hA hn hc, .int .i64 x.right, .slice kA kn kc, .slice vA vn vc, .slice dA dn dc] 106) := ⟨_, rfl⟩
  rw [← hwa] at HG6 HA6
  have hba : Below w.heap.size w wa := by rw [hwa]; exact (Below.refl _ _).alloc (Nat.le_refl _) _
  have hown : Chg (fun b => out.ownBlock = some b) wa w6 := Chg.of_grown HG6.out
  have hob : ∀ g, out.ownBlock = some g → base ≤ g := fun g hg => (own_lt HCH.out.own g hg).1
  have hpush := (HCH.out.below hba).push HO6.out HG6.out HA6.out (LkV.next (D := fun b => base ≤ b ∧ out.ownBlock ≠ some b) ⟨lA, hA, kA, vA, dA, ln, lc, hn, hc, kn, kc, vn, vc, dn, dc, by rw [HF.out], by rw [HF.out]; exact HL.out, by rw [HF.out]; exact HV.out⟩ (Chg.of_below (S := Nil) hba) (fun _ _ _ h => h) (fun _ _ h => h)) rfl
  have hhigh : Bt w6 (fun b => base ≤ b ∧ v6.ownBlock ≠ some b) hA hn hc x.high := by
    refine (((HV.out.h.below hba).lt.chg hown (fun b hb e => hb.1.2 e)).weak (fun b hb => ⟨hb.1.1, fun e => ?_⟩))
    rcases HA6.out with h | h
    · exact hb.1.2 (h ▸ e)
    · rw [h] at e; injection e with e; have := hb.2; omega
  exact HEX.out v6 _ _ _ _ _ _ _ _ _ hpush ((HK.out.below hba).chg hown (fun e => hqo e)) hhigh ((hba.mono hbase).trans (hown.below_of (Nat.le_trans hbase hba.size) (fun b hb e => by have := hob b e; omega)))
set_option maxRecDepth 100000 in
set_option maxHeartbeats 4000000 in
theorem ch_next (q : Nat) (x : Nd) (hA : Option Addr) (hn hc : Nat) (k0 k1 k2 : Value) (w : World) {u0 u1 u2 u3 u4 u5 u6 u7 u8 u9 u10 u11 u12 u13 u15 u16 u17 u18 u19 u20 u21 u22 u23 u24 u25 u26 u27 u28 u29 u30 u31 u32 u33 u34 u35 u36 u37 u38 u39 u40 u41 u42 u43 u44 u45 u46 u47 u48 u49 u50 u51 u52 u53 u54 u55 u56 u57 u58 u59 u60 u61 u62 u63 u64 u65 u66 u67 u68 u69 u70 u71 u72 u73 u74 u75 u76 u77 u78 u79 u80 u81 u82 u83 u84 u85 u86 u87 u88 u89 u90 u91 u92 u93 u94 u95 u96 u97 u98 u99 u100 u101 u102 u103 u104 : Value} (Q : Exit → Act → World → Prop) (HQP : Hid (∀ c t (a : Act) w, Q (.panic c) ⟨t, a.defers⟩ w → Q (.panic c) a w))
    (HK : Hid (Blk w q 93 #[.int .i64 x.lev, .slice hA hn hc, .int .i64 x.right, k0, k1, k2])) (hexit : ∀ (v98 v99 v100 v101 v102 v103 : Value), Q .normal ⟨(u0 :: u1 :: u2 :: u3 :: u4 :: u5 :: u6 :: u7 :: u8 :: u9 :: u10 :: u11 :: .slice hA hn hc :: .int .i64 x.right :: .pointer (some ⟨q, 0, none⟩) :: u15 :: u16 :: u17 :: u18 :: u19 :: u20 :: u21 :: u22 :: u23 :: u24 :: u25 :: u26 :: u27 :: u28 :: u29 :: u30 :: u31 :: u32 :: u33 :: u34 :: u35 :: u36 :: u37 :: u38 :: u39 :: u40 :: u41 :: u42 :: u43 :: u44 :: u45 :: u46 :: u47 :: u48 :: u49 :: u50 :: u51 :: u52 :: u53 :: u54 :: u55 :: u56 :: u57 :: u58 :: u59 :: u60 :: u61 :: u62 :: u63 :: u64 :: u65 :: u66 :: u67 :: u68 :: u69 :: u70 :: u71 :: u72 :: u73 :: u74 :: u75 :: u76 :: u77 :: u78 :: u79 :: u80 :: u81 :: u82 :: u83 :: u84 :: u85 :: u86 :: u87 :: u88 :: u89 :: u90 :: u91 :: u92 :: u93 :: u94 :: u95 :: u96 :: u97 :: v98 :: v99 :: v100 :: v101 :: v102 :: v103 :: u104 :: []).toArray, []⟩ w.drew) :
    Code.wp Try.prog chNextC Q ⟨(u0 :: u1 :: u2 :: u3 :: u4 :: u5 :: u6 :: u7 :: u8 :: u9 :: u10 :: u11 :: u12 :: u13 :: .pointer (some ⟨q, 0, none⟩) :: u15 :: u16 :: u17 :: u18 :: u19 :: u20 :: u21 :: u22 :: u23 :: u24 :: u25 :: u26 :: u27 :: u28 :: u29 :: u30 :: u31 :: u32 :: u33 :: u34 :: u35 :: u36 :: u37 :: u38 :: u39 :: u40 :: u41 :: u42 :: u43 :: u44 :: u45 :: u46 :: u47 :: u48 :: u49 :: u50 :: u51 :: u52 :: u53 :: u54 :: u55 :: u56 :: u57 :: u58 :: u59 :: u60 :: u61 :: u62 :: u63 :: u64 :: u65 :: u66 :: u67 :: u68 :: u69 :: u70 :: u71 :: u72 :: u73 :: u74 :: u75 :: u76 :: u77 :: u78 :: u79 :: u80 :: u81 :: u82 :: u83 :: u84 :: u85 :: u86 :: u87 :: u88 :: u89 :: u90 :: u91 :: u92 :: u93 :: u94 :: u95 :: u96 :: u97 :: u98 :: u99 :: u100 :: u101 :: u102 :: u103 :: u104 :: []).toArray, []⟩ w := by
  have HEX := Lib.hid hexit
  have c1 : w.cell? ⟨q, 1, none⟩ = some (.slice hA hn hc) := HK.out.cell 1
  have c2 : w.cell? ⟨q, 2, none⟩ = some (.int .i64 x.right) := HK.out.cell 2
  have S0 : w.drew.cell? ⟨q, 1, none⟩ = some (.slice hA hn hc) ∧ w.drew.cell? ⟨q, 2, none⟩ = some (.int .i64 x.right) := ⟨c1, c2⟩
  clear hexit c1 c2
  conv => arg 2; whnf
  refine wp_region_V (fun w' => w'.cell? ⟨q, 1, none⟩ = some (.slice hA hn hc) ∧ w'.cell? ⟨q, 2, none⟩ = some (.int .i64 x.right)) (by kernel_rfl) ?_
  refine wpV_take (i := 0) (v := ?_) rfl (by kernel_rfl) (by kernel_rfl) (by kernel_rfl) (by first | exact fun _ _ _ h => h | exact fun c a w h => HQP.out c _ a w h) S0 (Or.inl ⟨by kernel_rfl, ?_⟩) ?_
  rotate_left
  · intro w hSw
    go_simp
    try with_reducible rfl
  try simp only [Act.put, List.setIfInBounds_toArray, List.set_cons_zero, List.set_cons_succ]
  refine wpV_take (i := 1) (v := ?_) rfl (by kernel_rfl) (by kernel_rfl) (by kernel_rfl) (by first | exact fun _ _ _ h => h | exact fun c a w h => HQP.out c _ a w h) S0 (Or.inl ⟨by kernel_rfl, ?_⟩) ?_
  rotate_left
  · intro w hSw
    go_simp
    try with_reducible rfl
  try simp only [Act.put, List.setIfInBounds_toArray, List.set_cons_zero, List.set_cons_succ]
  refine wpV_take (i := 3) (v := ?_) rfl (by kernel_rfl) (by kernel_rfl) (by kernel_rfl) (by first | exact fun _ _ _ h => h | exact fun c a w h => HQP.out c _ a w h) S0 (Or.inl ⟨by kernel_rfl, ?_⟩) ?_
  rotate_left
  · intro w hSw
    go_simp
    try with_reducible rfl
  try simp only [Act.put, List.setIfInBounds_toArray, List.set_cons_zero, List.set_cons_succ]
  refine wpV_take (i := 4) (v := ?_) rfl (by kernel_rfl) (by kernel_rfl) (by kernel_rfl) (by first | exact fun _ _ _ h => h | exact fun c a w h => HQP.out c _ a w h) S0 (Or.inl ⟨by kernel_rfl, ?_⟩) ?_
  rotate_left
  · intro w hSw
    go_simp
    try with_reducible rfl
  try simp only [Act.put, List.setIfInBounds_toArray, List.set_cons_zero, List.set_cons_succ]
  refine wpV_take (i := 2) (v := ?_) rfl (by kernel_rfl) (by kernel_rfl) (by kernel_rfl) (by first | exact fun _ _ _ h => h | exact fun c a w h => HQP.out c _ a w h) S0 (Or.inl ⟨by kernel_rfl, ?_⟩) ?_
  rotate_left
  · intro w hSw
    obtain ⟨s0, s1⟩ := hSw
    go_simp
    try with_reducible rfl
  try simp only [Act.put, List.setIfInBounds_toArray, List.set_cons_zero, List.set_cons_succ]
  refine wpV_take (i := 6) (v := ?_) rfl (by kernel_rfl) (by kernel_rfl) (by kernel_rfl) (by first | exact fun _ _ _ h => h | exact fun c a w h => HQP.out c _ a w h) S0 (Or.inl ⟨by kernel_rfl, ?_⟩) ?_
  rotate_left
  · intro w hSw
    go_simp
    try with_reducible rfl
  try simp only [Act.put, List.setIfInBounds_toArray, List.set_cons_zero, List.set_cons_succ]
  refine wpV_take (i := 5) (v := ?_) rfl (by kernel_rfl) (by kernel_rfl) (by kernel_rfl) (by first | exact fun _ _ _ h => h | exact fun c a w h => HQP.out c _ a w h) S0 (Or.inl ⟨by kernel_rfl, ?_⟩) ?_
  rotate_left
  · intro w hSw
    obtain ⟨s0, s1⟩ := hSw
    go_simp
    try with_reducible rfl
  try simp only [Act.put, List.setIfInBounds_toArray, List.set_cons_zero, List.set_cons_succ]
  refine wpV_take (i := 7) (v := ?_) rfl (by kernel_rfl) (by kernel_rfl) (by kernel_rfl) (by first | exact fun _ _ _ h => h | exact fun c a w h => HQP.out c _ a w h) S0 (Or.inl ⟨by kernel_rfl, ?_⟩) ?_
  rotate_left
  · intro w hSw
    go_simp
    try with_reducible rfl
  try simp only [Act.put, List.setIfInBounds_toArray, List.set_cons_zero, List.set_cons_succ]
  refine wpV_done (by kernel_rfl) ?_ _
  exact HEX.out _ _ _ _ _ _
end Go.Proofs.Ytgjphmlmndcaeaa

namespace Go.Proofs.Ytgjphmlmndcaeaa
open Go.RowKit Go.Maps
open Go.Lib (compareBytes)
theorem read_at (F : Nat → Prop) (p : Nat) (nodes root : Int) (sl : List Slt) (id : Int) (x : Nd) (w : World) (h : ArX w F p nodes sl root) (h1 : 1 ≤ id) (hn : sl.length ≤ 65536) (hs : ∃ s, sl[id.toNat - 1]? = some s ∧ s.2 = x ∧ Small s.2) :
    Calls Try.prog 49 #[.pointer (some ⟨p, 0, none⟩), .int .i64 id] w (NewRead w x) := by
  obtain ⟨s, hs, rfl, hsm⟩ := hs
  exact read_in F p nodes root sl id s w h h1 (by have := (List.getElem?_eq_some_iff.1 hs).1; omega) hn hs hsm
theorem look_zero {w : World} {b n : Nat} {f : Int → Int} {k : Int} (h : MapII w b n f) (h1 : -9223372036854775808 ≤ k) (h2 : k ≤ 9223372036854775807) (h0 : f k = 0) : (Instr.lookup 107 (.map (some b)) (.int .i64 k) false).run Try.prog w = .ok (.int .i64 0) w := by
  have := h.look h1 h2
  rw [h0] at this
  exact this
/-- link j of a level that begins behind d slots -/
def lkAt (d : Nat) (X : Nat → Nd) (j : Nat) : Lk := ((d : Int) + (j : Int) + 1, lowOf (fun i => (X i).high) j, X j)
theorem fun_step (d i : Nat) (f0 : Int → Int) : (fun j => if j = (d : Int) + (i : Int) + 1 then (1 : Int) else (if (d : Int) + 1 ≤ j ∧ j ≤ (d : Int) + (i : Int) then 1 else f0 j)) = fun k => if (d : Int) + 1 ≤ k ∧ k ≤ (d : Int) + ((i + 1 : Nat) : Int) then 1 else f0 k := by
  funext j
  by_cases h1 : j = (d : Int) + (i : Int) + 1
  · rw [if_pos h1, if_pos (by omega)]
  · rw [if_neg h1]
    by_cases h2 : (d : Int) + 1 ≤ j ∧ j ≤ (d : Int) + (i : Int)
    · rw [if_pos h2, if_pos (by omega)]
    · rw [if_neg h2, if_neg (by omega)]
/-- what a level's nodes are -/
structure LvOk (sl : List Slt) (nd lf : Int) (inn : Nat) (lev d M : Nat) (X : Nat → Nd) : Prop where
  at_ : ∀ j, j < M → ∃ s, sl[d + j]? = some s ∧ s.2 = X j ∧ Small s.2
  fine : ∀ j, j < M → Fine nd lf inn (X j)
  lev : ∀ j, j < M → (X j).lev = (lev : Int)
  right : ∀ j, j < M → (X j).right = if j + 1 < M then (d : Int) + (j : Int) + 1 + 1 else 0
  low : ∀ j, j < M → LowOk (lowOf (fun i => (X i).high) j) (X j)
set_option maxRecDepth 100000 in
set_option maxHeartbeats 4000000 in
theorem chain_any (F : Nat → Prop) (p mb cnt : Nat) (nodes root : Int) (sl : List Slt) (nd lf fl bl : Int) (inn lev d M : Nat) (X : Nat → Nd) (f0 : Int → Int) (w : World) (hx : ArX w F p nodes sl root) (hn : sl.length ≤ 65536) (hF : ¬ F mb) (hc' : cfgOk nd lf inn fl bl)
    (hlv : LvOk sl nd lf inn lev d M X) (hM : 1 ≤ M) (hlev : lev ≤ 32) (hm : MapII w mb cnt f0) (hcnt : cnt ≤ 1000000) (hf0 : ∀ j, j < M → f0 ((d : Int) + (j : Int) + 1) = 0) :
    Calls Try.prog 76 #[.pointer (some ⟨p, 0, none⟩), .agg #[.int .i64 nd, .int .i64 lf, .int .i64 inn, .int .i64 fl, .int .i64 bl], .int .i64 ((d : Int) + 1), .int .i64 lev, .map (some mb)] w fun e w' => ∃ A c, e = .returned (.slice A M c) ∧ M ≤ c ∧ c ≤ maxLen ∧ Lks w' (From w.heap.size) A M ((List.range M).map (lkAt d X)) ∧
      MapII w' mb (cnt + M) (fun k => if (d : Int) + 1 ≤ k ∧ k ≤ (d : Int) + (M : Int) then 1 else f0 k) ∧ Chg (One mb) w w' := by
  have HX := Lib.hid hx
  have HLV := Lib.hid hlv
  have HC := Lib.hid hc'
  have HF0 := Lib.hid hf0
  have HNS := Lib.hid hn
  have HFM : Hid (∀ b, F b → ¬ One mb b) := Lib.hid (fun b hb e => hF ((show b = mb from e) ▸ hb))
  have hdM : d + M ≤ 65536 := by
    obtain ⟨s, hs, _⟩ := hlv.at_ (M - 1) (by omega)
    have := (List.getElem?_eq_some_iff.1 hs).1
    omega
  have hbx : Below w.heap.size w (w.alloc (.cells #[.int .i64 nd, .int .i64 lf, .int .i64 inn, .int .i64 fl, .int .i64 bl] 23)) := (Below.refl _ _).alloc (Nat.le_refl _) _
  have HKC : Hid (Blk (w.alloc (.cells #[.int .i64 nd, .int .i64 lf, .int .i64 inn, .int .i64 fl, .int .i64 bl] 23)) w.heap.size 23 #[.int .i64 nd, .int .i64 lf, .int .i64 inn, .int .i64 fl, .int .i64 bl]) := Lib.hid (Blk.new w _ _)
  have HBX := Lib.hid hbx
  have HM0 := Lib.hid (hm.below hbx)
  have hmb := hm.lt
  clear hx hlv hc' hf0 hm hbx hn
  go_enter Try.func76, Try.ntmps76
  go_wp2
  go_step3
  go_wp2
  go_step3
  go_wp2
  go_loopg [11, 12, 13] M (fun g' out low id wr => ∃ (i : Nat) (lA : Option Addr) (ln lc : Nat) (us : List Value), g' = M - i ∧ i < M ∧ id = .int .i64 ((d : Int) + (i : Int) + 1) ∧ low = .slice lA ln lc ∧ Bt wr (fun b => w.heap.size + 1 ≤ b ∧ out.ownBlock ≠ some b) lA ln lc (lowOf (fun i => (X i).high) i) ∧ Ch wr (w.heap.size + 1) out i us (lkAt d X) ∧
    MapII wr mb (cnt + i) (fun k => if (d : Int) + 1 ≤ k ∧ k ≤ (d : Int) + (i : Int) then 1 else f0 k) ∧ Blk wr w.heap.size 23 #[.int .i64 nd, .int .i64 lf, .int .i64 inn, .int .i64 fl, .int .i64 bl] ∧ Chg (One mb) w wr)
  case atStart =>
    have e : (fun k => if (d : Int) + 1 ≤ k ∧ k ≤ (d : Int) + ((0 : Nat) : Int) then (1 : Int) else f0 k) = f0 := by funext k; rw [if_neg (by omega)]
    refine ⟨0, none, 0, 0, [], by omega, by omega, by simp, rfl, Bt.nil _ _, Ch.nil _ _ _, ?_, HKC.out, Chg.of_below HBX.out⟩
    rw [e]; exact HM0.out
  case round =>
    obtain ⟨i, lA, ln, lc, us, hg, hi, rfl, rfl, hlow, hch, hm, hkc, hcg⟩ := hrel
    have HG := Lib.hid hg
    have HLOW := Lib.hid hlow
    have HCH := Lib.hid hch
    have HM := Lib.hid hm
    have HKC' := Lib.hid hkc
    have HCG := Lib.hid hcg
    have hws : w.heap.size + 1 ≤ wr.heap.size := hkc.lt
    rename World => wr
    clear hg hlow hch hm hkc hcg HM0 HKC HBX
    have hid : ((d : Int) + (i : Int) + 1).toNat - 1 = d + i := by omega
    obtain ⟨x, hxx⟩ : ∃ Y, Y = X i := ⟨_, rfl⟩
    have HAT : Hid (∃ s, sl[d + i]? = some s ∧ s.2 = x ∧ Small s.2) := Lib.hid (by rw [hxx]; exact HLV.out.at_ i hi)
    have HFI : Hid (Fine nd lf inn x) := Lib.hid (by rw [hxx]; exact HLV.out.fine i hi)
    have HRI : Hid (x.right = if i + 1 < M then (d : Int) + (i : Int) + 1 + 1 else 0) := Lib.hid (by rw [hxx]; exact HLV.out.right i hi)
    have HLI : Hid (LowOk (lowOf (fun i => (X i).high) i) x) := Lib.hid (by rw [hxx]; exact HLV.out.low i hi)
    have HLK : Hid (lkAt d X i = ((d : Int) + (i : Int) + 1, lowOf (fun i => (X i).high) i, x)) := Lib.hid (by rw [hxx]; rfl)
    have HXX := Lib.hid hxx
    have e7 : (x.lev == (lev : Int)) = true := by rw [hxx, HLV.out.lev i hi]; simp
    clear hxx
    by_cases hl0 : ln = 0
    · have hp0 : ¬ (0 : Int) < (ln : Int) := by omega
      clear hl0
      go_upto_region 13 with (first | (go_at_call 49; go_loud (refine (read_at F p nodes root sl ((d : Int) + (i : Int) + 1) x wr (HX.out.chg HCG.out HFM.out) (by omega) HNS.out (by rw [hid]; exact HAT.out)).mono ?_); rintro e w1 ⟨hA, hn', hc, kA, kn, kc, vA, vn, vc, dA, dn, dc, rfl, hv1, hb1⟩; have hz1 := hb1.size; have hb2 : Below wr.heap.size wr (w1.alloc (.cells #[.int .i64 x.lev, .slice hA hn' hc, .int .i64 x.right, .slice kA kn kc, .slice vA vn vc, .slice dA dn dc] 93)) := hb1.alloc hz1 _; have HB2 := Lib.hid hb2; have HV2 : Hid (NdV (w1.alloc (.cells #[.int .i64 x.lev, .slice hA hn' hc, .int .i64 x.right, .slice kA kn kc, .slice vA vn vc, .slice dA dn dc] 93)) (From wr.heap.size) x hA kA vA dA hn' hc kn kc vn vc dn dc) := Lib.hid (hv1.below ((Below.refl _ _).alloc (Nat.le_refl _) _)); have HK2 : Hid (Blk (w1.alloc (.cells #[.int .i64 x.lev, .slice hA hn' hc, .int .i64 x.right, .slice kA kn kc, .slice vA vn vc, .slice dA dn dc] 93)) w1.heap.size 93 #[.int .i64 x.lev, .slice hA hn' hc, .int .i64 x.right, .slice kA kn kc, .slice vA vn vc, .slice dA dn dc]) := Lib.hid (Blk.new _ _ _); have hl2 : (Instr.lookup 107 (.map (some mb)) (.int .i64 ((d : Int) + (i : Int) + 1)) false).run Try.prog (w1.alloc (.cells #[.int .i64 x.lev, .slice hA hn' hc, .int .i64 x.right, .slice kA kn kc, .slice vA vn vc, .slice dA dn dc] 93)) = .ok (.int .i64 0) (w1.alloc (.cells #[.int .i64 x.lev, .slice hA hn' hc, .int .i64 x.right, .slice kA kn kc, .slice vA vn vc, .slice dA dn dc] 93)) := look_zero (HM.out.below hb2) (by omega) (by omega) (by rw [if_neg (by omega)]; exact HF0.out i hi); obtain ⟨y0, y1, y2, y3, y4⟩ := cf_of (HKC'.out.below hb2); obtain ⟨z0, z1, z2, z3, z4, z5⟩ := cells6 HK2.out; clear hv1 hb1 hb2) | (go_at_call 75; refine (need_true _ _ _).mono ?_; rintro e w' ⟨rfl, rfl⟩) | (go_at_call 96; go_loud (refine (ncheck_yes (From wr.heap.size) x hA kA vA dA hn' hc kn kc vn vc dn dc nd lf fl bl inn _ HV2.out HFI.out HC.out).mono ?_); rintro e w3 ⟨rfl, hb3⟩; have HB3 := Lib.hid hb3; clear hb3 y0 y1 y2 y3 y4 z0 z1 z2 z3 z4 z5 hl2))
      obtain ⟨q, hqq⟩ : ∃ Y, Y = w1.heap.size := ⟨_, rfl⟩
      rw [← hqq]
      have HBW : Hid (Below wr.heap.size wr w3) := Lib.hid (HB2.out.trans (HB3.out.mono (by simp; omega)))
      have HK3 : Hid (Blk w3 q 93 #[.int .i64 x.lev, .slice hA hn' hc, .int .i64 x.right, .slice kA kn kc, .slice vA vn vc, .slice dA dn dc]) := Lib.hid (by rw [hqq]; exact HK2.out.below HB3.out)
      have hrow : ∀ b, wr.heap.size ≤ b → u11.ownBlock ≠ some b := fun b hb e => by have := (own_lt HCH.out.own b e).2; omega
      have HV3 : Hid (NdV w3 (fun b => w.heap.size + 1 ≤ b ∧ u11.ownBlock ≠ some b) x hA kA vA dA hn' hc kn kc vn vc dn dc) := Lib.hid ((HV2.out.below HB3.out).weak (fun b hb => ⟨Nat.le_trans hws hb, hrow b hb⟩))
      have HL3 := Lib.hid (HLOW.out.below HBW.out)
      have HCH3 := Lib.hid (HCH.out.below HBW.out)
      have HM3 := Lib.hid (HM.out.below HBW.out)
      have HY3 := Lib.hid (HKC'.out.below HBW.out)
      have HG3 := Lib.hid (HCG.out.then HBW.out)
      have hq : w.heap.size + 1 ≤ q := by omega
      have hqo : u11.ownBlock ≠ some q := hrow q (by omega)
      have hz3 := HBW.out.size
      clear HB2 HV2 HK2 HB3 hqq hrow hz1
      go_upto_region 13 with fail
      refine ch_met mb (cnt + i) ((d : Int) + (i : Int) + 1) _ w3 _ HM3 (by rw [if_neg (by omega)]; exact HF0.out i hi) (by omega) (by omega) (by omega) ?_
      intro v83 v84 v85 v86 w4 hm4 hc4
      have HM4 := Lib.hid hm4
      have HK4 := Lib.hid (HK3.out.chg hc4 (fun h => by have h : q = mb := h; omega))
      have HV4 := Lib.hid ((HV3.out.chg hc4 (fun b hb h => by have h : b = mb := h; have := hb.1; omega)))
      have HL4 := Lib.hid ((HL3.out.chg hc4 (fun b hb h => by have h : b = mb := h; have := hb.1; omega)))
      have HCH4 := Lib.hid (HCH3.out.chg hc4 (fun b hb h => by have h : b = mb := h; omega))
      have HY4 := Lib.hid (HY3.out.chg hc4 (fun h => by have h : w.heap.size = mb := h; omega))
      have HG4 := Lib.hid (HG3.out.trans hc4 (fun _ _ h => h))
      have hz4 : w3.heap.size ≤ w4.heap.size := hc4.size
      clear hm4 hc4
      go_upto_region 14 with fail
      refine ch_app (w.heap.size + 1) i q ((d : Int) + (i : Int) + 1) _ x u11 us (lkAt d X) lA hA kA vA dA ln lc hn' hc kn kc vn vc dn dc w4 _ HK4 HV4 HL4 HCH4 HLK.out (by omega) (by omega) hq hqo ?_
      intro out2 v87 v88 v89 v90 v91 v92 v93 us' w5 hch5 hk5 hh5 hb5
      have HCH5 := Lib.hid hch5
      have HK5 := Lib.hid hk5
      have HH5 := Lib.hid hh5
      have hc5 : Chg (fun b => w.heap.size + 1 ≤ b) w4 w5 := Chg.of_below_ hb5 (fun b _ h => h)
      have HM5 := Lib.hid (HM4.out.chg hc5 (fun h => by have h : w.heap.size + 1 ≤ mb := h; omega))
      have HG5 := Lib.hid (HG4.out.trans hc5 (fun b hb h => by have h : w.heap.size + 1 ≤ b := h; omega))
      have HY5 := Lib.hid (HY4.out.chg hc5 (fun h => by have h : w.heap.size + 1 ≤ w.heap.size := h; omega))
      have hz5 : w4.heap.size ≤ w5.heap.size := hb5.size
      obtain ⟨z0, z1, z2, z3, z4, z5⟩ := cells6 HK5.out
      clear hch5 hk5 hh5 hb5 hc5
      by_cases hlast : i + 1 < M
      · have hr : x.right = (d : Int) + (i : Int) + 1 + 1 := by rw [HRI.out, if_pos hlast]
        have hr0 : (x.right == 0) = false := by rw [hr]; simp; omega
        have HR := Lib.hid hr
        clear hr
        go_upto_region 16 with fail
        refine ch_next q x hA hn' hc _ _ _ w5 _ (by exact Lib.hid (fun _ _ _ _ h => h)) HK5 ?_
        intro v98 v99 v100 v101 v102 v103
        go_wp2
        go_roundg (M - (i + 1))
        case measure => have := HG.out; omega
        case rel =>
          have hbd : Below w5.heap.size w5 w5.drew := (Below.refl _ _).drew
          have ef : (fun j => if j = (d : Int) + (i : Int) + 1 then (1 : Int) else (if (d : Int) + 1 ≤ j ∧ j ≤ (d : Int) + (i : Int) then 1 else f0 j)) = fun k => if (d : Int) + 1 ≤ k ∧ k ≤ (d : Int) + ((i + 1 : Nat) : Int) then 1 else f0 k := fun_step d i f0
          have hm6 : MapII w5.drew mb (cnt + (i + 1)) (fun j => if j = (d : Int) + (i : Int) + 1 then (1 : Int) else (if (d : Int) + 1 ≤ j ∧ j ≤ (d : Int) + (i : Int) then 1 else f0 j)) := HM5.out.below hbd
          rw [ef] at hm6
          have hh6 : Bt w5.drew (fun b => w.heap.size + 1 ≤ b ∧ out2.ownBlock ≠ some b) hA hn' hc (lowOf (fun i => (X i).high) (i + 1)) := by
            have el : lowOf (fun i => (X i).high) (i + 1) = x.high := by rw [HXX.out]; simp [lowOf]
            rw [el]; exact HH5.out.below hbd
          exact ⟨i + 1, hA, hn', hc, us', rfl, hlast, congrArg (Value.int .i64) (by rw [HR.out]; omega), rfl, hh6, HCH5.out.below hbd, hm6, HY5.out.below hbd, HG5.out.then hbd⟩
      · have hr0 : (x.right == 0) = true := by rw [HRI.out, if_neg hlast]; rfl
        have hiM : M = i + 1 := by omega
        obtain ⟨A, c, rfl, a1, a2⟩ := own_val HCH5.out.own
        go_wp2_with fail
        simp only [Exit.noGoto]
        go_ret
        have ef : (fun j => if j = (d : Int) + (i : Int) + 1 then (1 : Int) else (if (d : Int) + 1 ≤ j ∧ j ≤ (d : Int) + (i : Int) then 1 else f0 j)) = fun k => if (d : Int) + 1 ≤ k ∧ k ≤ (d : Int) + ((i + 1 : Nat) : Int) then 1 else f0 k := fun_step d i f0
        have hm6 : MapII w5 mb (cnt + (i + 1)) (fun j => if j = (d : Int) + (i : Int) + 1 then (1 : Int) else (if (d : Int) + 1 ≤ j ∧ j ≤ (d : Int) + (i : Int) then 1 else f0 j)) := HM5.out
        rw [ef] at hm6
        subst hiM
        exact ⟨A, c, rfl, a1, a2, HCH5.out.links.weak (fun b hb => by simp only [From] at hb ⊢; omega), hm6, HG5.out⟩
    · have hp0 : (0 : Int) < (ln : Int) := by omega
      have hlo : lowOf (fun i => (X i).high) i ≠ [] := fun e => hl0 (by have := HLOW.out.len; rw [e] at this; exact this)
      have HL1 := Lib.hid (HLI.out hlo)
      clear hlo
      go_upto_region 11 with (first | (go_at_call 49; go_loud (refine (read_at F p nodes root sl ((d : Int) + (i : Int) + 1) x wr (HX.out.chg HCG.out HFM.out) (by omega) HNS.out (by rw [hid]; exact HAT.out)).mono ?_); rintro e w1 ⟨hA, hn', hc, kA, kn, kc, vA, vn, vc, dA, dn, dc, rfl, hv1, hb1⟩; have hz1 := hb1.size; have hb2 : Below wr.heap.size wr (w1.alloc (.cells #[.int .i64 x.lev, .slice hA hn' hc, .int .i64 x.right, .slice kA kn kc, .slice vA vn vc, .slice dA dn dc] 93)) := hb1.alloc hz1 _; have HB2 := Lib.hid hb2; have HV2 : Hid (NdV (w1.alloc (.cells #[.int .i64 x.lev, .slice hA hn' hc, .int .i64 x.right, .slice kA kn kc, .slice vA vn vc, .slice dA dn dc] 93)) (From wr.heap.size) x hA kA vA dA hn' hc kn kc vn vc dn dc) := Lib.hid (hv1.below ((Below.refl _ _).alloc (Nat.le_refl _) _)); have HK2 : Hid (Blk (w1.alloc (.cells #[.int .i64 x.lev, .slice hA hn' hc, .int .i64 x.right, .slice kA kn kc, .slice vA vn vc, .slice dA dn dc] 93)) w1.heap.size 93 #[.int .i64 x.lev, .slice hA hn' hc, .int .i64 x.right, .slice kA kn kc, .slice vA vn vc, .slice dA dn dc]) := Lib.hid (Blk.new _ _ _); have hl2 : (Instr.lookup 107 (.map (some mb)) (.int .i64 ((d : Int) + (i : Int) + 1)) false).run Try.prog (w1.alloc (.cells #[.int .i64 x.lev, .slice hA hn' hc, .int .i64 x.right, .slice kA kn kc, .slice vA vn vc, .slice dA dn dc] 93)) = .ok (.int .i64 0) (w1.alloc (.cells #[.int .i64 x.lev, .slice hA hn' hc, .int .i64 x.right, .slice kA kn kc, .slice vA vn vc, .slice dA dn dc] 93)) := look_zero (HM.out.below hb2) (by omega) (by omega) (by rw [if_neg (by omega)]; exact HF0.out i hi); obtain ⟨y0, y1, y2, y3, y4⟩ := cf_of (HKC'.out.below hb2); obtain ⟨z0, z1, z2, z3, z4, z5⟩ := cells6 HK2.out; clear hv1 hb1 hb2) | (go_at_call 75; refine (need_true _ _ _).mono ?_; rintro e w' ⟨rfl, rfl⟩) | (go_at_call 96; go_loud (refine (ncheck_yes (From wr.heap.size) x hA kA vA dA hn' hc kn kc vn vc dn dc nd lf fl bl inn _ HV2.out HFI.out HC.out).mono ?_); rintro e w3 ⟨rfl, hb3⟩; have HB3 := Lib.hid hb3; clear hb3 y0 y1 y2 y3 y4 z0 z1 z2 z3 z4 z5 hl2))
      obtain ⟨q, hqq⟩ : ∃ Y, Y = w1.heap.size := ⟨_, rfl⟩
      rw [← hqq]
      have HBW : Hid (Below wr.heap.size wr w3) := Lib.hid (HB2.out.trans (HB3.out.mono (by simp; omega)))
      have HK3 : Hid (Blk w3 q 93 #[.int .i64 x.lev, .slice hA hn' hc, .int .i64 x.right, .slice kA kn kc, .slice vA vn vc, .slice dA dn dc]) := Lib.hid (by rw [hqq]; exact HK2.out.below HB3.out)
      have hrow : ∀ b, wr.heap.size ≤ b → u11.ownBlock ≠ some b := fun b hb e => by have := (own_lt HCH.out.own b e).2; omega
      have HV3 : Hid (NdV w3 (fun b => w.heap.size + 1 ≤ b ∧ u11.ownBlock ≠ some b) x hA kA vA dA hn' hc kn kc vn vc dn dc) := Lib.hid ((HV2.out.below HB3.out).weak (fun b hb => ⟨Nat.le_trans hws hb, hrow b hb⟩))
      have HL3 := Lib.hid (HLOW.out.below HBW.out)
      have HCH3 := Lib.hid (HCH.out.below HBW.out)
      have HM3 := Lib.hid (HM.out.below HBW.out)
      have HY3 := Lib.hid (HKC'.out.below HBW.out)
      have HG3 := Lib.hid (HCG.out.then HBW.out)
      have hq : w.heap.size + 1 ≤ q := by omega
      have hqo : u11.ownBlock ≠ some q := hrow q (by omega)
      have hz3 := HBW.out.size
      clear HB2 HV2 HK2 HB3 hqq hrow hz1
      refine ch_key _ q ((d : Int) + (i : Int) + 1) _ x lA hA kA vA dA ln lc hn' hc kn kc vn vc dn dc w3 _ HK3 HV3 HL3 HL1.out.1 ?_
      intro v51 v52 v53 v54 v55 v56 v57 v58 v59 v60 v61 v62 v63 v64 v65 v66 v67
      go_upto_region 12 with fail
      refine ch_high _ q ((d : Int) + (i : Int) + 1) _ x lA hA kA vA dA ln lc hn' hc kn kc vn vc dn dc w3 _ HK3 HV3 HL3 HL1.out.2 ?_
      intro v68 v69 v70 v71 v72 v73 v74 v75 v76 v77 v78 v79 v80 v81 v82
      go_upto_region 13 with fail
      refine ch_met mb (cnt + i) ((d : Int) + (i : Int) + 1) _ w3 _ HM3 (by rw [if_neg (by omega)]; exact HF0.out i hi) (by omega) (by omega) (by omega) ?_
      intro v83 v84 v85 v86 w4 hm4 hc4
      have HM4 := Lib.hid hm4
      have HK4 := Lib.hid (HK3.out.chg hc4 (fun h => by have h : q = mb := h; omega))
      have HV4 := Lib.hid ((HV3.out.chg hc4 (fun b hb h => by have h : b = mb := h; have := hb.1; omega)))
      have HL4 := Lib.hid ((HL3.out.chg hc4 (fun b hb h => by have h : b = mb := h; have := hb.1; omega)))
      have HCH4 := Lib.hid (HCH3.out.chg hc4 (fun b hb h => by have h : b = mb := h; omega))
      have HY4 := Lib.hid (HY3.out.chg hc4 (fun h => by have h : w.heap.size = mb := h; omega))
      have HG4 := Lib.hid (HG3.out.trans hc4 (fun _ _ h => h))
      have hz4 : w3.heap.size ≤ w4.heap.size := hc4.size
      clear hm4 hc4
      go_upto_region 14 with fail
      refine ch_app (w.heap.size + 1) i q ((d : Int) + (i : Int) + 1) _ x u11 us (lkAt d X) lA hA kA vA dA ln lc hn' hc kn kc vn vc dn dc w4 _ HK4 HV4 HL4 HCH4 HLK.out (by omega) (by omega) hq hqo ?_
      intro out2 v87 v88 v89 v90 v91 v92 v93 us' w5 hch5 hk5 hh5 hb5
      have HCH5 := Lib.hid hch5
      have HK5 := Lib.hid hk5
      have HH5 := Lib.hid hh5
      have hc5 : Chg (fun b => w.heap.size + 1 ≤ b) w4 w5 := Chg.of_below_ hb5 (fun b _ h => h)
      have HM5 := Lib.hid (HM4.out.chg hc5 (fun h => by have h : w.heap.size + 1 ≤ mb := h; omega))
      have HG5 := Lib.hid (HG4.out.trans hc5 (fun b hb h => by have h : w.heap.size + 1 ≤ b := h; omega))
      have HY5 := Lib.hid (HY4.out.chg hc5 (fun h => by have h : w.heap.size + 1 ≤ w.heap.size := h; omega))
      have hz5 : w4.heap.size ≤ w5.heap.size := hb5.size
      obtain ⟨z0, z1, z2, z3, z4, z5⟩ := cells6 HK5.out
      clear hch5 hk5 hh5 hb5 hc5
      by_cases hlast : i + 1 < M
      · have hr : x.right = (d : Int) + (i : Int) + 1 + 1 := by rw [HRI.out, if_pos hlast]
        have hr0 : (x.right == 0) = false := by rw [hr]; simp; omega
        have HR := Lib.hid hr
        clear hr
        go_upto_region 16 with fail
        refine ch_next q x hA hn' hc _ _ _ w5 _ (by exact Lib.hid (fun _ _ _ _ h => h)) HK5 ?_
        intro v98 v99 v100 v101 v102 v103
        go_wp2
        go_roundg (M - (i + 1))
        case measure => have := HG.out; omega
        case rel =>
          have hbd : Below w5.heap.size w5 w5.drew := (Below.refl _ _).drew
          have ef : (fun j => if j = (d : Int) + (i : Int) + 1 then (1 : Int) else (if (d : Int) + 1 ≤ j ∧ j ≤ (d : Int) + (i : Int) then 1 else f0 j)) = fun k => if (d : Int) + 1 ≤ k ∧ k ≤ (d : Int) + ((i + 1 : Nat) : Int) then 1 else f0 k := fun_step d i f0
          have hm6 : MapII w5.drew mb (cnt + (i + 1)) (fun j => if j = (d : Int) + (i : Int) + 1 then (1 : Int) else (if (d : Int) + 1 ≤ j ∧ j ≤ (d : Int) + (i : Int) then 1 else f0 j)) := HM5.out.below hbd
          rw [ef] at hm6
          have hh6 : Bt w5.drew (fun b => w.heap.size + 1 ≤ b ∧ out2.ownBlock ≠ some b) hA hn' hc (lowOf (fun i => (X i).high) (i + 1)) := by
            have el : lowOf (fun i => (X i).high) (i + 1) = x.high := by rw [HXX.out]; simp [lowOf]
            rw [el]; exact HH5.out.below hbd
          exact ⟨i + 1, hA, hn', hc, us', rfl, hlast, congrArg (Value.int .i64) (by rw [HR.out]; omega), rfl, hh6, HCH5.out.below hbd, hm6, HY5.out.below hbd, HG5.out.then hbd⟩
      · have hr0 : (x.right == 0) = true := by rw [HRI.out, if_neg hlast]; rfl
        have hiM : M = i + 1 := by omega
        obtain ⟨A, c, rfl, a1, a2⟩ := own_val HCH5.out.own
        go_wp2_with fail
        simp only [Exit.noGoto]
        go_ret
        have ef : (fun j => if j = (d : Int) + (i : Int) + 1 then (1 : Int) else (if (d : Int) + 1 ≤ j ∧ j ≤ (d : Int) + (i : Int) then 1 else f0 j)) = fun k => if (d : Int) + 1 ≤ k ∧ k ≤ (d : Int) + ((i + 1 : Nat) : Int) then 1 else f0 k := fun_step d i f0
        have hm6 : MapII w5 mb (cnt + (i + 1)) (fun j => if j = (d : Int) + (i : Int) + 1 then (1 : Int) else (if (d : Int) + 1 ≤ j ∧ j ≤ (d : Int) + (i : Int) then 1 else f0 j)) := HM5.out
        rw [ef] at hm6
        subst hiM
        exact ⟨A, c, rfl, a1, a2, HCH5.out.links.weak (fun b hb => by simp only [From] at hb ⊢; omega), hm6, HG5.out⟩
end Go.Proofs.Ytgjphmlmndcaeaa

namespace Go.Proofs.Ytgjphmlmndcaeaa
open Go.RowKit

set_option maxRecDepth 100000 in
theorem rheld_any (F : Nat → Prop) (p : Nat) (nodes root : Int) (sl : List Slt) (w : World) (h : ArR w F p nodes sl root) (hn : sl.length ≤ 65536) (hw : ∀ s ∈ sl, 0 ≤ s.1 ∧ s.1 ≤ 4611686018427387904) :
    Calls Try.prog 55 #[.pointer (some ⟨p, 0, none⟩)] w (NewInts w (heldTo sl sl.length)) := by
  obtain ⟨i0, hi0, iz0, iz1, iz2⟩ := info_parts int_info
  have HA := Lib.hid h
  obtain ⟨A, n, c, hFp, hb, hsl⟩ := h
  have e1 : n = sl.length := hsl.1
  have HL := Lib.hid e1
  have h4 : n ≤ 65536 := by omega
  have HB := Lib.hid hb
  have HY := Lib.hid hsl
  have HW := Lib.hid hw
  clear e1 hn hsl hw hb
  go_enter Try.func55, Try.ntmps55
  go_wp2
  go_loopg [3, 4] n (fun g vs i wr => ∃ (k m : Nat) (v : Value), g = n - k ∧ k ≤ n ∧ i = .int .i64 k ∧ v = vs ∧ Hid (m = (heldTo sl k).length) ∧ m ≤ k ∧ wr.ownsRow w.heap.size 3 1 v m ((heldTo sl k).map (Value.int .i64)) ∧ Below w.heap.size w wr)
  case atStart => exact ⟨0, 0, _, by omega, by omega, rfl, rfl, rfl, by omega, World.ownsRow_nil _ _ _ _, Below.refl _ _⟩
  case round =>
    obtain ⟨k, m, v, hg, hk, rfl, rfl, HM, hmk, hown, hbl⟩ := hrel
    have HG := Lib.hid hg
    have HO := Lib.hid hown
    obtain ⟨c0, c1, c2, cf⟩ := blk3 (HB.out.below hbl)
    clear hg hown
    by_cases hlt : k < n
    · have hY1 := HY.out.chg (S := Nil) (Chg.of_below hbl) (fun _ _ hf => hf)
      obtain ⟨b, o, s, hA, hn', hc, kA, kn, kc, vA, vn, vc, dA, dn, dc, rfl, hs, z0, z1, z2, z3, z4, z5, z6, _⟩ := hY1.at_ hlt
      obtain ⟨w0, w1⟩ := HW.out s (List.mem_of_getElem? hs)
      have HS := Lib.hid hs
      have hsz := hbl.size
      have hmod : IntKind.u64.wrap (s.1.tmod 2) = s.1 % 2 := by rw [Int.tmod_eq_emod_of_nonneg w0]; exact IntWalk.u64_in _ (by omega)
      clear hs hY1
      by_cases ho : s.1 % 2 = 1
      · have hev : (s.1 % 2 == 0) = false := by rw [beq_eq_false_iff_ne]; omega
        have HT := Lib.hid (heldTo_yes HS.out ho)
        clear ho
        go_wp2_with (at_builtin; refine wpList_append_any _ rfl (.tmp 24) (.tmp 27) _ rfl w.heap.size 3 i0 _ 1 8 Try.underlying24 hi0 iz0 iz1 iz2 rfl (by omega) v m ((heldTo sl k).map (Value.int .i64)) rfl (HO.out.alloc _) (From wr.heap.size) (some ⟨wr.heap.size, 0, none⟩) 1 1 [.int .i64 ((k : Int) + 1)] rfl (Rd.one wr _ _) (by intro u hu; simp at hu; subst hu; rfl) (by simp only [maxLen]; omega) (by omega) (by simp; omega) ?_; intro v2 w2 hown2 hg2 hat2; have HO2 := Lib.hid hown2; clear hown2 hat2)
        go_roundg (n - (k + 1))
        case measure => have := HG.out; omega
        case rel => exact ⟨k + 1, m + 1, v2, rfl, by omega, by go_num, rfl, Lib.hid (by rw [HT.out]; simp [HM.out.symm]), by omega, by rw [HT.out, List.map_append]; exact HO2.out, (hbl.alloc hsz _).grown hg2 (by simp; omega) (fun j hj => (own_lt HO.out j hj).1)⟩
      · have ho0 : s.1 % 2 = 0 := by omega
        have hev : (s.1 % 2 == 0) = true := by rw [beq_iff_eq]; exact ho0
        have HT := Lib.hid (heldTo_no HS.out ho0)
        clear ho ho0
        go_wp2
        go_roundg (n - (k + 1))
        case measure => have := HG.out; omega
        case rel => exact ⟨k + 1, m, v, rfl, by omega, by go_num, rfl, Lib.hid (by rw [HT.out]; exact HM.out), by omega, by rw [HT.out]; exact HO.out, hbl⟩
    · have HK : Hid (k = sl.length) := Lib.hid (by have := HL.out; omega)
      go_wp2
      go_ret
      obtain ⟨A', c', hv, h1, h2⟩ := own_val HO.out
      have HO' := HO.out
      rw [hv] at HO'
      rw [← HK.out]
      exact ⟨A', m, c', by rw [hv]; rfl, ⟨h1, h2, HM, Rd.of_own HO'⟩, HO', hbl⟩

theorem heldTo_even {sl : List Slt} (h : ∀ s ∈ sl, s.1 % 2 = 0) (k : Nat) : heldTo sl k = [] := by
  have : (List.range k).filter (oddAt sl) = [] := by
    rw [List.filter_eq_nil_iff]
    intro i _
    unfold oddAt
    cases hs : sl[i]? with
    | none => simp
    | some s => have := h s (List.mem_of_getElem? hs); simp; omega
  simp [heldTo, this]
end Go.Proofs.Ytgjphmlmndcaeaa
