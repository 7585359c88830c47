/- WALKS: order.Seen: the last loop. WALKS: order.Seen, whole. WALKS: the document's Seen, whole. Entries that come in, opened to cells; what the bound says of them. -/
import Derived.Test.YtpbnngfiinihmaaOc17
import Derived.Test.YtpbnngfiinihmaaOc06
import Derived.Test.YtpbnngfiinihmaaOc20
import Derived.Test.YtpbnngfiinihmaaOc18
import Derived.Test.YtpbnngfiinihmaaOc21
import Derived.Test.YtpbnngfiinihmaaRows
import Derived.Test.YtpbnngfiinihmaaOc01
import Derived.Deep.Slices
import Derived.Deep.Fields
import Derived.ChangeSame
import Derived.ChangeSlices
import Derived.RowKit
set_option linter.unusedVariables false
set_option linter.unusedSimpArgs false
namespace Go.Proofs.Ytpbnngfiinihmaa
open Go.RowKit Go.Maps
noncomputable def s7C : Code := codeOr (Try.f15.body.bind (blockIn 6))
set_option maxRecDepth 100000 in
set_option maxHeartbeats 8000000 in
theorem s7_in (F : Nat → Prop) (base N p8 p9 kb r n tb tn cnt : Nat) (vA aA hA : Option Addr) (vn vc an ac hn hc : Nat) (us : List Value) (ms : List (List Ent)) (l : List Ent) (lo hi : List UInt8) (ks : List (List UInt8)) (w0 w : World) {u0 u1 u2 u3 u4 u5 u6 u7 u8 u9 u10 u11 u12 u14 u15 u16 u17 u18 u20 u21 u23 u24 u25 u26 u27 u28 u29 u30 u31 u32 u33 u34 u35 u36 u37 u38 u39 u40 u41 u42 u43 u44 u45 u46 u47 u48 u49 u50 u51 u52 u53 u54 u55 u56 u57 u58 u59 u60 u61 u62 u63 u64 u65 u66 u67 u68 u69 u70 u71 u72 u73 u74 u75 u76 u77 u78 u79 u80 u81 u82 u83 u84 u85 u86 u87 u88 u89 u90 u91 u92 u93 u94 u95 u96 u97 u98 u99 u100 u101 u102 u103 u104 u105 u106 u107 u108 u109 u110 u111 u112 u113 u114 u115 u116 u117 u118 u119 u120 u121 u122 u123 u124 u125 u126 u127 u129 u130 u131 u132 u133 u134 u135 u136 u137 u138 u139 u140 u141 u142 u143 u144 u145 u146 u147 u148 u149 u150 u151 u152 : Value} (Q : Exit → Act → World → Prop)
    (hvn : vn ≤ 4194304) (hr : r = w0.heap.size) (hkb : kb < r) (HB0 : Hid (Below w0.heap.size w0 w)) (HKS : Hid (∀ k ∈ ks, k.length ≤ 1048576))
    (HLo : Hid (SB w0 F (.slice aA an ac) lo)) (HHi : Hid (SB w0 F (.slice hA hn hc) hi)) (c8 : w0.cell? ⟨p8, 0, none⟩ = some (.slice aA an ac)) (c9 : w0.cell? ⟨p9, 0, none⟩ = some (.slice hA hn hc))
    (HLK : Hid (Lk w0 base N F (.slice vA vn vc) us ms)) (HT : Hid (TabM w0 tb tn F l))
    (HR0 : Hid (RangeM w kb r n ks (fun k => inE lo hi k → fitE ms l k) cnt))
    (hexit : ∀ (v12 v23 v24 v25 v26 v129 v130 v131 v132 v133 v134 v135 v136 v137 v138 v139 v140 v141 v142 v143 v144 v145 v146 v147 v148 v149 : Value) (w' : World), (∀ k ∈ ks, inE lo hi k → fitE ms l k) → Below w0.heap.size w0 w' → Q (.exit 6) ⟨(u0 :: u1 :: u2 :: u3 :: u4 :: u5 :: u6 :: u7 :: u8 :: u9 :: u10 :: u11 :: v12 :: .func (.func 33) #[] #[.pointer (some ⟨p8, 0, none⟩), .pointer (some ⟨p9, 0, none⟩)] :: u14 :: u15 :: u16 :: u17 :: u18 :: .slice vA vn vc :: u20 :: u21 :: .map (some tb) :: v23 :: v24 :: v25 :: v26 :: u27 :: u28 :: u29 :: u30 :: u31 :: u32 :: u33 :: u34 :: u35 :: u36 :: u37 :: u38 :: u39 :: u40 :: u41 :: u42 :: u43 :: u44 :: u45 :: u46 :: u47 :: u48 :: u49 :: u50 :: u51 :: u52 :: u53 :: u54 :: u55 :: u56 :: u57 :: u58 :: u59 :: u60 :: u61 :: u62 :: u63 :: u64 :: u65 :: u66 :: u67 :: u68 :: u69 :: u70 :: u71 :: u72 :: u73 :: u74 :: u75 :: u76 :: u77 :: u78 :: u79 :: u80 :: u81 :: u82 :: u83 :: u84 :: u85 :: u86 :: u87 :: u88 :: u89 :: u90 :: u91 :: u92 :: u93 :: u94 :: u95 :: u96 :: u97 :: u98 :: u99 :: u100 :: u101 :: u102 :: u103 :: u104 :: u105 :: u106 :: u107 :: u108 :: u109 :: u110 :: u111 :: u112 :: u113 :: u114 :: u115 :: u116 :: u117 :: u118 :: u119 :: u120 :: u121 :: u122 :: u123 :: u124 :: u125 :: u126 :: u127 :: .pointer (some ⟨r, 0, none⟩) :: v129 :: v130 :: v131 :: v132 :: v133 :: v134 :: v135 :: v136 :: v137 :: v138 :: v139 :: v140 :: v141 :: v142 :: v143 :: v144 :: v145 :: v146 :: v147 :: v148 :: v149 :: u150 :: u151 :: u152 :: []).toArray, []⟩ w')
    (hret : ∀ (v23 v24 v25 v26 v129 v130 v131 v132 v133 v134 v135 v136 v137 v138 v139 v140 v141 v142 v143 v144 v145 v146 v147 v148 v149 : Value) (w' : World), (∃ k, k ∈ ks ∧ inE lo hi k ∧ ¬ fitE ms l k) → Below w0.heap.size w0 w' → Q .ret ⟨(u0 :: u1 :: u2 :: u3 :: u4 :: u5 :: u6 :: u7 :: u8 :: u9 :: u10 :: u11 :: .bool false :: .func (.func 33) #[] #[.pointer (some ⟨p8, 0, none⟩), .pointer (some ⟨p9, 0, none⟩)] :: u14 :: u15 :: u16 :: u17 :: u18 :: .slice vA vn vc :: u20 :: u21 :: .map (some tb) :: v23 :: v24 :: v25 :: v26 :: u27 :: u28 :: u29 :: u30 :: u31 :: u32 :: u33 :: u34 :: u35 :: u36 :: u37 :: u38 :: u39 :: u40 :: u41 :: u42 :: u43 :: u44 :: u45 :: u46 :: u47 :: u48 :: u49 :: u50 :: u51 :: u52 :: u53 :: u54 :: u55 :: u56 :: u57 :: u58 :: u59 :: u60 :: u61 :: u62 :: u63 :: u64 :: u65 :: u66 :: u67 :: u68 :: u69 :: u70 :: u71 :: u72 :: u73 :: u74 :: u75 :: u76 :: u77 :: u78 :: u79 :: u80 :: u81 :: u82 :: u83 :: u84 :: u85 :: u86 :: u87 :: u88 :: u89 :: u90 :: u91 :: u92 :: u93 :: u94 :: u95 :: u96 :: u97 :: u98 :: u99 :: u100 :: u101 :: u102 :: u103 :: u104 :: u105 :: u106 :: u107 :: u108 :: u109 :: u110 :: u111 :: u112 :: u113 :: u114 :: u115 :: u116 :: u117 :: u118 :: u119 :: u120 :: u121 :: u122 :: u123 :: u124 :: u125 :: u126 :: u127 :: .pointer (some ⟨r, 0, none⟩) :: v129 :: v130 :: v131 :: v132 :: v133 :: v134 :: v135 :: v136 :: v137 :: v138 :: v139 :: v140 :: v141 :: v142 :: v143 :: v144 :: v145 :: v146 :: v147 :: v148 :: v149 :: u150 :: u151 :: u152 :: []).toArray, []⟩ w') :
    Code.wp Try.prog s7C Q ⟨(u0 :: u1 :: u2 :: u3 :: u4 :: u5 :: u6 :: u7 :: u8 :: u9 :: u10 :: u11 :: u12 :: .func (.func 33) #[] #[.pointer (some ⟨p8, 0, none⟩), .pointer (some ⟨p9, 0, none⟩)] :: u14 :: u15 :: u16 :: u17 :: u18 :: .slice vA vn vc :: u20 :: u21 :: .map (some tb) :: u23 :: u24 :: u25 :: u26 :: u27 :: u28 :: u29 :: u30 :: u31 :: u32 :: u33 :: u34 :: u35 :: u36 :: u37 :: u38 :: u39 :: u40 :: u41 :: u42 :: u43 :: u44 :: u45 :: u46 :: u47 :: u48 :: u49 :: u50 :: u51 :: u52 :: u53 :: u54 :: u55 :: u56 :: u57 :: u58 :: u59 :: u60 :: u61 :: u62 :: u63 :: u64 :: u65 :: u66 :: u67 :: u68 :: u69 :: u70 :: u71 :: u72 :: u73 :: u74 :: u75 :: u76 :: u77 :: u78 :: u79 :: u80 :: u81 :: u82 :: u83 :: u84 :: u85 :: u86 :: u87 :: u88 :: u89 :: u90 :: u91 :: u92 :: u93 :: u94 :: u95 :: u96 :: u97 :: u98 :: u99 :: u100 :: u101 :: u102 :: u103 :: u104 :: u105 :: u106 :: u107 :: u108 :: u109 :: u110 :: u111 :: u112 :: u113 :: u114 :: u115 :: u116 :: u117 :: u118 :: u119 :: u120 :: u121 :: u122 :: u123 :: u124 :: u125 :: u126 :: u127 :: .pointer (some ⟨r, 0, none⟩) :: u129 :: u130 :: u131 :: u132 :: u133 :: u134 :: u135 :: u136 :: u137 :: u138 :: u139 :: u140 :: u141 :: u142 :: u143 :: u144 :: u145 :: u146 :: u147 :: u148 :: u149 :: u150 :: u151 :: u152 :: []).toArray, []⟩ w := by
  have HEX := Lib.hid hexit
  have HRT := Lib.hid hret
  have HRL := Lib.hid hr
  have C8 := Lib.hid c8
  have C9 := Lib.hid c9
  clear hexit hret hr c8 c9
  conv => arg 2; whnf
  go_loopg [23] cnt (fun g' _ wz => RangeM wz kb r n ks (fun k => inE lo hi k → fitE ms l k) g' ∧ Below w0.heap.size w0 wz)
  case atStart => exact ⟨HR0.out, HB0.out⟩
  case round =>
    obtain ⟨hrg, hb⟩ := hrel
    have HR := Lib.hid hrg
    have HB := Lib.hid hb
    clear hrg hb
    by_cases hz : gk = 0
    · have HZ := Lib.hid hz
      clear hz
      go_wp2_with (at_next; go_loud (refine wpList_next_keys rfl (.tmp 128) rfl rfl HR.out (fun _ hall => ?_) (fun _ _ _ _ _ _ hlt _ _ _ => absurd hlt (by have := HZ.out; omega))); have HA := Lib.hid hall; clear hall)
      exact HEX.out _ _ _ _ _ _ _ _ _ _ _ _ _ _ _ _ _ _ _ _ _ _ _ _ _ _ _ HA.out HB.out
    · go_upto_region 28 with (at_next; go_loud (refine wpList_next_keys rfl (.tmp 128) rfl rfl HR.out (fun h0 _ => absurd h0 hz) ?_); intro k c w1 cnt' hk hr1 hlt1 hch1 hsz1 hen; have HKK := Lib.hid hk; have HR1 := Lib.hid hr1; have HLT := Lib.hid hlt1; have HC1 := Lib.hid hch1; have HSZ := Lib.hid hsz1; clear hk hr1 hlt1 hch1 hsz1)
      obtain ⟨w2, hw2⟩ : ∃ W, W = w1.alloc (.cells #[.string (sOf k)] 9) := ⟨_, rfl⟩
      rw [← hw2]
      have hb2 : Below w1.heap.size w1 w2 := by rw [hw2]; exact (Below.refl _ _).alloc (Nat.le_refl _) _
      have HBK : Hid (Blk w2 w1.heap.size 9 #[.string (sOf k)]) := Lib.hid (by rw [hw2]; exact Blk.new _ _ _)
      have HB1 := Lib.hid (HC1.out.below_of HB.out.size (fun g hg e => by have e : g = r := e; have := HRL.out; omega))
      have HB2 := Lib.hid ((HB.out.trans HB1.out).trans (hb2.mono (by have := HSZ.out; have := HB.out.size; omega)))
      have HR2 := Lib.hid (HR1.out.below hb2)
      have HKL : Hid (k.length ≤ maxLen) := Lib.hid (by have := HKS.out k HKK.out; simp only [maxLen]; omega)
      clear hw2 hb2 hen hz
      have y0 : w2.cell? ⟨w1.heap.size, 0, none⟩ = some (.string (sOf k)) := HBK.out.cell 0
      obtain ⟨uA, un, uc, hlk, _, hsv⟩ := (HT.out.below HB2.out).look HKL.out
      have HSV := Lib.hid hsv
      obtain ⟨tbb, htb⟩ : ∃ tbb, tbb = (hasE l k).isSome := ⟨_, rfl⟩
      have HTB := Lib.hid htb
      rw [← htb] at hlk
      clear hsv htb
      go_upto_region 29 with fail
      obtain ⟨w3, hw3⟩ : ∃ W, W = (w2.alloc (.cells #[.slice uA un uc] 36)).alloc (.cells #[.bool tbb] 4) := ⟨_, rfl⟩
      rw [← hw3]
      have hb3 : Below w2.heap.size w2 w3 := by rw [hw3]; exact ((Below.refl _ _).alloc (Nat.le_refl _) _).alloc (by simp) _
      have HKA : Hid (Blk w3 w2.heap.size 36 #[.slice uA un uc]) := Lib.hid (by rw [hw3]; exact (Blk.new w2 _ _).alloc _)
      have HKB : Hid (Blk w3 (w2.heap.size + 1) 4 #[.bool tbb]) := Lib.hid (by
        rw [hw3]
        have := Blk.new (w2.alloc (.cells #[.slice uA un uc] 36)) 4 #[.bool tbb]
        simpa using this)
      have HB3 := Lib.hid (HB2.out.trans (hb3.mono HB2.out.size))
      have HR3 := Lib.hid (HR2.out.below hb3)
      have HBK3 := Lib.hid (HBK.out.below hb3)
      have HSV3 := Lib.hid (HSV.out.below hb3)
      obtain ⟨kc, w4, hconv, hts, hb4, hs4⟩ := bytes_new w3 k (by have := HKS.out k HKK.out; omega)
      have HTS := Lib.hid hts
      have HB4 := Lib.hid (HB3.out.trans (hb4.mono HB3.out.size))
      have HR4 := Lib.hid (HR3.out.below hb4)
      have x0 : w3.cell? ⟨w1.heap.size, 0, none⟩ = some (.string (sOf k)) := HBK3.out.cell 0
      have d8 : w4.cell? ⟨p8, 0, none⟩ = some (.slice aA an ac) := bkeep HB4.out C8.out
      have d9 : w4.cell? ⟨p9, 0, none⟩ = some (.slice hA hn hc) := bkeep HB4.out C9.out
      obtain ⟨ib, hib⟩ : ∃ ib, ib = decide (inE lo hi k) := ⟨_, rfl⟩
      have HIB := Lib.hid hib
      clear hw3 hb3 y0 hlk hts hb4 hs4 hib
      go_upto_region 30 with (go_at_call 36; go_loud (refine (containsT_any F F base N vA vn vc us ms k ((hasE l k).getD []) tbb uA un uc w1.heap.size (w2.heap.size + 1) w2.heap.size w3 (HLK.out.below HB3.out) hvn HKL.out HSV3.out x0 (HKB.out.cell 0) (HKA.out.cell 0)).mono ?_); rintro e w5 ⟨⟨rb, rfl, hrb⟩, rfl⟩; have HRB := Lib.hid hrb; clear hrb)
      have HFT : Hid (rb = true ↔ fitE ms l k) := Lib.hid (by rw [HRB.out, fit_same, HTB.out])
      cases ib <;> cases rb
      all_goals
        go_wp2_with (go_at_call 33; go_loud (refine (within_any (some ⟨w3.heap.size, 0, none⟩) aA hA k.length kc an ac hn hc p8 p9 k lo hi w4 (HTS.out.1.weak (fun _ _ => trivial)) ((HLo.out.below HB4.out).weak (fun _ _ => trivial)) ((HHi.out.below HB4.out).weak (fun _ _ => trivial)) d8 d9).mono ?_); rintro e w6 ⟨rfl, rfl⟩; rw [← HIB.out])
      all_goals try
        go_roundg cnt'
        case measure => have := HLT.out; omega
        case rel =>
          refine ⟨HR4.out.mono (fun x _ hx hin => ?_), HB4.out⟩
          rcases hx with hx | hx
          · exact hx hin
          · subst hx
            first
              | exact absurd hin (of_decide_eq_false HIB.out.symm)
              | exact HFT.out.1 rfl
              | (have h := HFT.out; simp at h; exact h)
      exact HRT.out _ _ _ _ _ _ _ _ _ _ _ _ _ _ _ _ _ _ _ _ _ _ _ _ _ _ ⟨k, HKK.out, of_decide_eq_true HIB.out.symm, fun h => by have h2 := HFT.out; simp at h2; exact h2 h⟩ HB4.out
end Go.Proofs.Ytpbnngfiinihmaa

namespace Go.Proofs.Ytpbnngfiinihmaa
open Go.RowKit Go.Maps
open Go.Lib (compareBytes)
theorem Ents.lt {w : World} {F : Nat → Prop} {A : Option Addr} {n : Nat} {l : List Ent} (h : Ents w F A n l) : Ents w (fun b => F b ∧ b < w.heap.size) A n l :=
  let ⟨h1, vs, h2, h3⟩ := h; ⟨h1, vs, h2.lt (by omega), fun i e he => let ⟨u, v, a, b, c, d⟩ := h3 i e he; ⟨u, v, a, b, c.lt, d.lt⟩⟩
theorem Lk.one {w : World} {base N tb : Nat} {F : Nat → Prop} {m : List Ent} (hb : base ≤ w.heap.size) (h1 : base ≤ tb) (h3 : TabM w tb N F m) :
    Lk (w.alloc (.cells #[.map (some tb)] 53)) base N F (.slice (some ⟨w.heap.size, 0, none⟩) 1 1) [.map (some tb)] [m] := by
  have h4 := h3.lt
  refine ⟨World.ownsRow_lit (e := 53) (size := 1) w #[.map (some tb)] 1 hb (by simp [maxLen]) (by simp), fun i e he => ?_⟩
  match i, he with
  | 0, he =>
    simp at he
    subst he
    exact ⟨_, rfl, tb, rfl, h1, fun e => by have e : (some w.heap.size : Option Nat) = some tb := e; injection e with e; omega, h3.below ((Below.refl _ _).alloc (Nat.le_refl _) _)⟩
/-- what a look answers -/
def SeenAns (w : World) (P : Prop) (e : Ending) (w' : World) : Prop := ∃ rb : Bool, e = .returned (.bool rb) ∧ (rb = true ↔ P) ∧ Below w.heap.size w w'
theorem SeenAns.no {w w' : World} {P : Prop} (hP : ¬ P) (hb : Below w.heap.size w w') : SeenAns w P (.returned (.bool false)) w' := ⟨false, rfl, by simp [hP], hb⟩
set_option maxRecDepth 100000 in
set_option maxHeartbeats 8000000 in
theorem seen_any (sA cA lA aA hA : Option Addr) (sn sc cn cc ln lc an ac hn hc : Nat) (h2 h3 h4 h5 : Value) (a b : Int) (start l : List Ent) (cs : List CallD) (lo hi : List UInt8) (w : World)
    (hS : Ents w Any sA sn start) (hL : CallsM w Any cA cn cs) (hE : Ents w Any lA ln l) (hlo : SB w Any (.slice aA an ac) lo) (hhi : SB w Any (.slice hA hn hc) hi)
    (b1 : sn ≤ 1048576) (b2 : cn ≤ 1048576) (b3 : ln ≤ 1048576) (hsh : Short 1048576 start) (hsl : Short 1048576 l) (hks : ∀ c ∈ cs, c.key.length ≤ 1048576) (hbm : b < 9223372036854775808) (ham : -9223372036854775808 ≤ a) :
    Calls Try.prog 15 #[.agg #[.slice sA sn sc, .slice cA cn cc, h2, h3, h4, h5], .slice lA ln lc, .slice aA an ac, .slice hA hn hc, .int .i64 a, .int .i64 b] w (SeenAns w (seenE start l cs lo hi a b)) := by
  have HS := Lib.hid (hS.lt.weak (G := Under w.heap.size) (fun b hb => hb.2))
  have HL := Lib.hid (hL.lt.weak (G := Under w.heap.size) (fun b hb => hb.2))
  have HE := Lib.hid (hE.lt.weak (G := Under w.heap.size) (fun b hb => hb.2))
  have HLo := Lib.hid (hlo.under (Nat.le_refl _))
  have HHi := Lib.hid (hhi.under (Nat.le_refl _))
  have HSH := Lib.hid hsh
  have HSL := Lib.hid hsl
  have HKS := Lib.hid hks
  obtain ⟨R, hR⟩ : ∃ R, R = SeenAns w (seenE start l cs lo hi a b) := ⟨_, rfl⟩
  have HR := Lib.hid hR
  rw [← hR]
  clear hS hL hE hlo hhi hsh hsl hks hR
  have hmm := @run_makeMap Try.prog
  go_enter Try.func15, Try.ntmps15
  go_upto_region 4 with fail
  obtain ⟨w1, hw1⟩ : ∃ W, W = (((w.alloc (.cells #[.slice sA sn sc, .slice cA cn cc, h2, h3, h4, h5] 29)).alloc (.cells #[.slice aA an ac] 36)).alloc (.cells #[.slice hA hn hc] 36)).alloc (.map #[] 0) := ⟨_, rfl⟩
  rw [← hw1]
  obtain ⟨sz, hsz⟩ : ∃ sz, sz = w.heap.size := ⟨_, rfl⟩
  have HSZ := Lib.hid hsz
  have HB1 : Hid (Below w.heap.size w w1) := Lib.hid (by rw [hw1]; exact ((((Below.refl _ _).alloc (Nat.le_refl _) _).alloc (by simp) _).alloc (by simp; omega) _).alloc (by simp; omega) _)
  have HH : Hid (Blk w1 sz 29 #[.slice sA sn sc, .slice cA cn cc, h2, h3, h4, h5]) := Lib.hid (by rw [hw1, hsz]; exact (((Blk.new w _ _).alloc _).alloc _).alloc _)
  have H8 : Hid (Blk w1 (sz + 1) 36 #[.slice aA an ac]) := Lib.hid (by
    rw [hw1, hsz]
    have := Blk.new (w.alloc (.cells #[.slice sA sn sc, .slice cA cn cc, h2, h3, h4, h5] 29)) 36 #[.slice aA an ac]
    simp only [World.size_alloc] at this
    exact (this.alloc _).alloc _)
  have H9 : Hid (Blk w1 (sz + 1 + 1) 36 #[.slice hA hn hc]) := Lib.hid (by
    rw [hw1, hsz]
    have := Blk.new ((w.alloc (.cells #[.slice sA sn sc, .slice cA cn cc, h2, h3, h4, h5] 29)).alloc (.cells #[.slice aA an ac] 36)) 36 #[.slice hA hn hc]
    simp only [World.size_alloc] at this
    exact this.alloc _)
  have HK0 : Hid (KeysM w1 (sz + 1 + 1 + 1) 0 []) := Lib.hid (by
    rw [hw1, hsz]
    have := KeysM.made (((w.alloc (.cells #[.slice sA sn sc, .slice cA cn cc, h2, h3, h4, h5] 29)).alloc (.cells #[.slice aA an ac] 36)).alloc (.cells #[.slice hA hn hc] 36))
    simpa only [World.size_alloc] using this)
  have S1 : Hid (w1.heap.size = sz + 4) := Lib.hid (by rw [hw1, hsz]; simp)
  simp only [← hsz]
  clear hw1 hsz hmm
  obtain ⟨p8, hp8⟩ : ∃ p8, p8 = sz + 1 := ⟨_, rfl⟩
  obtain ⟨p9, hp9⟩ : ∃ p9, p9 = p8 + 1 := ⟨_, rfl⟩
  obtain ⟨kb, hkb⟩ : ∃ kb, kb = p9 + 1 := ⟨_, rfl⟩
  simp only [← hp8, ← hp9, ← hkb] at H8 H9 HK0 ⊢
  have HN : Hid (p8 = sz + 1 ∧ p9 = sz + 2 ∧ kb = sz + 3) := Lib.hid (by omega)
  have HFK : Hid (∀ g, Under w.heap.size g → g < sz) := Lib.hid (fun g hg => by have hg : g < w.heap.size := hg; have := HSZ.out; omega)
  have h8k : p8 ≠ kb := by omega
  have h9k : p9 ≠ kb := by omega
  have hsk : sz ≠ kb := by omega
  clear hp8 hp9 hkb
  refine s0_in (Under w.heap.size) p8 p9 kb lA aA hA ln lc an ac hn hc l lo hi w1 _ (by exact Lib.hid (fun _ _ _ _ h => h)) b3 HSL (Lib.hid (HE.out.below HB1.out)) (Lib.hid (fun g hg => by have := HFK.out g hg; have := HN.out; omega)) (Lib.hid (HLo.out.below HB1.out)) (Lib.hid (HHi.out.below HB1.out)) HK0 (H8.out.cell 0) (H9.out.cell 0) h8k h9k ?_ ?_
  · intro v12 v15 v16 v31 v32 v33 v34 v35 v36 v37 v38 v39 v40 v41 v42 v43 v44 v45 v46 v47 v48 v49 v50 v51 v52 v53 v54 v55 v56 v57 v58 v59 v60 v61 v62 v63 w2 hok hk2 hc2
    have HOK := Lib.hid hok
    have HK2 := Lib.hid hk2
    have HC2 := Lib.hid hc2
    have HH2 := Lib.hid (HH.out.chg hc2 hsk)
    have x0 : w2.cell? ⟨sz, 0, none⟩ = some (.slice sA sn sc) := HH2.out.cell 0
    have HB2 := Lib.hid (HB1.out.trans (hc2.below_of HB1.out.size (fun g hg e => by have e : g = kb := e; have := HSZ.out; have := HN.out; omega)))
    clear hok hk2 hc2
    go_upto_region 11 with fail
    refine s2_in (Under w.heap.size) kb ln (l.map (·.1)) sA sn sc start w2 _ b1 b3 HSH (Lib.hid (HS.out.below HB2.out)) (Lib.hid (fun g hg => by have := HFK.out g hg; have := HN.out; omega)) HK2 ?_
    intro v18 v67 v68 v69 v70 v71 v72 v73 v74 v75 v76 v77 w3 hk3 hc3
    have HK3 := Lib.hid hk3
    have HB3 := Lib.hid (HB2.out.trans (hc3.below_of HB2.out.size (fun g hg e => by have e : g = kb := e; have := HSZ.out; have := HN.out; omega)))
    have HC3 := Lib.hid (HC2.out.trans hc3 (fun _ _ h => h))
    have HH3 := Lib.hid (HH2.out.chg hc3 hsk)
    have y0 : w3.cell? ⟨sz, 0, none⟩ = some (.slice sA sn sc) := HH3.out.cell 0
    have y1 : w3.cell? ⟨sz, 1, none⟩ = some (.slice cA cn cc) := HH3.out.cell 1
    have S3 : Hid (kb < w3.heap.size) := Lib.hid (by have := HK3.out.lt; exact this)
    clear x0 hk3 hc3
    have hFF : Hid (∀ g, Under w.heap.size g → g < w3.heap.size) := Lib.hid (fun g hg => by have := HFK.out g hg; have := S3.out; have := HN.out; omega)
    go_upto_region 16 with (go_at_call 32; (have := afterT_anyF (F := Under w.heap.size) sA cA sn sc cn cc a start cs w3 (HS.out.below HB3.out) (HL.out.below HB3.out) b1 b2 HSH.out hFF.out); refine this.mono ?_; clear this; rintro e5 w5 ⟨tb, n2, rfl, htb, hn2, ht5, _, _, _, hb5⟩; have HT5 := Lib.hid (ht5.mono (show n2 ≤ sn + cn from hn2)); have HB5 := Lib.hid hb5; have HTB := Lib.hid htb; have HH5 := Lib.hid (HH3.out.below hb5); clear ht5 hb5 htb hn2 y0 y1; skip)
    obtain ⟨w6, hw6⟩ : ∃ W, W = w5.alloc (.cells #[.map (some tb)] 53) := ⟨_, rfl⟩
    rw [← hw6]
    have HB56 : Hid (Below w5.heap.size w5 w6) := Lib.hid (by rw [hw6]; exact (Below.refl _ _).alloc (Nat.le_refl _) _)
    have HB36 : Hid (Below w3.heap.size w3 w6) := Lib.hid (HB5.out.trans (HB56.out.mono HB5.out.size))
    have HLK6 : Hid (Lk w6 (kb + 1) (sn + cn) (Under w.heap.size) (.slice (some ⟨w5.heap.size, 0, none⟩) 1 1) [.map (some tb)] (looksE start cs a b [])) := Lib.hid (by
      rw [hw6]
      have h3 := S3.out
      have h5 := HB5.out.size
      exact Lk.one (by omega) (by have := HTB.out; omega) HT5.out)
    have HH6 := Lib.hid (HH3.out.below HB36.out)
    have HK6 := Lib.hid (HK3.out.below HB36.out)
    have HB6 := Lib.hid (HB3.out.trans (HB36.out.mono HB3.out.size))
    have S6 : Hid (kb < w6.heap.size) := Lib.hid HK6.out.lt
    have H86 := Lib.hid ((H8.out.chg HC3.out h8k).below HB36.out)
    have H96 := Lib.hid ((H9.out.chg HC3.out h9k).below HB36.out)
    have z1 : w6.cell? ⟨sz, 1, none⟩ = some (.slice cA cn cc) := HH6.out.cell 1
    clear hw6
    go_upto_region 17 with fail
    refine s4_in (Under w.heap.size) (kb + 1) kb sz (ln + sn) a b (l.map (·.1) ++ start.map (·.1)) _ _ sA cA sn sc cn cc start cs h2 h3 h4 h5 w6 _ b1 b2 (by omega) hbm ham HSH (Lib.hid (HS.out.below HB6.out)) (Lib.hid (HL.out.below HB6.out)) HKS (Lib.hid (fun g hg => by have := HFK.out g hg; have := HN.out; omega)) (by have := HN.out; omega) (by omega) hsk (by have := S6.out; omega) HH6 HK6 HLK6 ?_
    intro v21 v88 v89 v90 v91 v92 v93 v94 v95 v96 v97 v98 v99 v100 v101 v102 v103 v104 v105 v106 v107 v108 v109 v110 v111 v112 v113 v114 v115 v116 v117 v118 v119 v120 v121 v122 v123 v124 lkv us2 w7 hk7 hl7 hc7
    obtain ⟨vA, vc, hv, _, _⟩ := own_val hl7.own
    subst hv
    have HK7 := Lib.hid hk7
    have HL7 := Lib.hid hl7
    have HC7 := Lib.hid hc7
    clear hk7 hl7 hc7 z1
    have HLN : Hid ((looksE start cs a b cs).length ≤ 4194304) := Lib.hid (by
      unfold looksE
      have h1 := List.length_filter_le (fun c : CallD => decide (a ≤ c.pt ∧ c.pt < b)) cs
      have h2 := HL.out.len
      simp only [List.length_cons, List.length_map]
      omega)
    obtain ⟨LS, hLS⟩ : ∃ LS, LS = looksE start cs a b cs := ⟨_, rfl⟩
    have HLS := Lib.hid hLS
    rw [← hLS] at HL7 HLN ⊢
    clear hLS
    have HB7 := Lib.hid (HB6.out.trans (HC7.out.below_of HB6.out.size (fun g hg e => by have := HSZ.out; have := HN.out; rcases e with e | e <;> omega)))
    have S7 : Hid (kb < w7.heap.size) := Lib.hid HK7.out.lt
    have hFF7 : Hid (∀ g, Under w.heap.size g → g < w7.heap.size) := Lib.hid (fun g hg => by have := HFK.out g hg; have := S7.out; have := HN.out; omega)
    have HME : Hid (mapE l = l) := Lib.hid (mapE_rising (okE_up HOK.out))
    have HSB : Hid (Short 1152921504606 l) := Lib.hid (fun e he => ⟨Nat.le_trans (HSL.out e he).1 (by omega), Nat.le_trans (HSL.out e he).2 (by omega)⟩)
    have H87 := Lib.hid (H86.out.chg HC7.out (fun e => by have := HN.out; rcases e with e | e <;> omega))
    have H97 := Lib.hid (H96.out.chg HC7.out (fun e => by have := HN.out; rcases e with e | e <;> omega))
    go_upto_region 26 with (first | (go_at_call 21; (have := of_anyF (F := Under w.heap.size) lA ln lc l w7 (HE.out.below HB7.out) b3 hFF7.out HSB.out); refine this.mono ?_; clear this; rintro e8 w8 ⟨rfl, ht8, hb8⟩; rw [HME.out] at ht8; have HT8 := Lib.hid ht8; have HB78 := Lib.hid hb8; have HK8 := Lib.hid (HK7.out.below hb8); have HB8 := Lib.hid (HB7.out.trans (hb8.mono HB7.out.size)); clear ht8 hb8) | (at_range; go_loud (refine wpList_range_keys rfl (.tmp 127) rfl rfl HK8.out (fun k => inE lo hi k → fitE LS l k) ?_); intro w9 cnt hr9 hb9; have HR9 := Lib.hid hr9; have HB9 := Lib.hid hb9; clear hr9 hb9))
    have H88 := Lib.hid (H87.out.below HB78.out)
    have H98 := Lib.hid (H97.out.below HB78.out)
    have S8 : Hid (kb < w8.heap.size) := Lib.hid HK8.out.lt
    refine s7_in (Under w.heap.size) (kb + 1) (sn + cn) p8 p9 kb w8.heap.size _ w7.heap.size ln cnt vA aA hA LS.length vc an ac hn hc _ LS l lo hi (l.map (·.1) ++ start.map (·.1) ++ keysC cs cs.length) w8 w9 _ HLN.out rfl S8.out HB9 (Lib.hid (fun k hk => ?_)) (Lib.hid (HLo.out.below HB8.out)) (Lib.hid (HHi.out.below HB8.out)) (H88.out.cell 0) (H98.out.cell 0) (Lib.hid (HL7.out.below HB78.out)) HT8 HR9 ?_ ?_
    · rcases List.mem_append.1 hk with hk | hk
      · rcases List.mem_append.1 hk with hk | hk
        · obtain ⟨e, he, rfl⟩ := List.mem_map.1 hk; exact (HSL.out e he).1
        · obtain ⟨e, he, rfl⟩ := List.mem_map.1 hk; exact (HSH.out e he).1
      · unfold keysC at hk
        obtain ⟨c, hc, rfl⟩ := List.mem_map.1 hk
        exact HKS.out c (List.mem_of_mem_take (List.mem_filter.1 hc).1)
    · intro v12 v23 v24 v25 v26 v129 v130 v131 v132 v133 v134 v135 v136 v137 v138 v139 v140 v141 v142 v143 v144 v145 v146 v147 v148 v149 w10 hall hb10
      have HA := Lib.hid hall
      have HB10 := Lib.hid (HB8.out.trans (hb10.mono HB8.out.size))
      clear hall hb10
      go_wp2
      rw [HR.out]
      refine ⟨_, rfl, ?_, HB10.out⟩
      unfold seenE
      rw [decide_eq_true_iff]
      exact ⟨fun h => ⟨h, HOK.out, fun k hk hin => by rw [keysE_eq] at hk; rw [← HLS.out]; exact HA.out k hk hin⟩, fun h => h.1⟩
    · intro v23 v24 v25 v26 v129 v130 v131 v132 v133 v134 v135 v136 v137 v138 v139 v140 v141 v142 v143 v144 v145 v146 v147 v148 v149 w10 hno hb10
      have HNO := Lib.hid hno
      have HB10 := Lib.hid (HB8.out.trans (hb10.mono HB8.out.size))
      clear hno hb10
      go_ret
      rw [HR.out]
      exact SeenAns.no (fun h => by obtain ⟨k, h1, h2, h3⟩ := HNO.out; exact h3 (by rw [HLS.out]; exact h.2.2 k (by rw [keysE_eq]; exact h1) h2)) HB10.out
  · intro v15 v16 v31 v32 v33 v34 v35 v36 v37 v38 v39 v40 v41 v42 v43 v44 v45 v46 v47 v48 v49 v50 v51 v52 v53 v54 v55 v56 v57 v58 v59 v60 v61 v62 v63 w2 hno hc2
    have HNO := Lib.hid hno
    have HB2 := Lib.hid (HB1.out.trans (hc2.below_of HB1.out.size (fun g hg e => by have e : g = kb := e; have := HSZ.out; have := HN.out; omega)))
    clear hno hc2
    go_ret
    rw [HR.out]
    exact SeenAns.no (fun h => by obtain ⟨i, h1, h2⟩ := HNO.out; exact h2 (h.2.1 i h1)) HB2.out
end Go.Proofs.Ytpbnngfiinihmaa

namespace Go.Proofs.Ytpbnngfiinihmaa
open Go.RowKit
open Go.Lib (compareBytes)
open Sf (Off)
set_option maxRecDepth 100000 in
set_option maxHeartbeats 8000000 in
theorem rseen_any (sA cA lA aA hA : Option Addr) (sn sc cn cc ln lc an ac hn hc : Nat) (h2 h3 h4 h5 : Value) (a b : Int) (start l : List Ent) (cs : List CallD) (lo hi : List UInt8) (w : World)
    (hS : Ents w Any sA sn start) (hL : CallsM w Any cA cn cs) (hE : Ents w Any lA ln l) (hlo : SB w Any (.slice aA an ac) lo) (hhi : SB w Any (.slice hA hn hc) hi)
    (b1 : sn ≤ 1048576) (b2 : cn ≤ 1048576) (b3 : ln ≤ 1048576) (hsh : Short 1048576 start) (hsl : Short 1048576 l) (hks : ∀ c ∈ cs, c.key.length ≤ 1048576) (hbm : b < 9223372036854775808) (ham : -9223372036854775808 ≤ a)
    (han : an ≤ 1152921504606) (hhn : hn ≤ 1152921504606) :
    Calls Try.prog 16 #[.agg #[.slice sA sn sc, .slice cA cn cc, h2, h3, h4, h5], .slice lA ln lc, .slice aA an ac, .slice hA hn hc, .int .i64 a, .int .i64 b] w (SeenAns w (seenE start l cs lo hi a b)) := by
  have HS := Lib.hid (hS.lt.weak (G := Under w.heap.size) (fun b hb => hb.2))
  have HL := Lib.hid (hL.lt.weak (G := Under w.heap.size) (fun b hb => hb.2))
  have HE := Lib.hid (hE.lt.weak (G := Under w.heap.size) (fun b hb => hb.2))
  have HLo := Lib.hid (hlo.under (Nat.le_refl _))
  have HHi := Lib.hid (hhi.under (Nat.le_refl _))
  have HSH := Lib.hid hsh
  have HSL := Lib.hid hsl
  have HKS := Lib.hid hks
  have HN := Lib.hid hE.len
  have HNS := Lib.hid hS.len
  have HNC := Lib.hid hL.len
  obtain ⟨R, hR⟩ : ∃ R, R = SeenAns w (seenE start l cs lo hi a b) := ⟨_, rfl⟩
  have HR := Lib.hid hR
  rw [← hR]
  clear hS hL hE hlo hhi hsh hsl hks hR
  by_cases hba : b < a
  · go_enter Try.func16, Try.ntmps16
    go_wp2
    rw [HR.out]
    exact SeenAns.no (fun h => by have := h.1; omega) ((Below.refl _ _).alloc (Nat.le_refl _) _)
  · have hab : a ≤ b := by omega
    have HAB := Lib.hid hab
    go_enter Try.func16, Try.ntmps16
    go_upto_region 5 with fail
    obtain ⟨w1, hw1⟩ : ∃ W, W = w.alloc (.cells #[.slice sA sn sc, .slice cA cn cc, h2, h3, h4, h5] 29) := ⟨_, rfl⟩
    rw [← hw1]
    obtain ⟨sz, hsz⟩ : ∃ sz, sz = w.heap.size := ⟨_, rfl⟩
    have HSZ := Lib.hid hsz
    have HB1 : Hid (Below w.heap.size w w1) := Lib.hid (by rw [hw1]; exact (Below.refl _ _).alloc (Nat.le_refl _) _)
    have HH1 : Hid (Blk w1 sz 29 #[.slice sA sn sc, .slice cA cn cc, h2, h3, h4, h5]) := Lib.hid (by rw [hw1, hsz]; exact Blk.new w _ _)
    have S1 : Hid (w1.heap.size = sz + 1) := Lib.hid (by rw [hw1, hsz]; simp)
    simp only [← hsz]
    obtain ⟨base, hbase⟩ : ∃ base, base = sz + 1 := ⟨_, rfl⟩
    have HBS := Lib.hid hbase
    have hbb : sz < base := by omega
    have HBB := Lib.hid hbb
    clear hw1 hsz hbase hbb hba hab
    have HFU : Hid (∀ g, Under w.heap.size g → Under base g) := Lib.hid (fun g hg => by have hg : g < w.heap.size := hg; have h1 := HSZ.out; have h2 := HBS.out; show g < base; omega)
    have HUF : Hid (∀ b, Under base b → ¬ From base b) := Lib.hid (fun b h1 h2 => by have h1 : b < base := h1; have h2 : base ≤ b := h2; omega)
    have HFB : Hid (∀ g, From base g → w.heap.size ≤ g) := Lib.hid (fun g hg => by have hg : base ≤ g := hg; have h1 := HSZ.out; have h2 := HBS.out; omega)
    have HS1 := Lib.hid ((HS.out.below HB1.out).weak HFU.out)
    have HL1 := Lib.hid ((HL.out.below HB1.out).weak HFU.out)
    have HE1 := Lib.hid ((HE.out.below HB1.out).weak HFU.out)
    have HLo1 := Lib.hid ((HLo.out.below HB1.out).weak HFU.out)
    have HHi1 := Lib.hid ((HHi.out.below HB1.out).weak HFU.out)
    refine r0_in base lA aA hA ln lc an ac hn hc l lo hi w1 _ (by exact Lib.hid (fun _ _ _ _ h => h)) b3 HSL HE1 HLo1 HHi1 (by have h1 := S1.out; have h2 := HBS.out; omega) han hhn ?_ ?_
    · intro v12 v14 v15 v31 v32 v33 v34 v35 v36 v37 v38 v39 v40 v41 v42 v43 v44 v45 v46 v47 v48 v49 v50 v51 v52 v53 v54 v55 v56 v57 v58 v59 v60 v61 v62 v63 v64 v65 v66 v67 v68 v69 v70 v71 v72 v73 kv2 us2 w2 hok hk2 hc2
      have HOK := Lib.hid hok
      have HK2 := Lib.hid hk2
      have HC2 := Lib.hid hc2
      have HH2 := Lib.hid (HH1.out.chg hc2 (HUF.out sz HBB.out))
      have HS2 := Lib.hid (HS1.out.chg hc2 HUF.out)
      have x0 : w2.cell? ⟨sz, 0, none⟩ = some (.slice sA sn sc) := HH2.out.cell 0
      have S2 : Hid (base ≤ w2.heap.size) := Lib.hid (by have h1 := S1.out; have h2 := HBS.out; have := hc2.size; omega)
      clear hok hk2 hc2
      go_upto_region 12 with fail
      refine r2_in base sz sA sn sc start (l.map (·.1)) kv2 us2 _ _ _ _ _ w2 _ b1 (by have := HN.out; rw [List.length_map]; omega) HS2 S2.out HBB.out HH2 HK2 ?_
      intro v16 v74 v75 v76 v77 v78 v79 v80 v81 v82 v83 v84 v85 v86 v87 v88 v89 kv3 us3 w3 hk3 hc3
      have HK3 := Lib.hid hk3
      have HC3 := Lib.hid (HC2.out.trans hc3 (fun _ _ h => h))
      have HH3 := Lib.hid (HH1.out.chg HC3.out (HUF.out sz HBB.out))
      have y0 : w3.cell? ⟨sz, 0, none⟩ = some (.slice sA sn sc) := HH3.out.cell 0
      have y1 : w3.cell? ⟨sz, 1, none⟩ = some (.slice cA cn cc) := HH3.out.cell 1
      have S3 : Hid (base ≤ w3.heap.size) := Lib.hid (by have h1 := S2.out; have := hc3.size; omega)
      have HX3 : Hid (∀ g, kv3.ownBlock = some g → g < w3.heap.size) := Lib.hid (fun g hg => (own_lt hk3.own g hg).2)
      have HO3 : Hid (∀ g, Under base g → Off (fun g => kv3.ownBlock = some g) g) := Lib.hid (fun g h1 h2 => by have h1 : g < base := h1; have := (own_lt hk3.own g h2).1; omega)
      have HSB : Hid (Short 1152921504606 start) := Lib.hid (short_up HSH.out)
      clear x0 hk3 hc3
      go_upto_region 17 with (go_at_call 13; (have := Sf.rafter_any (X := fun g => kv3.ownBlock = some g) sA cA sn sc cn cc a start cs w3 ((HS1.out.chg HC3.out HUF.out).weak HO3.out) ((HL1.out.chg HC3.out HUF.out).weak HO3.out) b1 b2 HSB.out HX3.out); refine this.mono ?_; clear this; rintro e5 w5 ⟨eA, en, ec, rfl, he5, hb5⟩; have HE5 := Lib.hid he5; have HB5 := Lib.hid hb5; clear he5 hb5 y0 y1)
      obtain ⟨w6, hw6⟩ : ∃ W, W = w5.alloc (.cells #[.slice eA en ec] 27) := ⟨_, rfl⟩
      rw [← hw6]
      have HB56 : Hid (Below w5.heap.size w5 w6) := Lib.hid (by rw [hw6]; exact (Below.refl _ _).alloc (Nat.le_refl _) _)
      have HB36 : Hid (Below w3.heap.size w3 w6) := Lib.hid (HB5.out.trans (HB56.out.mono HB5.out.size))
      have hen : en ≤ 2097152 := by have h1 := HE5.out.len; have h2 := afterE_len start cs a; have h3 := HNS.out; have h4 := HNC.out; omega
      have HM6 : Hid (Mt w6 base kv3 (.slice (some ⟨w5.heap.size, 0, none⟩) 1 1) [.slice eA en ec] (looksE start cs a b [])) := Lib.hid (by
        rw [hw6]
        exact Mt.one (by have := S3.out; have := HB5.out.size; omega) ⟨eA, en, ec, rfl, hen, HE5.out⟩)
      have HSP : Hid (∀ g, (Value.slice (some ⟨w5.heap.size, 0, none⟩) 1 1).ownBlock = some g → kv3.ownBlock ≠ some g) := Lib.hid (fun g h1 h2 => by
        have h1 : (some w5.heap.size : Option Nat) = some g := h1
        injection h1 with h1
        have := HX3.out g h2
        have := HB5.out.size
        omega)
      have HC6 : Hid (Chg (From base) w1 w6) := Lib.hid (HC3.out.then HB36.out)
      have HH6 := Lib.hid (HH1.out.chg HC6.out (HUF.out sz HBB.out))
      have HK6 := Lib.hid (HK3.out.below HB36.out)
      have S6 : Hid (base ≤ w6.heap.size) := Lib.hid (by have h1 := S3.out; have := HB36.out.size; omega)
      have HS6 := Lib.hid (HS1.out.chg HC6.out HUF.out)
      have HL6 := Lib.hid (HL1.out.chg HC6.out HUF.out)
      have hk0 : (l.map (·.1) ++ start.map (·.1)).length ≤ 2097152 := by have h1 := HN.out; have h2 := HNS.out; rw [List.length_append, List.length_map, List.length_map]; omega
      clear hw6
      refine r4_in base sz a b sA cA sn sc cn cc start cs _ kv3 _ us3 _ h2 h3 h4 h5 w6 _ b1 b2 hk0 hbm ham HSB HS6 HL6 S6.out HBB.out HH6 HK6 HM6 HSP ?_
      intro v18 v19 v97 v98 v99 v100 v101 v102 v103 v104 v105 v106 v107 v108 v109 v110 v111 v112 v113 v114 v115 v116 v117 v118 v119 v120 v121 v122 v123 v124 v125 v126 v127 v128 v129 v130 v131 v132 v133 v134 v135 v136 v137 v138 v139 v140 v141 v142 v143 v144 v145 kv7 mv7 us7 ums7 w7 hk7 hm7 hc7
      obtain ⟨kA, kc, hkv, _, _⟩ := own_val hk7.own
      obtain ⟨mA, mc, hmv, _, _⟩ := own_val hm7.own
      subst hkv
      subst hmv
      have HK7 := Lib.hid hk7
      have HM7 := Lib.hid hm7
      have HC7 := Lib.hid (HC6.out.trans hc7 (fun _ _ h => h))
      clear hk7 hm7 hc7
      have HMN : Hid ((looksE start cs a b cs).length ≤ 8388608) := Lib.hid (by
        unfold looksE
        have h1 := List.length_filter_le (fun c : CallD => decide (a ≤ c.pt ∧ c.pt < b)) cs
        have h2 := HNC.out
        simp only [List.length_cons, List.length_map]
        omega)
      have HKN : Hid ((l.map (·.1) ++ start.map (·.1) ++ keysC cs cs.length).length ≤ 8388608) := Lib.hid (by
        unfold keysC
        have h1 := List.length_filter_le (fun c : CallD => decide (c.kd = 2 ∨ c.kd = 3)) (cs.take cs.length)
        have h2 : (cs.take cs.length).length ≤ cs.length := by rw [List.length_take]; omega
        have h3 := HN.out
        have h4 := HNS.out
        have h5 := HNC.out
        simp only [List.length_append, List.length_map]
        omega)
      have HKL : Hid (∀ k ∈ l.map (·.1) ++ start.map (·.1) ++ keysC cs cs.length, k.length ≤ 1152921504606) := Lib.hid (fun k hk => by
        rcases List.mem_append.1 hk with hk | hk
        · rcases List.mem_append.1 hk with hk | hk
          · obtain ⟨e, he, rfl⟩ := List.mem_map.1 hk; have := (HSL.out e he).1; omega
          · obtain ⟨e, he, rfl⟩ := List.mem_map.1 hk; have := (HSH.out e he).1; omega
        · unfold keysC at hk
          obtain ⟨c, hc, rfl⟩ := List.mem_map.1 hk
          have := HKS.out c (List.mem_of_mem_take (List.mem_filter.1 hc).1)
          omega)
      have HB7 := Lib.hid (HB1.out.trans (HC7.out.below_of HB1.out.size (fun g hg e => by have h1 := HFB.out g e; omega)))
      obtain ⟨LS, hLS⟩ : ∃ LS, LS = looksE start cs a b cs := ⟨_, rfl⟩
      have HLS := Lib.hid hLS
      obtain ⟨KS, hKS⟩ : ∃ KS, KS = l.map (·.1) ++ start.map (·.1) ++ keysC cs cs.length := ⟨_, rfl⟩
      have HKE := Lib.hid hKS
      rw [← hLS] at HM7 HMN ⊢
      rw [← hKS] at HK7 HKN HKL HM7 ⊢
      clear hLS hKS
      go_upto_region 25 with fail
      refine rb6_in base KS.length kc LS.length mc ln lc an ac hn hc kA mA lA aA hA us7 ums7 KS LS l lo hi w7 _ (by exact Lib.hid (fun _ _ _ _ h => h)) HKN.out HMN.out b3 han hhn HKL HK7 HM7 (Lib.hid ((HE1.out.chg HC7.out HUF.out).weak (fun _ _ => trivial))) (Lib.hid ((HLo1.out.chg HC7.out HUF.out).weak (fun _ _ => trivial))) (Lib.hid ((HHi1.out.chg HC7.out HUF.out).weak (fun _ _ => trivial))) ?_ ?_
      · intro v12 v20 v21 v22 v23 v24 v25 v26 v27 v146 v147 v148 v149 v150 v151 v152 v153 v154 v155 v156 v157 v158 v159 v160 v161 v162 v163 v164 v165 v166 v167 v168 v169 v170 v171 v172 v173 v174 v175 v176 v177 v178 v179 v180 v181 v182 v183 v184 v185 v186 v187 v188 v189 v190 v191 v192 v193 v194 v195 v196 v197 v198 v199 v200 v201 v202 w8 hall hb8
        have HA := Lib.hid hall
        have HB8 := Lib.hid (HB7.out.trans (hb8.mono HB7.out.size))
        clear hall hb8
        go_wp2
        rw [HR.out]
        refine ⟨_, rfl, ?_, HB8.out⟩
        unfold seenE
        exact ⟨fun _ => ⟨HAB.out, HOK.out, fun k hk hin => by rw [keysE_eq, ← HKE.out] at hk; rw [← HLS.out]; exact HA.out k hk hin⟩, fun _ => rfl⟩
      · intro v20 v21 v22 v23 v24 v25 v26 v27 v146 v147 v148 v149 v150 v151 v152 v153 v154 v155 v156 v157 v158 v159 v160 v161 v162 v163 v164 v165 v166 v167 v168 v169 v170 v171 v172 v173 v174 v175 v176 v177 v178 v179 v180 v181 v182 v183 v184 v185 v186 v187 v188 v189 v190 v191 v192 v193 v194 v195 v196 v197 v198 v199 v200 v201 v202 w8 hno hb8
        have HNO := Lib.hid hno
        have HB8 := Lib.hid (HB7.out.trans (hb8.mono HB7.out.size))
        clear hno hb8
        go_ret
        rw [HR.out]
        exact SeenAns.no (fun h => by obtain ⟨k, h1, h2, h3⟩ := HNO.out; exact h3 (by rw [HLS.out]; exact h.2.2 k (by rw [keysE_eq, ← HKE.out]; exact h1) h2)) HB8.out
    · intro v13 v14 v15 v31 v32 v33 v34 v35 v36 v37 v38 v39 v40 v41 v42 v43 v44 v45 v46 v47 v48 v49 v50 v51 v52 v53 v54 v55 v56 v57 v58 v59 v60 v61 v62 v63 v64 v65 v66 v67 v68 v69 v70 v71 v72 v73 w2 hno hc2
      have HNO := Lib.hid hno
      have HB2 := Lib.hid (HB1.out.trans (hc2.below_of HB1.out.size (fun g hg e => by have h1 := HFB.out g e; omega)))
      clear hno hc2
      go_ret
      rw [HR.out]
      exact SeenAns.no (fun h => by obtain ⟨i, h1, h2⟩ := HNO.out; exact h2 (h.2.1 i h1)) HB2.out
end Go.Proofs.Ytpbnngfiinihmaa

namespace Go.Proofs.Ytpbnngfiinihmaa
open Go.ChangeShapes Go.WideShapes Go.Deep Go.RowKit
theorem bulk_one {H : Type} (d : DataW H) : 1 ≤ Rows.uptoBulk d := by
  cases d with
  | lit l => cases l <;> simp [Rows.uptoBulk]
  | _ => simp [Rows.uptoBulk]
theorem bulk_part {H : Type} {d : DataW H} {l : List (DataW H)} (h : d ∈ l) : Rows.uptoBulk d ≤ Rows.uptoBulkAll l := by
  induction l with
  | nil => cases h
  | cons x r ih =>
    simp only [Rows.uptoBulkAll]
    cases List.mem_cons.1 h with
    | inl e => subst e; omega
    | inr e => have := ih e; omega
theorem bulk_len {H : Type} (l : List (DataW H)) : l.length ≤ Rows.uptoBulkAll l := by
  induction l with
  | nil => simp [Rows.uptoBulkAll]
  | cons x r ih => have := bulk_one x; simp only [Rows.uptoBulkAll, List.length_cons]; omega
theorem bulk_slice {H : Type} (elems spare : List (DataW H)) : Rows.uptoBulkAll elems + 1 ≤ Rows.uptoBulk (.slice elems spare) := by
  simp only [Rows.uptoBulk]; omega

/-- the bytes that a slice's cells hold -/
def readBytes (w : World) : Value → List UInt8
  | .slice (some a) n _ => (List.range n).map fun j => match w.cell? (a.add j) with | some (.int _ z) => UInt8.ofNat z.toNat | _ => 0
  | _ => []
section
variable {H : Type} {enc : TypeId × Value → H} {w : World} {base : Nat} {spare : Nat → Bool} {held : Bool}
theorem cell_bt {a : Addr} {v : Value} (h : w.cell? (a.add 0) = some v) : a = ⟨a.block, a.off, none⟩ := by
  obtain ⟨b, o', s⟩ := a
  have hs : s = none := by simpa [Addr.add] using World.cell?_spot h
  subst hs
  rfl
theorem sb_of_trod {fuel : Nat} {v : Value} {y : DataW H × List MemPlace} (h : DataW.trod enc Try.prog w base spare held fuel 36 [v] = some y) : SB w (fun _ => True) v (readBytes w v) ∧ (readBytes w v).length + 1 ≤ Rows.uptoBulk y.1 := by
  rcases open_ints Try.underlying36 Try.underlying5 (by kernel_rfl) h with ⟨hcs, rfl⟩ | ⟨a, len, cap, zs, hcs, _, hl, hm, hz, rfl, hcell, hwz⟩
  · have hv : v = .slice none 0 0 := by simpa using hcs
    subst hv
    exact ⟨SB.nil _ _, by simp [readBytes, Rows.uptoBulk]⟩
  · have hv : v = .slice (some a) len cap := by simpa using hcs
    subst hv
    have hzl : len ≤ zs.length := by rw [hz]; split <;> omega
    have hrl : (readBytes w (.slice (some a) len cap)).length = len := by simp [readBytes]
    refine ⟨⟨some a, len, cap, rfl, hl, hm, hrl.symm, by rw [bvs_len, hrl, Nat.mul_one], fun hn => ?_⟩, ?_⟩
    · have ha := cell_bt (hcell 0 (by omega))
      refine ⟨a.block, a.off, by rw [← ha], trivial, fun j u hj => ?_⟩
      have hj' : j < len := by have := (List.getElem?_eq_some_iff.1 hj).1; rw [bvs_len, hrl] at this; exact this
      have hc := hcell j (by omega)
      have hz1 := hwz (zs.getD j 0) (by rw [List.getD_eq_getElem?_getD, List.getElem?_eq_getElem (by omega)]; exact List.getElem_mem (by omega))
      have hz2 : 0 ≤ zs.getD j 0 ∧ zs.getD j 0 ≤ 255 := by simpa [Lit.wf, IntKind.min, IntKind.max, IntKind.signed, IntKind.bits] using hz1
      simp only [bvs, readBytes, List.map_map, List.getElem?_map, List.getElem?_range hj', Option.map_some, Function.comp, hc] at hj
      injection hj with hj
      subst hj
      rw [ha, add_eq] at hc
      rw [hc]
      unfold bv
      congr 2
      rw [UInt8.toNat_ofNat']
      omega
    · rw [hrl]
      have h1 := bulk_slice (lits (H := H) IntKind.u8 (zs.take len)) (lits IntKind.u8 (zs.drop len))
      have h2 := bulk_len (lits (H := H) IntKind.u8 (zs.take len))
      have h3 : (lits (H := H) IntKind.u8 (zs.take len)).length = len := by simp [lits]; omega
      show len + 1 ≤ Rows.uptoBulk (.slice (lits IntKind.u8 (zs.take len)) (lits IntKind.u8 (zs.drop len)))
      omega
theorem open_slice_fields {P : Program} {t e : TypeId} {fs : Array Field} {fuel : Nat} {cs : List Value} {x : DataW H × List MemPlace} (ht : P.underlying t = some (.slice e)) (he : P.underlying e = some (.struct fs))
    (hone : oneCellFields P fs = true) (hC : P.cellsOf e = fs.size) (h : DataW.trod enc P w base spare held fuel t cs = some x) :
    (cs = [.slice none 0 0] ∧ x = (.nil, [])) ∨
    ∃ (a : Addr) (len cap m : Nat) (D : Nat → DataW H) (Pl : Nat → List MemPlace), cs = [.slice (some a) len cap] ∧ base ≤ a.block ∧ len ≤ cap ∧ cap ≤ maxLen ∧ m = (if spare a.block then cap else len) ∧
      x = (.slice ((List.range len).map D) ((List.range (m - len)).map fun j => D (len + j)), MemPlace.row a (m * fs.size) ++ (List.range m).flatMap Pl) ∧
      ∀ i, i < m → ∃ (ys : List (DataW H × List MemPlace)) (n : Nat), D i = .agg (ys.map (·.1)) ∧ Pl i = ys.flatMap (·.2) ∧ ys.length = fs.size ∧
        ∀ (j : Nat) (f : Field), fs[j]? = some f → ∃ (v : Value) (y : DataW H × List MemPlace), w.cell? (a.add (i * fs.size + j)) = some v ∧ ys[j]? = some y ∧ DataW.trod enc P w base spare held n f.type [v] = some y := by
  rcases open_slice ht h with h0 | ⟨a, len, cap, m, n, D, Pl, hcs, hb, hl, hm, hmm, hx, hi⟩
  · exact .inl h0
  · refine .inr ⟨a, len, cap, m, D, Pl, hcs, hb, hl, hm, hmm, by rw [hC] at hx; exact hx, fun i him => ?_⟩
    obtain ⟨cs', hc, ht'⟩ := hi i him
    rw [hC] at hc
    obtain ⟨ys, n', hn', hy, hlen, hyl, hf⟩ := DataW.trod_struct he ht'
    obtain ⟨_, hcl, hat⟩ := World.cells?_some hc
    simp only [Prod.mk.injEq] at hy
    refine ⟨ys, n', hy.1, hy.2, hyl, fun j f hj => ?_⟩
    obtain ⟨ho, hk⟩ := hone_of hone j f hj
    have hjl : j < fs.size := (Array.getElem?_eq_some_iff.1 hj).1
    have hcell := hat j hjl
    have hv : cs'[j]? = some (cs'[j]'(by omega)) := List.getElem?_eq_getElem (by omega)
    have h1 := hf j f hj
    rw [ho, hk] at h1
    have hone' : (cs'.drop j).take 1 = [cs'[j]'(by omega)] := by
      rw [List.drop_eq_getElem_cons (by omega)]
      rfl
    rw [hone'] at h1
    have hys : ys[j]? = some (ys[j]'(by omega)) := List.getElem?_eq_getElem (by omega)
    refine ⟨_, _, ?_, hys, h1.trans hys⟩
    rw [← Go.Deep.add_add, hcell, hv]

/-- the entry whose two slices lie at a place -/
def readEnt (w : World) (a : Addr) : Ent := (readBytes w ((w.cell? a).getD undef), readBytes w ((w.cell? (a.add 1)).getD undef))
theorem ents_of_trod {fuel : Nat} {A : Option Addr} {n c : Nat} {x : DataW H × List MemPlace} (h : DataW.trod enc Try.prog w base (fun _ => true) held fuel 27 [.slice A n c] = some x) (hb : Rows.uptoBulk x.1 ≤ 1048576) :
    ∃ l : List Ent, Ents w (fun _ => True) A n l ∧ n ≤ c ∧ c ≤ maxLen ∧ n ≤ 1048576 ∧ ∀ e ∈ l, e.1.length ≤ 1048576 ∧ e.2.length ≤ 1048576 := by
  rcases open_slice_fields Try.underlying27 Try.underlying38 (by kernel_rfl) (by kernel_rfl) h with ⟨hcs, rfl⟩ | ⟨a, len, cap, m, D, Pl, hcs, _, hl, hm, hmm, rfl, hel⟩
  · simp only [List.cons.injEq, Value.slice.injEq, and_true] at hcs
    obtain ⟨rfl, rfl, rfl⟩ := hcs
    exact ⟨[], Ents.nil _ _ _, Nat.le_refl _, by simp [maxLen], by omega, by simp⟩
  · simp only [List.cons.injEq, Value.slice.injEq, and_true] at hcs
    obtain ⟨rfl, rfl, rfl⟩ := hcs
    have hmn : n ≤ m := by rw [hmm]; split <;> omega
    have hb : Rows.uptoBulk (.slice ((List.range n).map D) ((List.range (m - n)).map fun j => D (n + j))) ≤ 1048576 := hb
    have hbs := bulk_slice ((List.range n).map D) ((List.range (m - n)).map fun j => D (n + j))
    have hlen := bulk_len ((List.range n).map D)
    rw [List.length_map, List.length_range] at hlen
    have hn : n ≤ 1048576 := by omega
    have hone : ∀ i, i < n → ∃ v0 v1, w.cell? (a.add (i * 2)) = some v0 ∧ w.cell? (a.add (i * 2 + 1)) = some v1 ∧ SB w (fun _ => True) v0 (readBytes w v0) ∧ SB w (fun _ => True) v1 (readBytes w v1) ∧ (readBytes w v0).length ≤ 1048576 ∧ (readBytes w v1).length ≤ 1048576 := by
      intro i hi
      obtain ⟨ys, k, hD, _, hyl, hf⟩ := hel i (by omega)
      obtain ⟨v0, y0, c0, e0, t0⟩ := hf 0 _ rfl
      obtain ⟨v1, y1, c1, e1, t1⟩ := hf 1 _ rfl
      obtain ⟨s0, b0⟩ := sb_of_trod t0
      obtain ⟨s1, b1⟩ := sb_of_trod t1
      have hDi : Rows.uptoBulk (D i) ≤ 1048576 := by
        have := bulk_part (d := D i) (l := (List.range n).map D) (List.mem_map.2 ⟨i, by simpa using hi, rfl⟩)
        omega
      rw [hD] at hDi
      simp only [Rows.uptoBulk] at hDi
      have p0 := bulk_part (d := y0.1) (l := ys.map (·.1)) (List.mem_map.2 ⟨y0, List.mem_of_getElem? e0, rfl⟩)
      have p1 := bulk_part (d := y1.1) (l := ys.map (·.1)) (List.mem_map.2 ⟨y1, List.mem_of_getElem? e1, rfl⟩)
      exact ⟨v0, v1, c0, c1, s0, s1, by omega, by omega⟩
    have hval : ∀ i, i < n → w.cell? (a.add (i * 2)) = some ((w.cell? (a.add (i * 2))).getD undef) ∧ w.cell? (a.add (i * 2 + 1)) = some ((w.cell? (a.add (i * 2 + 1))).getD undef) := by
      intro i hi
      obtain ⟨v0, v1, c0, c1, _⟩ := hone i hi
      rw [c0, c1]; exact ⟨rfl, rfl⟩
    let ve : Nat → Value := fun t => (w.cell? (a.add t)).getD undef
    have hve : ∀ i, i < n → SB w (fun _ => True) (ve (i * 2)) (readBytes w (ve (i * 2))) ∧ SB w (fun _ => True) (ve (i * 2 + 1)) (readBytes w (ve (i * 2 + 1))) ∧ (readBytes w (ve (i * 2))).length ≤ 1048576 ∧ (readBytes w (ve (i * 2 + 1))).length ≤ 1048576 := by
      intro i hi
      obtain ⟨v0, v1, c0, c1, s0, s1, b0, b1⟩ := hone i hi
      have e0 : ve (i * 2) = v0 := by show (w.cell? (a.add (i * 2))).getD undef = v0; rw [c0]; rfl
      have e1 : ve (i * 2 + 1) = v1 := by show (w.cell? (a.add (i * 2 + 1))).getD undef = v1; rw [c1]; rfl
      rw [e0, e1]; exact ⟨s0, s1, b0, b1⟩
    refine ⟨(List.range n).map fun i => (readBytes w (ve (i * 2)), readBytes w (ve (i * 2 + 1))), ⟨(by show n = _; simp), (List.range (n * 2)).map ve, ⟨by simp, fun h0 => ?_⟩, fun i e he => ?_⟩, hl, hm, hn, fun e he => ?_⟩
    · have ha := cell_bt (hval 0 h0).1
      refine ⟨a.block, a.off, by rw [← ha], trivial, fun j u hj => ?_⟩
      have hj2 : j < n * 2 := by have := (List.getElem?_eq_some_iff.1 hj).1; simpa using this
      rw [List.getElem?_map, List.getElem?_range hj2] at hj
      have hj : ve j = u := by simpa using hj
      have hc : w.cell? (a.add j) = some (ve j) := by
        rcases Nat.mod_two_eq_zero_or_one j with h2 | h2
        · have := (hval (j / 2) (by omega)).1
          rwa [show j / 2 * 2 = j by omega] at this
        · have := (hval (j / 2) (by omega)).2
          rwa [show j / 2 * 2 + 1 = j by omega] at this
      rw [ha, add_eq] at hc
      rw [hc, hj]
    · have hi : i < n := by have := (List.getElem?_eq_some_iff.1 he).1; simpa using this
      rw [List.getElem?_map, List.getElem?_range hi] at he
      have he : (readBytes w (ve (i * 2)), readBytes w (ve (i * 2 + 1))) = e := by simpa using he
      subst he
      obtain ⟨s0, s1, _⟩ := hve i hi
      refine ⟨_, _, ?_, ?_, s0, s1⟩
      · rw [List.getElem?_map, List.getElem?_range (by omega), show 2 * i = i * 2 by omega]; rfl
      · rw [List.getElem?_map, List.getElem?_range (by omega), show 2 * i + 1 = i * 2 + 1 by omega]; rfl
    · obtain ⟨i, hi, rfl⟩ := List.mem_map.1 he
      obtain ⟨_, _, b0, b1⟩ := hve i (by simpa using hi)
      exact ⟨b0, b1⟩
end
end Go.Proofs.Ytpbnngfiinihmaa
