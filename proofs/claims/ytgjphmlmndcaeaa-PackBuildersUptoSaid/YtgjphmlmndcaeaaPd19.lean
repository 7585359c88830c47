/- WALKS: the statement PackBuilders. Entries that come in, opened to cells; what the bound says of them. A script of operations that comes in, opened to cells; what the bound says of it. A struct of five one-cell fields by value, opened field by field (a block of the guide's page, copied as it says). -/
import Derived.Test.YtgjphmlmndcaeaaPd18
import Derived.Test.YtgjphmlmndcaeaaRows
import Derived.Test.YtgjphmlmndcaeaaPd06
import Derived.Deep.Slices
import Derived.Deep.Fields
import Derived.ChangeSame
import Derived.ChangeSlices
import Derived.RowKit
import Derived.Test.YtgjphmlmndcaeaaPd17
import Derived.Lib.SmallJoins
import Derived.WideShapes
set_option linter.unusedVariables false
set_option linter.unusedSimpArgs false
namespace Go.Proofs.Ytgjphmlmndcaeaa
open Go.RowKit
theorem bs_gate {Q : Exit → Act → World → Prop} {a : Act} {w : World} (h : Hid (Code.wp Try.prog bsRestC Q a w)) : Code.wp Try.prog bsRestC Q a w := h.out
set_option maxRecDepth 100000 in
set_option maxHeartbeats 4000000 in
theorem builders_ok (nd lf inn fl bl : Int) (A : Option Addr) (n c : Nat) (ops : List OpD) (w : World) (hO : Ops w (fun _ => True) A n ops) (hn : n ≤ 1048576) (hsm : ∀ o ∈ ops, o.2.2.1.length ≤ 1048576 ∧ o.2.2.2.length ≤ 1048576) (hc : cfgOk nd lf inn fl bl) :
    Calls Try.prog 4 #[.agg #[.int .i64 nd, .int .i64 lf, .int .i64 inn, .int .i64 fl, .int .i64 bl], .slice A n c] w fun e w' => e = .returned (.bool true) ∧ Below w.heap.size w w' := by
  have HC := Lib.hid hc
  have HE := Lib.hid (cfgE_ok hc)
  have HO : Hid (Ops w (fun b => b < w.heap.size) A n ops) := Lib.hid (hO.lt.weak (fun b hb => hb.2))
  have HSM := Lib.hid hsm
  clear hc hO hsm
  go_enter Try.func4, Try.ntmps4
  go_upto_region 11 with (first | (go_at_call 7; refine (lives_any _).mono ?_; rintro e w1 ⟨rfl, hb1⟩; have HB1 : Hid (Below w.heap.size w w1) := Lib.hid (((Below.refl _ _).alloc (Nat.le_refl _) _).trans (hb1.mono (by simp))); have HK1 := Lib.hid ((Blk.new w 23 #[.int .i64 nd, .int .i64 lf, .int .i64 inn, .int .i64 fl, .int .i64 bl]).below hb1); obtain ⟨z0, z1, z2, z3, z4⟩ := cf_of HK1.out; clear hb1) | (go_at_call 10; refine (pnew_ok nd lf inn fl bl (fun b => b < w.heap.size) w1 HC.out).mono ?_; rintro e w2 ⟨p1, rfl, hd2, hb2⟩; have HD2 := Lib.hid hd2; have HW2 := Lib.hid hb2; have HB2 : Hid (Below w.heap.size w w2) := Lib.hid (HB1.out.trans (hb2.mono HB1.out.size)); have HK2 := Lib.hid (HK1.out.below hb2); obtain ⟨z0, z1, z2, z3, z4⟩ := cf_of HK2.out; clear hb2 hd2) | (go_at_call 10; refine (pnew_ok nd lf inn fl bl (fun b => b < w.heap.size) w2 HC.out).mono ?_; rintro e w3 ⟨p2, rfl, hd3, hb3⟩; have HD3 := Lib.hid hd3; have HW3 := Lib.hid hb3; have HB3 : Hid (Below w.heap.size w w3) := Lib.hid (HB2.out.trans (hb3.mono HB2.out.size)); have HK3 := Lib.hid (HK2.out.below hb3); obtain ⟨z0, z1, z2, z3, z4⟩ := cf_of HK3.out; clear hb3 hd3) | (go_at_call 11; refine (rconfig_any nd lf inn fl bl w3).mono ?_; rintro e w4 ⟨rfl, hb4⟩; rw [HE.out]; have HW4 := Lib.hid hb4; have HB4 : Hid (Below w.heap.size w w4) := Lib.hid (HB3.out.trans (hb4.mono HB3.out.size)); have HK4 := Lib.hid (HK3.out.below hb4); obtain ⟨z0, z1, z2, z3, z4⟩ := cf_of HK4.out; have hk4 : w.heap.size < w4.heap.size := HK4.out.lt; clear hb4))
  obtain ⟨w5, hw5⟩ : ∃ x, x = (((w4.alloc (.cells #[.pointer (some ⟨p1, 0, none⟩), .pointer (some ⟨p2, 0, none⟩)] 31)).alloc (.cells #[.int .i64 nd, .int .i64 lf, .int .i64 inn, .int .i64 fl, .int .i64 bl, .slice none 0 0] 39)).alloc (.cells #[.int .i64 nd, .int .i64 lf, .int .i64 inn, .int .i64 fl, .int .i64 bl, .slice none 0 0] 39)).alloc (.cells #[.pointer (some ⟨w4.heap.size + 1, 0, none⟩), .pointer (some ⟨w4.heap.size + 1 + 1, 0, none⟩)] 36) := ⟨_, rfl⟩
  rw [← hw5]
  obtain ⟨k0, k1, k2, k3, hb5, hs5⟩ := four_blk w4 31 39 39 36 #[.pointer (some ⟨p1, 0, none⟩), .pointer (some ⟨p2, 0, none⟩)] #[.int .i64 nd, .int .i64 lf, .int .i64 inn, .int .i64 fl, .int .i64 bl, .slice none 0 0] #[.int .i64 nd, .int .i64 lf, .int .i64 inn, .int .i64 fl, .int .i64 bl, .slice none 0 0] #[.pointer (some ⟨w4.heap.size + 1, 0, none⟩), .pointer (some ⟨w4.heap.size + 1 + 1, 0, none⟩)]
  rw [← hw5] at k0 k1 k2 k3 hb5 hs5
  have hs1 := HB1.out.size
  have hs2 := HW2.out.size
  have hs3 := HW3.out.size
  have hs4 := HW4.out.size
  have HB5 : Hid (Below w.heap.size w w5) := Lib.hid (HB4.out.trans (hb5.mono HB4.out.size))
  have HBS : Hid (Bs w5 w.heap.size nd lf inn fl bl w4.heap.size (w4.heap.size + 1 + 1 + 1) p1 (w4.heap.size + 1) p2 (w4.heap.size + 1 + 1) 0) := Lib.hid (by
    refine ⟨fun b => w1.heap.size ≤ b ∧ b < w2.heap.size, fun b => b = w4.heap.size + 1, fun b => w2.heap.size ≤ b ∧ b < w3.heap.size, fun b => b = w4.heap.size + 1 + 1, [], [], ⟨((HD2.out.below HW3.out).below HW4.out).below hb5, bd_new rfl (fun b hb => by have hb : b = w4.heap.size + 1 := hb; omega) (by decide) k1, (HD3.out.below HW4.out).below hb5, bd_new rfl (fun b hb => by have hb : b = w4.heap.size + 1 + 1 := hb; omega) (by decide) k2, ?_, ?_, ?_, ?_, ?_, ?_, ?_⟩, k0, k3, ?_, by omega, by omega, buildE_nil HC.out, buildE_nil HC.out, by simp, by simp, by simp, by simp⟩
    · intro b hb h; have h : b = w4.heap.size + 1 := h; have := hb.2; omega
    · intro b hb h; have := hb.2; have := h.1; omega
    · intro b hb h; have h : b = w4.heap.size + 1 + 1 := h; have := hb.2; omega
    · intro b hb h; have hb : b = w4.heap.size + 1 := hb; have := h.2; omega
    · intro b hb h; have hb : b = w4.heap.size + 1 := hb; have h : b = w4.heap.size + 1 + 1 := h; omega
    · intro b hb h; have h : b = w4.heap.size + 1 + 1 := h; have := hb.2; omega
    · intro b hb
      rcases hb with h | h | h | h
      · have := h.1; omega
      · have h : b = w4.heap.size + 1 := h; omega
      · have := h.1; omega
      · have h : b = w4.heap.size + 1 + 1 := h; omega
    · intro b hb
      rcases hb with h | h | h | h
      · have := h.2; omega
      · have h : b = w4.heap.size + 1 := h; omega
      · have := h.2; omega
      · have h : b = w4.heap.size + 1 + 1 := h; omega)
  obtain ⟨r, hr⟩ : ∃ x, x = w4.heap.size := ⟨_, rfl⟩
  rw [← hr] at HBS ⊢
  obtain ⟨q1, hq1⟩ : ∃ x, x = r + 1 := ⟨_, rfl⟩
  obtain ⟨s, hs⟩ : ∃ x, x = r + 1 + 1 + 1 := ⟨_, rfl⟩
  obtain ⟨q2, hq2⟩ : ∃ x, x = r + 1 + 1 := ⟨_, rfl⟩
  rw [← hs, ← hq2, ← hq1] at HBS
  rw [← hs, ← hq2, ← hq1]
  clear k0 k1 k2 k3 hb5 hs5 hs1 hs2 hs3 hs4 hw5 hr hq1 hs hq2 HD2 HD3 HW2 HW3 HW4 HB1 HB2 HB3 HB4 HK1 HK2 HK3 HK4 z0 z1 z2 z3 z4 hk4
  go_wp2_with fail
  have hn2 := IntWalk.i64_in ((n : Int) + 2) (by omega)
  go_loopg [13] (n + 2) (fun g' iv wr => ∃ i : Nat, g' = n + 2 - i ∧ i ≤ n + 2 ∧ iv = .int .i64 i ∧ Bs wr w.heap.size nd lf inn fl bl r s p1 q1 p2 q2 i ∧ Below w.heap.size w wr)
  case atStart => exact ⟨0, by omega, by omega, rfl, HBS.out, HB5.out⟩
  case round =>
    obtain ⟨i, hg, hi, rfl, hbs, hbw⟩ := hrel
    have HG := Lib.hid hg
    have HBS' := Lib.hid hbs
    have HBW := Lib.hid hbw
    rename World => wr
    clear hg hbs hbw HBS HB5
    have hw1 := IntWalk.i64_in ((i : Int) + 1) (by omega)
    by_cases hlt : i < n + 2
    · have hlt' : (i : Int) < (n : Int) + 2 := by omega
      by_cases hin : i < n
      · have hin' : (i : Int) < (n : Int) := by omega
        obtain ⟨b, o, Ak, nk, ck, Av, nv, cv, op, rfl, hop, c0', c1', c2', c3', t1, t2⟩ := HO.out.at_ hin
        have c0 := bkeep HBW.out c0'
        have c1 := bkeep HBW.out c1'
        have c2 := bkeep HBW.out c2'
        have c3 := bkeep HBW.out c3'
        have hbn : Below wr.heap.size wr (wr.alloc (.cells #[.bool (decide (n < i)), .bool true, .slice none 0 0, .slice none 0 0] 45)) := (Below.refl _ _).alloc (Nat.le_refl _) _
        have d0 := bkeep hbn c0
        have d1 := bkeep hbn c1
        have d2 := bkeep hbn c2
        have d3 : (wr.alloc (.cells #[.bool (decide (n < i)), .bool true, .slice none 0 0, .slice none 0 0] 45)).cell? ⟨b, o + i * 4 + 3, none⟩ = some (.slice Av nv cv) := bkeep hbn c3
        clear c0 c1 c2 c3
        have HT1 := Lib.hid (t1.below HBW.out)
        have HT2 := Lib.hid (t2.below HBW.out)
        have HOP := Lib.hid hop
        clear c0' c1' c2' c3' t1 t2 hop
        go_upto_region 17 with fail
        iterate 7 go_step
        refine bs_gate ?_
        refine Lib.hid ?_
        obtain ⟨F1, G1, F2, G2, l1, l2, HP, hr, hs, hd, hr0, hs0, ho1, ho2, hl1, hl2, hm1, hm2⟩ := HBS'.out
        obtain ⟨wx, hwx⟩ : ∃ x, x = wr.alloc (.cells #[.bool op.1, .bool op.2.1, .slice Ak nk ck, .slice Av nv cv] 45) := ⟨_, rfl⟩
        rw [← hwx]
        have hbx : Below wr.heap.size wr wx := by rw [hwx]; exact (Below.refl _ _).alloc (Nat.le_refl _) _
        have hkx := Blk.new wr 45 #[.bool op.1, .bool op.2.1, .slice Ak nk ck, .slice Av nv cv]
        rw [← hwx] at hkx
        have hlt1 := HP.b1.lt
        have hlt2 := HP.c1.lt
        have hlt3 := HP.b2.lt
        have hlt4 := HP.c2.lt
        have hsz := HBW.out.size
        refine bs_rest w.heap.size nd lf inn fl bl F1 p1 l1 G1 q1 F2 p2 l2 G2 q2 r s wr.heap.size i op.1 op.2.1 op.2.2 Ak Av nk ck nv cv wx _ (by exact Lib.hid (fun _ _ _ _ h => h)) (Lib.hid (HP.below hbx)) (by have := hbx.size; omega) (Lib.hid (hr.below hbx)) (Lib.hid (hs.below hbx)) (Lib.hid hd) (Lib.hid (fun b hb => by rcases hb with h | h | h | h; exact Nat.ne_of_lt (hlt1 b h); exact Nat.ne_of_lt (hlt2 b h); exact Nat.ne_of_lt (hlt3 b h); exact Nat.ne_of_lt (hlt4 b h))) hr0 hs0 (Lib.hid ho1) (Lib.hid ho2) hl1 hl2 (by omega) (Lib.hid hm1) (Lib.hid hm2) ((hkx.cell 0).trans rfl) ((hkx.cell 1).trans rfl) ((hkx.cell 2).trans rfl) ((hkx.cell 3).trans rfl) (HT1.out.below hbx) (HT2.out.below hbx) (by have := (HSM.out op (List.mem_of_getElem? HOP.out)).1; omega) (by have := (HSM.out op (List.mem_of_getElem? HOP.out)).2; omega) ?_ ?_
        all_goals
          intro v4 v15 v16 v17 v18 v19 v98 v99 v100 v101 v102 v103 v104 v105 v106 v107 v108 v109 v110 v111 v112 v113 v114 v115 v116 v117 v118 v119 v120 v121 v122 v123 v124 v125 v126 v127 v128 v129 v130 v131 v132 v133 v134 v135 v136 v137 v138 v139 v140 v141 v142 v143 v144 v145 v146 w' hbs' hbw'
          have HBS1 := Lib.hid hbs'
          have HBW1 : Hid (Below w.heap.size w w') := Lib.hid ((HBW.out.trans (hbx.mono hsz)).trans hbw')
          clear hbs' hbw' hwx hbx hkx hlt1 hlt2 hlt3 hlt4 hsz HP hr hs hd hr0 hs0 ho1 ho2 hl1 hl2 hm1 hm2
          go_wp2
          go_roundg (n + 2 - (i + 1))
          case measure => have := HG.out; omega
          case rel => exact ⟨i + 1, rfl, by omega, by go_num, HBS1.out, HBW1.out⟩
      · have hin' : ¬ (i : Int) < (n : Int) := by omega
        go_upto_region 17 with fail
        iterate 7 go_step
        refine bs_gate ?_
        refine Lib.hid ?_
        obtain ⟨F1, G1, F2, G2, l1, l2, HP, hr, hs, hd, hr0, hs0, ho1, ho2, hl1, hl2, hm1, hm2⟩ := HBS'.out
        obtain ⟨wx, hwx⟩ : ∃ x, x = wr.alloc (.cells #[.bool (decide (n < i)), .bool true, .slice none 0 0, .slice none 0 0] 45) := ⟨_, rfl⟩
        rw [← hwx]
        have hbx : Below wr.heap.size wr wx := by rw [hwx]; exact (Below.refl _ _).alloc (Nat.le_refl _) _
        have hkx := Blk.new wr 45 #[.bool (decide (n < i)), .bool true, .slice none 0 0, .slice none 0 0]
        rw [← hwx] at hkx
        have hlt1 := HP.b1.lt
        have hlt2 := HP.c1.lt
        have hlt3 := HP.b2.lt
        have hlt4 := HP.c2.lt
        have hsz := HBW.out.size
        refine bs_rest w.heap.size nd lf inn fl bl F1 p1 l1 G1 q1 F2 p2 l2 G2 q2 r s wr.heap.size i (decide (n < i)) true ([], []) none none 0 0 0 0 wx _ (by exact Lib.hid (fun _ _ _ _ h => h)) (Lib.hid (HP.below hbx)) (by have := hbx.size; omega) (Lib.hid (hr.below hbx)) (Lib.hid (hs.below hbx)) (Lib.hid hd) (Lib.hid (fun b hb => by rcases hb with h | h | h | h; exact Nat.ne_of_lt (hlt1 b h); exact Nat.ne_of_lt (hlt2 b h); exact Nat.ne_of_lt (hlt3 b h); exact Nat.ne_of_lt (hlt4 b h))) hr0 hs0 (Lib.hid ho1) (Lib.hid ho2) hl1 hl2 (by omega) (Lib.hid hm1) (Lib.hid hm2) ((hkx.cell 0).trans rfl) ((hkx.cell 1).trans rfl) ((hkx.cell 2).trans rfl) ((hkx.cell 3).trans rfl) (Bt.nil _ _) (Bt.nil _ _) (by simp) (by simp) ?_ ?_
        all_goals
          intro v4 v15 v16 v17 v18 v19 v98 v99 v100 v101 v102 v103 v104 v105 v106 v107 v108 v109 v110 v111 v112 v113 v114 v115 v116 v117 v118 v119 v120 v121 v122 v123 v124 v125 v126 v127 v128 v129 v130 v131 v132 v133 v134 v135 v136 v137 v138 v139 v140 v141 v142 v143 v144 v145 v146 w' hbs' hbw'
          have HBS1 := Lib.hid hbs'
          have HBW1 : Hid (Below w.heap.size w w') := Lib.hid ((HBW.out.trans (hbx.mono hsz)).trans hbw')
          clear hbs' hbw' hwx hbx hkx hlt1 hlt2 hlt3 hlt4 hsz HP hr hs hd hr0 hs0 ho1 ho2 hl1 hl2 hm1 hm2
          go_wp2
          go_roundg (n + 2 - (i + 1))
          case measure => have := HG.out; omega
          case rel => exact ⟨i + 1, rfl, by omega, by go_num, HBS1.out, HBW1.out⟩
    · go_wp2
      go_ret
      exact ⟨rfl, HBW.out⟩
theorem builders_any (nd lf inn fl bl : Int) (A : Option Addr) (n c : Nat) (ops : List OpD) (w : World) (hO : Ops w (fun _ => True) A n ops) (hn : n ≤ 1048576) (hsm : ∀ o ∈ ops, o.2.2.1.length ≤ 1048576 ∧ o.2.2.2.length ≤ 1048576) :
    Calls Try.prog 4 #[.agg #[.int .i64 nd, .int .i64 lf, .int .i64 inn, .int .i64 fl, .int .i64 bl], .slice A n c] w fun e w' => e = .returned (.bool true) ∧ Below w.heap.size w w' :=
  if hc : cfgOk nd lf inn fl bl then builders_ok nd lf inn fl bl A n c ops w hO hn hsm hc else builders_bad nd lf inn fl bl A n c w hc
end Go.Proofs.Ytgjphmlmndcaeaa

namespace Go.Proofs.Ytgjphmlmndcaeaa
open Go.ChangeShapes Go.WideShapes Go.Deep Go.RowKit
theorem bulk_one {H : Type} (d : DataW H) : 1 ≤ Rows.uptoBulk d := by
  cases d with
  | lit l => cases l <;> simp [Rows.uptoBulk]
  | _ => simp [Rows.uptoBulk]
theorem bulk_part {H : Type} {d : DataW H} {l : List (DataW H)} (h : d ∈ l) : Rows.uptoBulk d ≤ Rows.uptoBulkAll l := by
  induction l with
  | nil => cases h
  | cons x r ih =>
    simp only [Rows.uptoBulkAll]
    cases List.mem_cons.1 h with
    | inl e => subst e; omega
    | inr e => have := ih e; omega
theorem bulk_len {H : Type} (l : List (DataW H)) : l.length ≤ Rows.uptoBulkAll l := by
  induction l with
  | nil => simp [Rows.uptoBulkAll]
  | cons x r ih => have := bulk_one x; simp only [Rows.uptoBulkAll, List.length_cons]; omega
theorem bulk_slice {H : Type} (elems spare : List (DataW H)) : Rows.uptoBulkAll elems + 1 ≤ Rows.uptoBulk (.slice elems spare) := by
  simp only [Rows.uptoBulk]; omega

/-- the bytes that a slice's cells hold -/
def readBytes (w : World) : Value → List UInt8
  | .slice (some a) n _ => (List.range n).map fun j => match w.cell? (a.add j) with | some (.int _ z) => UInt8.ofNat z.toNat | _ => 0
  | _ => []
section
variable {H : Type} {enc : TypeId × Value → H} {w : World} {base : Nat} {spare : Nat → Bool} {held : Bool}
theorem cell_bt {a : Addr} {v : Value} (h : w.cell? (a.add 0) = some v) : a = ⟨a.block, a.off, none⟩ := by
  obtain ⟨b, o', s⟩ := a
  have hs : s = none := by simpa [Addr.add] using World.cell?_spot h
  subst hs
  rfl
theorem sb_of_trod {fuel : Nat} {v : Value} {y : DataW H × List MemPlace} (h : DataW.trod enc Try.prog w base spare held fuel 41 [v] = some y) : SB w (fun _ => True) v (readBytes w v) ∧ (readBytes w v).length + 1 ≤ Rows.uptoBulk y.1 := by
  rcases open_ints Try.underlying41 Try.underlying5 (by kernel_rfl) h with ⟨hcs, rfl⟩ | ⟨a, len, cap, zs, hcs, _, hl, hm, hz, rfl, hcell, hwz⟩
  · have hv : v = .slice none 0 0 := by simpa using hcs
    subst hv
    exact ⟨SB.nil _ _, by simp [readBytes, Rows.uptoBulk]⟩
  · have hv : v = .slice (some a) len cap := by simpa using hcs
    subst hv
    have hzl : len ≤ zs.length := by rw [hz]; split <;> omega
    have hrl : (readBytes w (.slice (some a) len cap)).length = len := by simp [readBytes]
    refine ⟨⟨some a, len, cap, rfl, hl, hm, hrl.symm, by rw [bvs_len, hrl, Nat.mul_one], fun hn => ?_⟩, ?_⟩
    · have ha := cell_bt (hcell 0 (by omega))
      refine ⟨a.block, a.off, by rw [← ha], trivial, fun j u hj => ?_⟩
      have hj' : j < len := by have := (List.getElem?_eq_some_iff.1 hj).1; rw [bvs_len, hrl] at this; exact this
      have hc := hcell j (by omega)
      have hz1 := hwz (zs.getD j 0) (by rw [List.getD_eq_getElem?_getD, List.getElem?_eq_getElem (by omega)]; exact List.getElem_mem (by omega))
      have hz2 : 0 ≤ zs.getD j 0 ∧ zs.getD j 0 ≤ 255 := by simpa [Lit.wf, IntKind.min, IntKind.max, IntKind.signed, IntKind.bits] using hz1
      simp only [bvs, readBytes, List.map_map, List.getElem?_map, List.getElem?_range hj', Option.map_some, Function.comp, hc] at hj
      injection hj with hj
      subst hj
      rw [ha, add_eq] at hc
      rw [hc]
      unfold bv
      congr 2
      rw [UInt8.toNat_ofNat']
      omega
    · rw [hrl]
      have h1 := bulk_slice (lits (H := H) IntKind.u8 (zs.take len)) (lits IntKind.u8 (zs.drop len))
      have h2 := bulk_len (lits (H := H) IntKind.u8 (zs.take len))
      have h3 : (lits (H := H) IntKind.u8 (zs.take len)).length = len := by simp [lits]; omega
      show len + 1 ≤ Rows.uptoBulk (.slice (lits IntKind.u8 (zs.take len)) (lits IntKind.u8 (zs.drop len)))
      omega
theorem open_slice_fields {P : Program} {t e : TypeId} {fs : Array Field} {fuel : Nat} {cs : List Value} {x : DataW H × List MemPlace} (ht : P.underlying t = some (.slice e)) (he : P.underlying e = some (.struct fs))
    (hone : oneCellFields P fs = true) (hC : P.cellsOf e = fs.size) (h : DataW.trod enc P w base spare held fuel t cs = some x) :
    (cs = [.slice none 0 0] ∧ x = (.nil, [])) ∨
    ∃ (a : Addr) (len cap m : Nat) (D : Nat → DataW H) (Pl : Nat → List MemPlace), cs = [.slice (some a) len cap] ∧ base ≤ a.block ∧ len ≤ cap ∧ cap ≤ maxLen ∧ m = (if spare a.block then cap else len) ∧
      x = (.slice ((List.range len).map D) ((List.range (m - len)).map fun j => D (len + j)), MemPlace.row a (m * fs.size) ++ (List.range m).flatMap Pl) ∧
      ∀ i, i < m → ∃ (ys : List (DataW H × List MemPlace)) (n : Nat), D i = .agg (ys.map (·.1)) ∧ Pl i = ys.flatMap (·.2) ∧ ys.length = fs.size ∧
        ∀ (j : Nat) (f : Field), fs[j]? = some f → ∃ (v : Value) (y : DataW H × List MemPlace), w.cell? (a.add (i * fs.size + j)) = some v ∧ ys[j]? = some y ∧ DataW.trod enc P w base spare held n f.type [v] = some y := by
  rcases open_slice ht h with h0 | ⟨a, len, cap, m, n, D, Pl, hcs, hb, hl, hm, hmm, hx, hi⟩
  · exact .inl h0
  · refine .inr ⟨a, len, cap, m, D, Pl, hcs, hb, hl, hm, hmm, by rw [hC] at hx; exact hx, fun i him => ?_⟩
    obtain ⟨cs', hc, ht'⟩ := hi i him
    rw [hC] at hc
    obtain ⟨ys, n', hn', hy, hlen, hyl, hf⟩ := DataW.trod_struct he ht'
    obtain ⟨_, hcl, hat⟩ := World.cells?_some hc
    simp only [Prod.mk.injEq] at hy
    refine ⟨ys, n', hy.1, hy.2, hyl, fun j f hj => ?_⟩
    obtain ⟨ho, hk⟩ := hone_of hone j f hj
    have hjl : j < fs.size := (Array.getElem?_eq_some_iff.1 hj).1
    have hcell := hat j hjl
    have hv : cs'[j]? = some (cs'[j]'(by omega)) := List.getElem?_eq_getElem (by omega)
    have h1 := hf j f hj
    rw [ho, hk] at h1
    have hone' : (cs'.drop j).take 1 = [cs'[j]'(by omega)] := by
      rw [List.drop_eq_getElem_cons (by omega)]
      rfl
    rw [hone'] at h1
    have hys : ys[j]? = some (ys[j]'(by omega)) := List.getElem?_eq_getElem (by omega)
    refine ⟨_, _, ?_, hys, h1.trans hys⟩
    rw [← Go.Deep.add_add, hcell, hv]

/-- the entry whose two slices lie at a place -/
def readEnt (w : World) (a : Addr) : Ent := (readBytes w ((w.cell? a).getD undef), readBytes w ((w.cell? (a.add 1)).getD undef))
theorem ents_of_trod {fuel : Nat} {A : Option Addr} {n c : Nat} {x : DataW H × List MemPlace} (h : DataW.trod enc Try.prog w base (fun _ => true) held fuel 37 [.slice A n c] = some x) (hb : Rows.uptoBulk x.1 ≤ 1048576) :
    ∃ l : List Ent, Ents w (fun _ => True) A n l ∧ n ≤ c ∧ c ≤ maxLen ∧ n ≤ 1048576 ∧ ∀ e ∈ l, e.1.length ≤ 1048576 ∧ e.2.length ≤ 1048576 := by
  rcases open_slice_fields Try.underlying37 Try.underlying43 (by kernel_rfl) (by kernel_rfl) h with ⟨hcs, rfl⟩ | ⟨a, len, cap, m, D, Pl, hcs, _, hl, hm, hmm, rfl, hel⟩
  · simp only [List.cons.injEq, Value.slice.injEq, and_true] at hcs
    obtain ⟨rfl, rfl, rfl⟩ := hcs
    exact ⟨[], Ents.nil _ _ _, Nat.le_refl _, by simp [maxLen], by omega, by simp⟩
  · simp only [List.cons.injEq, Value.slice.injEq, and_true] at hcs
    obtain ⟨rfl, rfl, rfl⟩ := hcs
    have hmn : n ≤ m := by rw [hmm]; split <;> omega
    have hb : Rows.uptoBulk (.slice ((List.range n).map D) ((List.range (m - n)).map fun j => D (n + j))) ≤ 1048576 := hb
    have hbs := bulk_slice ((List.range n).map D) ((List.range (m - n)).map fun j => D (n + j))
    have hlen := bulk_len ((List.range n).map D)
    rw [List.length_map, List.length_range] at hlen
    have hn : n ≤ 1048576 := by omega
    have hone : ∀ i, i < n → ∃ v0 v1, w.cell? (a.add (i * 2)) = some v0 ∧ w.cell? (a.add (i * 2 + 1)) = some v1 ∧ SB w (fun _ => True) v0 (readBytes w v0) ∧ SB w (fun _ => True) v1 (readBytes w v1) ∧ (readBytes w v0).length ≤ 1048576 ∧ (readBytes w v1).length ≤ 1048576 := by
      intro i hi
      obtain ⟨ys, k, hD, _, hyl, hf⟩ := hel i (by omega)
      obtain ⟨v0, y0, c0, e0, t0⟩ := hf 0 _ rfl
      obtain ⟨v1, y1, c1, e1, t1⟩ := hf 1 _ rfl
      obtain ⟨s0, b0⟩ := sb_of_trod t0
      obtain ⟨s1, b1⟩ := sb_of_trod t1
      have hDi : Rows.uptoBulk (D i) ≤ 1048576 := by
        have := bulk_part (d := D i) (l := (List.range n).map D) (List.mem_map.2 ⟨i, by simpa using hi, rfl⟩)
        omega
      rw [hD] at hDi
      simp only [Rows.uptoBulk] at hDi
      have p0 := bulk_part (d := y0.1) (l := ys.map (·.1)) (List.mem_map.2 ⟨y0, List.mem_of_getElem? e0, rfl⟩)
      have p1 := bulk_part (d := y1.1) (l := ys.map (·.1)) (List.mem_map.2 ⟨y1, List.mem_of_getElem? e1, rfl⟩)
      exact ⟨v0, v1, c0, c1, s0, s1, by omega, by omega⟩
    have hval : ∀ i, i < n → w.cell? (a.add (i * 2)) = some ((w.cell? (a.add (i * 2))).getD undef) ∧ w.cell? (a.add (i * 2 + 1)) = some ((w.cell? (a.add (i * 2 + 1))).getD undef) := by
      intro i hi
      obtain ⟨v0, v1, c0, c1, _⟩ := hone i hi
      rw [c0, c1]; exact ⟨rfl, rfl⟩
    let ve : Nat → Value := fun t => (w.cell? (a.add t)).getD undef
    have hve : ∀ i, i < n → SB w (fun _ => True) (ve (i * 2)) (readBytes w (ve (i * 2))) ∧ SB w (fun _ => True) (ve (i * 2 + 1)) (readBytes w (ve (i * 2 + 1))) ∧ (readBytes w (ve (i * 2))).length ≤ 1048576 ∧ (readBytes w (ve (i * 2 + 1))).length ≤ 1048576 := by
      intro i hi
      obtain ⟨v0, v1, c0, c1, s0, s1, b0, b1⟩ := hone i hi
      have e0 : ve (i * 2) = v0 := by show (w.cell? (a.add (i * 2))).getD undef = v0; rw [c0]; rfl
      have e1 : ve (i * 2 + 1) = v1 := by show (w.cell? (a.add (i * 2 + 1))).getD undef = v1; rw [c1]; rfl
      rw [e0, e1]; exact ⟨s0, s1, b0, b1⟩
    refine ⟨(List.range n).map fun i => (readBytes w (ve (i * 2)), readBytes w (ve (i * 2 + 1))), ⟨(by show n = _; simp), (List.range (n * 2)).map ve, ⟨by simp, fun h0 => ?_⟩, fun i e he => ?_⟩, hl, hm, hn, fun e he => ?_⟩
    · have ha := cell_bt (hval 0 h0).1
      refine ⟨a.block, a.off, by rw [← ha], trivial, fun j u hj => ?_⟩
      have hj2 : j < n * 2 := by have := (List.getElem?_eq_some_iff.1 hj).1; simpa using this
      rw [List.getElem?_map, List.getElem?_range hj2] at hj
      have hj : ve j = u := by simpa using hj
      have hc : w.cell? (a.add j) = some (ve j) := by
        rcases Nat.mod_two_eq_zero_or_one j with h2 | h2
        · have := (hval (j / 2) (by omega)).1
          rwa [show j / 2 * 2 = j by omega] at this
        · have := (hval (j / 2) (by omega)).2
          rwa [show j / 2 * 2 + 1 = j by omega] at this
      rw [ha, add_eq] at hc
      rw [hc, hj]
    · have hi : i < n := by have := (List.getElem?_eq_some_iff.1 he).1; simpa using this
      rw [List.getElem?_map, List.getElem?_range hi] at he
      have he : (readBytes w (ve (i * 2)), readBytes w (ve (i * 2 + 1))) = e := by simpa using he
      subst he
      obtain ⟨s0, s1, _⟩ := hve i hi
      refine ⟨_, _, ?_, ?_, s0, s1⟩
      · rw [List.getElem?_map, List.getElem?_range (by omega), show 2 * i = i * 2 by omega]; rfl
      · rw [List.getElem?_map, List.getElem?_range (by omega), show 2 * i + 1 = i * 2 + 1 by omega]; rfl
    · obtain ⟨i, hi, rfl⟩ := List.mem_map.1 he
      obtain ⟨_, _, b0, b1⟩ := hve i (by simpa using hi)
      exact ⟨b0, b1⟩
end
end Go.Proofs.Ytgjphmlmndcaeaa

namespace Go.Proofs.Ytgjphmlmndcaeaa
open Go.ChangeShapes Go.WideShapes Go.Deep Go.RowKit
section
theorem list4 {α : Type} {l : List α} (h : l.length = 4) : ∃ a b c d, l = [a, b, c, d] := by
  match l, h with
  | [a, b, c, d], _ => exact ⟨a, b, c, d, rfl⟩
theorem list3 {α : Type} {l : List α} (h : l.length = 3) : ∃ a b c, l = [a, b, c] := by
  match l, h with
  | [a, b, c], _ => exact ⟨a, b, c, rfl⟩
theorem list2 {α : Type} {l : List α} (h : l.length = 2) : ∃ a b, l = [a, b] := by
  match l, h with
  | [a, b], _ => exact ⟨a, b, rfl⟩
variable {H : Type} {enc : TypeId × Value → H} {w : World} {base : Nat} {held : Bool}
theorem op_of_trod {fuel : Nat} {cs : List Value} {y : DataW H × List MemPlace} (h : DataW.trod enc Try.prog w base (fun _ => true) held fuel 45 cs = some y) :
    ∃ b d v0 v1, cs = [.bool b, .bool d, v0, v1] ∧ SB w (fun _ => True) v0 (readBytes w v0) ∧ SB w (fun _ => True) v1 (readBytes w v1) ∧ (readBytes w v0).length ≤ Rows.uptoBulk y.1 ∧ (readBytes w v1).length ≤ Rows.uptoBulk y.1 := by
  obtain ⟨ys, n, _, hy, hl, hyl, hf⟩ := DataW.trod_struct Try.underlying45 h
  rw [show Try.prog.cellsOf 45 = 4 from by kernel_rfl] at hl
  obtain ⟨c0, c1, c2, c3, rfl⟩ := list4 hl
  obtain ⟨y0, y1, y2, rfl⟩ := list3 hyl
  have t0 : DataW.trod enc Try.prog w base (fun _ => true) held n 4 (List.take (Try.prog.cellsOf 4) [c0, c1, c2, c3]) = some y0 := hf 0 _ rfl
  have t1 : DataW.trod enc Try.prog w base (fun _ => true) held n 4 (List.take (Try.prog.cellsOf 4) [c1, c2, c3]) = some y1 := hf 1 _ rfl
  have t2 : DataW.trod enc Try.prog w base (fun _ => true) held n 43 (List.take (Try.prog.cellsOf 43) [c2, c3]) = some y2 := hf 2 _ rfl
  rw [show Try.prog.cellsOf 4 = 1 from by kernel_rfl] at t0 t1
  rw [show Try.prog.cellsOf 43 = 2 from by kernel_rfl] at t2
  obtain ⟨b, hb, _⟩ := DataW.trod_bool Try.underlying4 t0
  obtain ⟨d, hd, _⟩ := DataW.trod_bool Try.underlying4 t1
  have hb : c0 = .bool b := by simpa using hb
  have hd : c1 = .bool d := by simpa using hd
  subst hb hd
  obtain ⟨zs, m, _, hz, _, hzl, hg⟩ := DataW.trod_struct Try.underlying43 t2
  obtain ⟨z0, z1, rfl⟩ := list2 hzl
  have u0 : DataW.trod enc Try.prog w base (fun _ => true) held m 41 (List.take (Try.prog.cellsOf 41) [c2, c3]) = some z0 := hg 0 _ rfl
  have u1 : DataW.trod enc Try.prog w base (fun _ => true) held m 41 (List.take (Try.prog.cellsOf 41) [c3]) = some z1 := hg 1 _ rfl
  rw [show Try.prog.cellsOf 41 = 1 from by kernel_rfl] at u0 u1
  obtain ⟨s0, b0⟩ := sb_of_trod (show DataW.trod enc Try.prog w base (fun _ => true) held m 41 [c2] = some z0 from u0)
  obtain ⟨s1, b1⟩ := sb_of_trod (show DataW.trod enc Try.prog w base (fun _ => true) held m 41 [c3] = some z1 from u1)
  rw [hz] at hy
  subst hy
  have q : Rows.uptoBulk z0.1 + Rows.uptoBulk z1.1 ≤ Rows.uptoBulk (DataW.agg ([y0, y1, (DataW.agg ([z0, z1].map (·.1)), [z0, z1].flatMap (·.2))].map (·.1))) := by
    simp only [List.map, Rows.uptoBulk, Rows.uptoBulkAll]
    omega
  exact ⟨b, d, c2, c3, rfl, s0, s1, Nat.le_trans (by omega) q, Nat.le_trans (by omega) q⟩
/-- the flag at a place -/
def readBool (v : Value) : Bool := match v with | .bool b => b | _ => false
theorem ops_of_trod {fuel : Nat} {A : Option Addr} {n c : Nat} {x : DataW H × List MemPlace} (h : DataW.trod enc Try.prog w base (fun _ => true) held fuel 30 [.slice A n c] = some x) (hb : Rows.uptoBulk x.1 ≤ 1048576) :
    ∃ ops : List OpD, Ops w (fun _ => True) A n ops ∧ n ≤ 1048576 ∧ ∀ o ∈ ops, o.2.2.1.length ≤ 1048576 ∧ o.2.2.2.length ≤ 1048576 := by
  rcases open_slice Try.underlying30 h with ⟨hcs, rfl⟩ | ⟨a, len, cap, m, k, D, Pl, hcs, _, hl, hm, hmm, rfl, hel⟩
  · simp only [List.cons.injEq, Value.slice.injEq, and_true] at hcs
    obtain ⟨rfl, rfl, rfl⟩ := hcs
    exact ⟨[], ⟨Lib.hid rfl, [], ⟨rfl, fun h => absurd h (Nat.lt_irrefl 0)⟩, by simp⟩, by omega, by simp⟩
  · simp only [List.cons.injEq, Value.slice.injEq, and_true] at hcs
    obtain ⟨rfl, rfl, rfl⟩ := hcs
    rw [show Try.prog.cellsOf 45 = 4 from by kernel_rfl] at hel
    have hmn : n ≤ m := by rw [hmm]; split <;> omega
    have hb : Rows.uptoBulk (.slice ((List.range n).map D) ((List.range (m - n)).map fun j => D (n + j))) ≤ 1048576 := hb
    have hbs := bulk_slice ((List.range n).map D) ((List.range (m - n)).map fun j => D (n + j))
    have hlen := bulk_len ((List.range n).map D)
    rw [List.length_map, List.length_range] at hlen
    have hn : n ≤ 1048576 := by omega
    let ve : Nat → Value := fun t => (w.cell? (a.add t)).getD undef
    have hone : ∀ i, i < n → (∀ j, j < 4 → w.cell? (a.add (i * 4 + j)) = some (ve (i * 4 + j))) ∧ ve (i * 4) = .bool (readBool (ve (i * 4))) ∧ ve (i * 4 + 1) = .bool (readBool (ve (i * 4 + 1))) ∧
        SB w (fun _ => True) (ve (i * 4 + 2)) (readBytes w (ve (i * 4 + 2))) ∧ SB w (fun _ => True) (ve (i * 4 + 3)) (readBytes w (ve (i * 4 + 3))) ∧ (readBytes w (ve (i * 4 + 2))).length ≤ 1048576 ∧ (readBytes w (ve (i * 4 + 3))).length ≤ 1048576 := by
      intro i hi
      obtain ⟨cs', hc, ht⟩ := hel i (by omega)
      obtain ⟨b, d, v0, v1, rfl, s0, s1, b0, b1⟩ := op_of_trod ht
      have hDi : Rows.uptoBulk (D i) ≤ 1048576 := by
        have := bulk_part (d := D i) (l := (List.range n).map D) (List.mem_map.2 ⟨i, by simpa using hi, rfl⟩)
        omega
      obtain ⟨_, _, hat⟩ := World.cells?_some hc
      have hat' : ∀ j (hj : j < 4), w.cell? (a.add (i * 4 + j)) = some ([.bool b, .bool d, v0, v1][j]) := fun j hj => by
        have := hat (i := j) hj
        rw [← Go.Deep.add_add, this]
        exact List.getElem?_eq_getElem hj
      have e0 : ve (i * 4) = .bool b := by show (w.cell? (a.add (i * 4))).getD undef = _; rw [show w.cell? (a.add (i * 4)) = some (.bool b) from hat' 0 (by omega)]; rfl
      have e1 : ve (i * 4 + 1) = .bool d := by show (w.cell? (a.add (i * 4 + 1))).getD undef = _; rw [hat' 1 (by omega)]; rfl
      have e2 : ve (i * 4 + 2) = v0 := by show (w.cell? (a.add (i * 4 + 2))).getD undef = _; rw [hat' 2 (by omega)]; rfl
      have e3 : ve (i * 4 + 3) = v1 := by show (w.cell? (a.add (i * 4 + 3))).getD undef = _; rw [hat' 3 (by omega)]; rfl
      refine ⟨fun j hj => ?_, by rw [e0]; rfl, by rw [e1]; rfl, by rw [e2]; exact s0, by rw [e3]; exact s1, by rw [e2]; exact Nat.le_trans b0 hDi, by rw [e3]; exact Nat.le_trans b1 hDi⟩
      show _ = some ((w.cell? (a.add (i * 4 + j))).getD undef)
      rw [hat' j hj]; rfl
    let op : Nat → OpD := fun i => (readBool (ve (i * 4)), readBool (ve (i * 4 + 1)), readBytes w (ve (i * 4 + 2)), readBytes w (ve (i * 4 + 3)))
    refine ⟨(List.range n).map op, ⟨Lib.hid (by simp), (List.range (n * 4)).map ve, ⟨by simp, fun h0 => ?_⟩, fun i o ho => ?_⟩, hn, fun o ho => ?_⟩
    · have ha := cell_bt ((hone 0 h0).1 0 (by omega))
      refine ⟨a.block, a.off, by rw [← ha], trivial, fun j u hj => ?_⟩
      have hj2 : j < n * 4 := by have := (List.getElem?_eq_some_iff.1 hj).1; simpa using this
      rw [List.getElem?_map, List.getElem?_range hj2] at hj
      have hj : ve j = u := by simpa using hj
      have hc : w.cell? (a.add j) = some (ve j) := by
        have := (hone (j / 4) (by omega)).1 (j % 4) (by omega)
        rwa [show j / 4 * 4 + j % 4 = j by omega] at this
      rw [ha, add_eq] at hc
      rw [hc, hj]
    · have hi : i < n := by have := (List.getElem?_eq_some_iff.1 ho).1; simpa using this
      rw [List.getElem?_map, List.getElem?_range hi] at ho
      have ho : op i = o := by simpa using ho
      subst ho
      obtain ⟨_, e0, e1, s0, s1, _⟩ := hone i hi
      have hr : ∀ j, j < 4 → ((List.range (n * 4)).map ve)[i * 4 + j]? = some (ve (i * 4 + j)) := fun j hj => by
        rw [List.getElem?_map, List.getElem?_range (by omega)]; rfl
      exact ⟨_, _, (hr 0 (by omega)).trans (congrArg some e0), (hr 1 (by omega)).trans (congrArg some e1), hr 2 (by omega), hr 3 (by omega), s0, s1⟩
    · obtain ⟨i, hi, rfl⟩ := List.mem_map.1 ho
      obtain ⟨_, _, _, _, _, b0, b1⟩ := hone i (by simpa using hi)
      exact ⟨b0, b1⟩
end
end Go.Proofs.Ytgjphmlmndcaeaa

namespace Go.Proofs.Ytgjphmlmndcaeaa
open Go.Joins Go.ChangeShapes Go.WideShapes Go.RowKit Go.Deep
section
variable {H : Type} {enc : TypeId × Value → H} {P : Program} {w : World} {base : Nat} {spare : Nat → Bool} {held : Bool}
theorem open_agg5 {r : Reach} {b0 : Nat} {t : TypeId} {f0 f1 f2 f3 f4 : Field} {v : Value} {d : DataW H} {p : List MemPlace} (hs : P.underlying t = some (.struct #[f0, f1, f2, f3, f4])) (hone : oneCellFields P #[f0, f1, f2, f3, f4] = true) (hC : P.cellsOf t = 5)
    (hv : Value.okWide P w r b0 t v) (h : DataW.Trod enc P w base spare held t v d p) :
    ∃ (v0 v1 v2 v3 v4 : Value) (y0 y1 y2 y3 y4 : DataW H × List MemPlace) (n : Nat), v = .agg #[v0, v1, v2, v3, v4] ∧ d = .agg [y0.1, y1.1, y2.1, y3.1, y4.1] ∧ p = y0.2 ++ (y1.2 ++ (y2.2 ++ (y3.2 ++ y4.2))) ∧
      DataW.trod enc P w base spare held n f0.type [v0] = some y0 ∧ DataW.trod enc P w base spare held n f1.type [v1] = some y1 ∧ DataW.trod enc P w base spare held n f2.type [v2] = some y2 ∧ DataW.trod enc P w base spare held n f3.type [v3] = some y3 ∧ DataW.trod enc P w base spare held n f4.type [v4] = some y4 := by
  obtain ⟨cs, rfl, hsz⟩ := okWide_struct hs hv
  obtain ⟨l⟩ := cs
  match l, hsz.trans hC with
  | [c0, c1, c2, c3, c4], _ =>
    obtain ⟨fuel, hf⟩ := h
    obtain ⟨xs, n, _, hx, _, hlen, hg⟩ := DataW.trod_struct hs hf
    obtain ⟨o0, k0⟩ := hone_of hone 0 f0 rfl
    obtain ⟨o1, k1⟩ := hone_of hone 1 f1 rfl
    obtain ⟨o2, k2⟩ := hone_of hone 2 f2 rfl
    obtain ⟨o3, k3⟩ := hone_of hone 3 f3 rfl
    obtain ⟨o4, k4⟩ := hone_of hone 4 f4 rfl
    match xs, hlen with
    | [y0, y1, y2, y3, y4], _ =>
      simp only [Prod.mk.injEq] at hx
      exact ⟨c0, c1, c2, c3, c4, y0, y1, y2, y3, y4, n, rfl, by simpa using hx.1, by simpa using hx.2, by simpa [Value.cells, o0, k0] using hg 0 f0 rfl, by simpa [Value.cells, o1, k1] using hg 1 f1 rfl, by simpa [Value.cells, o2, k2] using hg 2 f2 rfl, by simpa [Value.cells, o3, k3] using hg 3 f3 rfl, by simpa [Value.cells, o4, k4] using hg 4 f4 rfl⟩
end
end Go.Proofs.Ytgjphmlmndcaeaa
