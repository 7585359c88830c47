/- WALKS: entries that may be, lists that rise; the program's text and the document's. WALKS: the document's packed tree. WALKS: both builds, where all is well. WALKS: the document's build, where all is well. -/
import Derived.Test.YtgjphmlmndcaeaaPd03
import Derived.Test.YtgjphmlmndcaeaaPd06
import Derived.Test.YtgjphmlmndcaeaaPd12
set_option linter.unusedVariables false
set_option linter.unusedSimpArgs false
namespace Go.Proofs.Ytgjphmlmndcaeaa
open Go.RowKit
open Go.Lib (compareBytes)

theorem check_any (A B : Option Addr) (n m c d : Nat) (x : Ent) (hn : n = x.1.length) (hm : m = x.2.length) (w : World) :
    Calls Try.prog 35 #[.agg #[.slice A n c, .slice B m d]] w fun e w' => e = .returned (.int .i64 (entE x)) ∧ Below w.heap.size w w' := by
  have HN := Lib.hid hn
  have HM := Lib.hid hm
  have HE := Lib.hid (entE_max x)
  clear hn hm
  go_enter Try.func35, Try.ntmps35
  go_wp2
  go_quiet (first | (go_at_call 64; exact quiet_left (key_any _ _ _ x.1 HN.out _)) | (go_at_call 65; exact quiet_left (value_any _ _ _ x.2 HM.out _)))
  go_wp2
  go_ret
  refine ⟨ret_int (by rw [HE.out]), below_drewN ((Below.refl _ _).alloc (Nat.le_refl _) _) _⟩

theorem rcheck_any (A B : Option Addr) (n m c d : Nat) (x : Ent) (hn : n = x.1.length) (hm : m = x.2.length) (w : World) :
    Calls Try.prog 39 #[.agg #[.slice A n c, .slice B m d]] w fun e w' => e = .returned (.int .i64 (entE x)) ∧ Below w.heap.size w w' := by
  have HN := Lib.hid hn
  have HM := Lib.hid hm
  clear hn hm
  rcases keyE_cases x.1 with hk | hk
  · have HE := Lib.hid (entE_val hk)
    have HK := Lib.hid hk
    clear hk
    go_enter Try.func39, Try.ntmps39
    go_wp2_with (first | (go_at_call 68; refine (rkey_any _ _ _ x.1 HN.out _).mono ?_; rintro e w' ⟨rfl, rfl⟩; rw [HK.out]) | (go_at_call 69; refine (rvalue_any _ _ _ x.2 HM.out _).mono ?_; rintro e w' ⟨rfl, rfl⟩))
    go_ret
    exact ⟨ret_int (by rw [HE.out]), (Below.refl _ _).alloc (Nat.le_refl _) _⟩
  · have HE := Lib.hid (entE_key (e := x) (by omega))
    have HK := Lib.hid hk
    clear hk
    go_enter Try.func39, Try.ntmps39
    go_wp2_with (first | (go_at_call 68; refine (rkey_any _ _ _ x.1 HN.out _).mono ?_; rintro e w' ⟨rfl, rfl⟩; rw [HK.out]))
    go_ret
    exact ⟨ret_int (by rw [HE.out, HK.out]), (Below.refl _ _).alloc (Nat.le_refl _) _⟩

/-- the last key that was met -/
def LastIs (w : World) (F : Nat → Prop) (A : Option Addr) (n : Nat) (l : List Ent) (k : Nat) : Prop :=
  0 < k → ∃ e : Ent, l[k - 1]? = some e ∧ Hid (n = e.1.length) ∧ Rd w F 1 A n (bvs e.1)

theorem sorted_any (A : Option Addr) (n c : Nat) (F : Nat → Prop) (l : List Ent) (w : World) (h : Ents w F A n l) (hn2 : n ≤ 1152921504606) :
    Calls Try.prog 41 #[.slice A n c] w fun e w' => e = .returned (.tuple #[.int .i64 (sortedOf l).1, .int .i64 (sortedOf l).2]) ∧ Below w.heap.size w w' := by
  have HH := Lib.hid h
  have HL := Lib.hid h.len
  clear h
  go_enter Try.func41, Try.ntmps41
  go_wp2
  go_loopg [4, 10] n (fun g last i wr => ∃ (k : Nat) (Al : Option Addr) (nl cl : Nat), g = n - k ∧ k ≤ n ∧ i = .int .i64 k ∧ last = .slice Al nl cl ∧ LastIs w F Al nl l k ∧ Hid (∀ j, j < k → badAt l j = 0) ∧ Below w.heap.size w wr)
  case atStart => exact ⟨0, none, 0, 0, by omega, by omega, rfl, rfl, fun h => absurd h (by omega), fun j hj => absurd hj (by omega), Below.refl _ _⟩
  case round =>
    obtain ⟨k, Al, nl, cl, hg, hk, rfl, rfl, hlast, HB, hbl⟩ := hrel
    have HG := Lib.hid hg
    have HLA := Lib.hid hlast
    clear hg hlast
    by_cases hlt : k < n
    · obtain ⟨b, o, Ak, nk, ck, Av, nv, cv, key, val, rfl, _, he, c1, c2, h1, h2, h3, h4, h5, h6, h7, h8⟩ := HH.out.at_ hlt
      have d1 := bkeep hbl c1
      have d2 := bkeep hbl c2
      have HE := Lib.hid he
      have H4 := Lib.hid h4
      have H8 := Lib.hid h8
      clear c1 c2 he h4 h8
      rcases entE_cases (key, val) with hx | hx
      · have HX := Lib.hid hx
        clear hx
        by_cases hk0 : k = 0
        · subst hk0
          simp only [Nat.zero_mul, Nat.add_zero] at d1 d2
          have HB0 := Lib.hid (badAt_first HE.out HX.out)
          go_wp2_with (first | (go_at_call 35; refine (check_any _ _ _ _ _ _ (key, val) h3.out h7.out _).mono ?_; rintro e w1 ⟨rfl, hb1⟩; rw [HX.out]; have kk := bkeep (v := .slice Ak nk ck) (b := wr.heap.size) (o := 0) hb1 (by simp); have hbl1 : Below w.heap.size w w1 := (hbl.alloc hbl.size _).trans (hb1.mono (by have := hbl.size; simp; omega))))
          go_roundg (n - 1)
          case measure => have := HG.out; omega
          case rel => exact ⟨1, Ak, nk, ck, rfl, by omega, rfl, rfl, fun _ => ⟨(key, val), HE.out, h3, H4.out⟩, Lib.hid (fun j hj => (show j = 0 by omega) ▸ HB0.out), hbl1⟩
        · obtain ⟨d, hd, hnl, hrd⟩ := HLA.out (by omega)
          have HD := Lib.hid hd
          have HRD := Lib.hid hrd
          have kp : 0 < k := by omega
          clear hd hrd
          by_cases hc : 0 ≤ compareBytes d.1 key
          · have HB0 := Lib.hid (badAt_order HE.out HD.out HX.out kp hc)
            have HR := Lib.hid (sorted_at (l := l) (i := k) (by have := HL.out; omega) HB.out (by rw [HB0.out]; decide))
            go_wp2_with (first | (go_at_call 35; refine (check_any _ _ _ _ _ _ (key, val) h3.out h7.out _).mono ?_; rintro e w1 ⟨rfl, hb1⟩; rw [HX.out]; have kk := bkeep (v := .slice Ak nk ck) (b := wr.heap.size) (o := 0) hb1 (by simp); have hbl1 : Below w.heap.size w w1 := (hbl.alloc hbl.size _).trans (hb1.mono (by have := hbl.size; simp; omega))) | (go_at_call 36; refine (compare_any _ _ _ _ _ _ F F d.1 key _ (HRD.out.below hbl1) hnl.out (H4.out.below hbl1) h3.out).mono ?_; rintro e w' ⟨rfl, rfl⟩))
            go_ret2
            rw [HR.out, HB0.out]
            exact ⟨rfl, hbl1⟩
          · have HB0 := Lib.hid (badAt_fine HE.out HD.out HX.out (by show compareBytes d.1 key < 0; omega))
            go_wp2_with (first | (go_at_call 35; refine (check_any _ _ _ _ _ _ (key, val) h3.out h7.out _).mono ?_; rintro e w1 ⟨rfl, hb1⟩; rw [HX.out]; have kk := bkeep (v := .slice Ak nk ck) (b := wr.heap.size) (o := 0) hb1 (by simp); have hbl1 : Below w.heap.size w w1 := (hbl.alloc hbl.size _).trans (hb1.mono (by have := hbl.size; simp; omega))) | (go_at_call 36; refine (compare_any _ _ _ _ _ _ F F d.1 key _ (HRD.out.below hbl1) hnl.out (H4.out.below hbl1) h3.out).mono ?_; rintro e w' ⟨rfl, rfl⟩))
            go_roundg (n - (k + 1))
            case measure => have := HG.out; omega
            case rel => exact ⟨k + 1, Ak, nk, ck, rfl, by omega, by go_num, rfl, fun _ => ⟨(key, val), HE.out, h3, H4.out⟩, Lib.hid (fun j hj => by
              rcases Nat.lt_or_ge j k with h | h
              · exact HB.out j h
              · obtain rfl : j = k := by omega
                exact HB0.out), hbl1⟩
      · have HX := Lib.hid hx
        have HB0 := Lib.hid (badAt_bad HE.out (by rw [hx]; decide))
        have HR := Lib.hid (sorted_at (l := l) (i := k) (by have := HL.out; omega) HB.out (by rw [HB0.out, hx]; decide))
        clear hx
        go_wp2_with (first | (go_at_call 35; refine (check_any _ _ _ _ _ _ (key, val) h3.out h7.out _).mono ?_; rintro e w1 ⟨rfl, hb1⟩; rw [HX.out]; have kk := bkeep (v := .slice Ak nk ck) (b := wr.heap.size) (o := 0) hb1 (by simp); have hbl1 : Below w.heap.size w w1 := (hbl.alloc hbl.size _).trans (hb1.mono (by have := hbl.size; simp; omega))))
        go_ret2
        rw [HR.out, HB0.out, HX.out]
        exact ⟨rfl, hbl1⟩
    · have HR := Lib.hid (sorted_ok (l := l) (fun j hj => HB.out j (by have := HL.out; omega)))
      go_wp2
      go_ret2
      rw [HR.out]
      exact ⟨rfl, hbl⟩

theorem rsorted_any (A : Option Addr) (n c : Nat) (F : Nat → Prop) (l : List Ent) (w : World) (h : Ents w F A n l) (hn2 : n ≤ 1152921504606) (hsm : ∀ (i : Nat) (e : Ent), l[i]? = some e → e.1.length ≤ 1152921504606) :
    Calls Try.prog 23 #[.slice A n c] w fun e w' => e = .returned (.tuple #[.int .i64 (sortedOf l).1, .int .i64 (sortedOf l).2]) ∧ Below w.heap.size w w' := by
  have HH := Lib.hid h
  have HL := Lib.hid h.len
  have HS := Lib.hid hsm
  clear h hsm
  go_enter Try.func23, Try.ntmps23
  go_wp2
  go_loopg [4] n (fun g i wr => ∃ (k : Nat), g = n - k ∧ k ≤ n ∧ i = .int .i64 k ∧ Hid (∀ j, j < k → badAt l j = 0) ∧ Below w.heap.size w wr)
  case atStart => exact ⟨0, by omega, by omega, rfl, fun j hj => absurd hj (by omega), Below.refl _ _⟩
  case round =>
    obtain ⟨k, hg, hk, rfl, HB, hbl⟩ := hrel
    have HG := Lib.hid hg
    clear hg
    by_cases hlt : k < n
    · obtain ⟨b, o, Ak, nk, ck, Av, nv, cv, key, val, rfl, _, he, c1, c2, h1, h2, h3, h4, h5, h6, h7, h8⟩ := HH.out.at_ hlt
      have d1 := bkeep hbl c1
      have d2 := bkeep hbl c2
      have HE := Lib.hid he
      have H4 := Lib.hid h4
      have H8 := Lib.hid h8
      clear c1 c2 he h4 h8
      rcases entE_cases (key, val) with hx | hx
      · have HX := Lib.hid hx
        clear hx
        by_cases hk0 : k = 0
        · subst hk0
          simp only [Nat.zero_mul, Nat.add_zero] at d1 d2
          have HB0 := Lib.hid (badAt_first HE.out HX.out)
          go_wp2_with (first | (go_at_call 39; refine (rcheck_any _ _ _ _ _ _ (key, val) h3.out h7.out _).mono ?_; rintro e w1 ⟨rfl, hb1⟩; rw [HX.out]; have hbl1 : Below w.heap.size w w1 := hbl.trans (hb1.mono hbl.size)))
          go_quiet (fail)
          go_wp2
          go_roundg (n - 1)
          case measure => have := HG.out; omega
          case rel => exact ⟨1, rfl, by omega, rfl, Lib.hid (fun j hj => (show j = 0 by omega) ▸ HB0.out), below_drewN hbl1 _⟩
        · have hlt1 : k - 1 < n := by omega
          obtain ⟨b', o', Bk, mk, dk, Bv, mv, dv, key', val', hA, _, he', c1', c2', h1', h2', h3', h4', h5', h6', h7', h8'⟩ := HH.out.at_ hlt1
          obtain ⟨rfl, rfl⟩ : b' = b ∧ o' = o := by injection hA with hA; injection hA with hA hB; exact ⟨hA.symm, hB.symm⟩
          have d1' := bkeep hbl c1'
          have HD := Lib.hid he'
          have H4' := Lib.hid h4'
          have kp : 0 < k := by omega
          have kp2 : (0 : Int) < (k : Int) := by omega
          clear c1' c2' he' h4' h8' hA
          by_cases hc : 0 ≤ compareBytes key' key
          · have HB0 := Lib.hid (badAt_order HE.out HD.out HX.out kp hc)
            have HR := Lib.hid (sorted_at (l := l) (i := k) (by have := HL.out; omega) HB.out (by rw [HB0.out]; decide))
            have e1 := IntWalk.i64_in ((k : Int) - 1) (by omega)
            have e2 : 0 ≤ (k : Int) - 1 := by omega
            have e3 : ((k : Int) - 1).toNat = k - 1 := by omega
            have e4 : (k : Int) - 1 < (n : Int) := by omega
            have HSM := Lib.hid (HS.out (k - 1) _ HD.out)
            go_wp2_with (first | (go_at_call 39; refine (rcheck_any _ _ _ _ _ _ (key, val) h3.out h7.out _).mono ?_; rintro e w1 ⟨rfl, hb1⟩; rw [HX.out]; have hbl1 : Below w.heap.size w w1 := hbl.trans (hb1.mono hbl.size); have q1 := bkeep hb1 d1; have q2 := bkeep hb1 d1'))
            go_quiet ((go_at_call 40; exact Calls.quiet_of (rcompare_any _ _ _ _ _ _ F F key' key _ (((H4'.out.below hbl).below hb1).drewN _) h3'.out (((H4.out.below hbl).below hb1).drewN _) h3.out (by have := HSM.out; have := h3'.out; omega))))
            clear e1 e3
            go_wp2
            go_ret2
            rw [HR.out, HB0.out]
            exact ⟨rfl, below_drewN hbl1 _⟩
          · have HB0 := Lib.hid (badAt_fine HE.out HD.out HX.out (by show compareBytes key' key < 0; omega))
            have e1 := IntWalk.i64_in ((k : Int) - 1) (by omega)
            have e2 : 0 ≤ (k : Int) - 1 := by omega
            have e3 : ((k : Int) - 1).toNat = k - 1 := by omega
            have e4 : (k : Int) - 1 < (n : Int) := by omega
            have HSM := Lib.hid (HS.out (k - 1) _ HD.out)
            go_wp2_with (first | (go_at_call 39; refine (rcheck_any _ _ _ _ _ _ (key, val) h3.out h7.out _).mono ?_; rintro e w1 ⟨rfl, hb1⟩; rw [HX.out]; have hbl1 : Below w.heap.size w w1 := hbl.trans (hb1.mono hbl.size); have q1 := bkeep hb1 d1; have q2 := bkeep hb1 d1'))
            go_quiet ((go_at_call 40; exact Calls.quiet_of (rcompare_any _ _ _ _ _ _ F F key' key _ (((H4'.out.below hbl).below hb1).drewN _) h3'.out (((H4.out.below hbl).below hb1).drewN _) h3.out (by have := HSM.out; have := h3'.out; omega))))
            clear e1 e3
            go_wp2
            go_roundg (n - (k + 1))
            case measure => have := HG.out; omega
            case rel => exact ⟨k + 1, rfl, by omega, by go_num, Lib.hid (fun j hj => by
              rcases Nat.lt_or_ge j k with h | h
              · exact HB.out j h
              · obtain rfl : j = k := by omega
                exact HB0.out), below_drewN hbl1 _⟩
      · have HX := Lib.hid hx
        have HB0 := Lib.hid (badAt_bad HE.out (by rw [hx]; decide))
        have HR := Lib.hid (sorted_at (l := l) (i := k) (by have := HL.out; omega) HB.out (by rw [HB0.out, hx]; decide))
        clear hx
        go_wp2_with (first | (go_at_call 39; refine (rcheck_any _ _ _ _ _ _ (key, val) h3.out h7.out _).mono ?_; rintro e w1 ⟨rfl, hb1⟩; rw [HX.out]; have hbl1 : Below w.heap.size w w1 := hbl.trans (hb1.mono hbl.size)))
        go_ret2
        rw [HR.out, HB0.out, HX.out]
        exact ⟨rfl, hbl1⟩
    · have HR := Lib.hid (sorted_ok (l := l) (fun j hj => HB.out j (by have := HL.out; omega)))
      go_wp2
      go_ret2
      rw [HR.out]
      exact ⟨rfl, hbl⟩
end Go.Proofs.Ytgjphmlmndcaeaa

namespace Go.Proofs.Ytgjphmlmndcaeaa
open Go.RowKit

/-- the document's arena of one slot -/
def RNewArena (w : World) (nodes : Int) (e : Ending) (w' : World) : Prop :=
  ∃ p g, e = .returned (.tuple #[.pointer (some ⟨p, 0, none⟩), .int .i64 0]) ∧ w.heap.size ≤ p ∧ w.heap.size ≤ g ∧ Blk w' p 83 #[.int .i64 nodes, .slice (some ⟨g, 0, none⟩) 1 1, .int .i64 1] ∧ Blk w' g 97 #[.int .u64 0, .int .i64 0, .slice none 0 0, .int .i64 0, .slice none 0 0, .slice none 0 0, .slice none 0 0] ∧ Below w.heap.size w w'
theorem rnew_ok (nodes : Int) (h1 : 1 ≤ nodes) (h2 : nodes ≤ 65536) (w : World) : Calls Try.prog 42 #[.int .i64 nodes] w (RNewArena w nodes) := by
  go_enter Try.func42, Try.ntmps42
  go_wp2
  go_ret2
  refine ⟨_, w.heap.size, rfl, ?_, Nat.le_refl _, ?_, ?_, ?_⟩
  · omega
  · have := Blk.new (w.alloc (.cells #[.int .u64 0, .int .i64 0, .slice none 0 0, .int .i64 0, .slice none 0 0, .slice none 0 0, .slice none 0 0] 97)) 83 #[.int .i64 nodes, .slice (some ⟨w.heap.size, 0, none⟩) 1 1, .int .i64 1]
    simpa using this
  · exact (Blk.new _ _ _).alloc _
  · exact ((Below.refl _ _).alloc (Nat.le_refl _) _).alloc (by simp) _
theorem small_leafN {l : List Ent} {fill : Nat} (hf : fill ≤ 64) (hs : ∀ e ∈ l, e.1.length ≤ 1152921504606 ∧ e.2.length ≤ 1152921504606) (i : Nat) : Small (leafN fill l i) :=
  small_part hs _ _ (by omega) _ _ _ (hiAt_small (fun e he => (hs e he).1) i)
theorem small_aboveN {low : List Nd} {inn : Nat} (hf : inn ≤ 64) (hs : ∀ s ∈ low, Small s) (lev first : Int) (i : Nat) : Small (aboveN inn lev low first i) := by
  have hl : (npart inn low i).length ≤ inn := by unfold npart; rw [List.length_take]; exact Nat.min_le_left _ _
  have hmem : ∀ e ∈ npart inn low i, e ∈ low := fun e he => List.mem_of_mem_drop (List.mem_of_mem_take he)
  refine ⟨?_, ?_, by simp [aboveN], ?_, fun t ht => ?_, by simp [aboveN]⟩
  · show ((npart inn low i).getLastD Nd.zero).high.length ≤ _
    rcases List.eq_nil_or_concat (npart inn low i) with e | ⟨L, b, e⟩
    · rw [e]; simp [Nd.zero]
    · have : b ∈ npart inn low i := by rw [e]; simp
      rw [e]
      simpa using (hs b (hmem b this)).1
  · show ((npart inn low i).dropLast.map Nd.high).length ≤ _; rw [List.length_map, List.length_dropLast]; omega
  · show ((List.range (npart inn low i).length).map _).length ≤ _; rw [List.length_map, List.length_range]; omega
  · obtain ⟨e, he, rfl⟩ := List.mem_map.1 ht; exact (hs e (hmem e (List.dropLast_subset _ he))).1

/-- the five cells of a configuration -/
def Cf (w : World) (g : Nat) (nd lf inn fl bl : Int) : Prop := w.cell? ⟨g, 0, none⟩ = some (.int .i64 nd) ∧ w.cell? ⟨g, 1, none⟩ = some (.int .i64 lf) ∧ w.cell? ⟨g, 2, none⟩ = some (.int .i64 inn) ∧ w.cell? ⟨g, 3, none⟩ = some (.int .i64 fl) ∧ w.cell? ⟨g, 4, none⟩ = some (.int .i64 bl)
theorem cf_of {w : World} {g : Nat} {nd lf inn fl bl : Int} (h : Blk w g 23 #[.int .i64 nd, .int .i64 lf, .int .i64 inn, .int .i64 fl, .int .i64 bl]) : Cf w g nd lf inn fl bl := ⟨by rw [h.cell]; rfl, by rw [h.cell]; rfl, by rw [h.cell]; rfl, by rw [h.cell]; rfl, by rw [h.cell]; rfl⟩
theorem rbuild_cfg (nd lf inn fl bl : Int) (A : Option Addr) (n c : Nat) (w : World) (hc : ¬ cfgOk nd lf inn fl bl) :
    Calls Try.prog 21 #[.agg #[.int .i64 nd, .int .i64 lf, .int .i64 inn, .int .i64 fl, .int .i64 bl], .slice A n c] w fun e w' => e = .returned (.tuple #[.pointer none, .int .i64 1, .int .i64 0]) ∧ Below w.heap.size w w' := by
  have he := cfgE_bad hc
  have HC := Lib.hid he
  clear he hc
  go_enter Try.func21, Try.ntmps21
  go_wp2_with (go_at_call 11; refine (rconfig_any nd lf inn fl bl _).mono ?_; rintro e w1 ⟨rfl, hb1⟩; rw [HC.out]; have HB1 := Lib.hid hb1; clear hb1)
  go_ret3
  exact ⟨rfl, ((Below.refl _ _).alloc (Nat.le_refl _) _).trans (HB1.out.mono (by simp))⟩
set_option maxRecDepth 100000 in
theorem rbuild_srt (nd lf inn fl bl : Int) (A : Option Addr) (n c : Nat) (F : Nat → Prop) (l : List Ent) (w : World) (hE : Ents w F A n l) (hn : n ≤ 1152921504606) (hsm : ∀ e ∈ l, e.1.length ≤ 1152921504606 ∧ e.2.length ≤ 1152921504606) (hc : cfgOk nd lf inn fl bl) (hs : (sortedOf l).2 ≠ 0) :
    Calls Try.prog 21 #[.agg #[.int .i64 nd, .int .i64 lf, .int .i64 inn, .int .i64 fl, .int .i64 bl], .slice A n c] w fun e w' => e = .returned (.tuple #[.pointer none, .int .i64 (sortedOf l).2, .int .i64 (sortedOf l).1]) ∧ Below w.heap.size w w' := by
  have he := cfgE_ok hc
  have HC := Lib.hid he
  have HE := Lib.hid hE
  have HS := Lib.hid hsm
  obtain ⟨si, hsi⟩ : ∃ x, x = (sortedOf l).1 := ⟨_, rfl⟩
  obtain ⟨se, hse⟩ : ∃ x, x = (sortedOf l).2 := ⟨_, rfl⟩
  rw [← hsi, ← hse]
  rw [← hse] at hs
  have hs' : (se == 0) = false := by rw [beq_eq_false_iff_ne]; exact hs
  have HSI := Lib.hid hsi
  have HSE := Lib.hid hse
  clear he hc hE hsm hsi hse hs
  go_enter Try.func21, Try.ntmps21
  go_wp2_with (first | (go_at_call 11; refine (rconfig_any nd lf inn fl bl _).mono ?_; rintro e w1 ⟨rfl, hb1⟩; rw [HC.out]; have HB1 : Hid (Below w.heap.size w w1) := Lib.hid (((Below.refl _ _).alloc (Nat.le_refl _) _).trans (hb1.mono (by simp))); clear hb1) | (go_at_call 23; refine (rsorted_any A n c F l _ (HE.out.below HB1.out) hn (fun i e he => (HS.out e (List.mem_of_getElem? he)).1)).mono ?_; rintro e w2 ⟨rfl, hb2⟩; rw [← HSI.out, ← HSE.out]; have HB2 := Lib.hid hb2; clear hb2))
  go_ret3
  exact ⟨rfl, HB1.out.trans (HB2.out.mono HB1.out.size)⟩
set_option maxRecDepth 100000 in
theorem rbuild_full (nd lf inn fl bl : Int) (A : Option Addr) (n c : Nat) (F : Nat → Prop) (l : List Ent) (w : World) (hE : Ents w F A n l) (hn : n ≤ 1152921504606) (hsm : ∀ e ∈ l, e.1.length ≤ 1152921504606 ∧ e.2.length ≤ 1152921504606) (hc : cfgOk nd lf inn fl bl) (hs : sortedOf l = (0, 0)) (hf : (nodesOf nd lf inn fl bl n).2 ≠ 0) :
    Calls Try.prog 21 #[.agg #[.int .i64 nd, .int .i64 lf, .int .i64 inn, .int .i64 fl, .int .i64 bl], .slice A n c] w fun e w' => e = .returned (.tuple #[.pointer none, .int .i64 (nodesOf nd lf inn fl bl n).2, .int .i64 0]) ∧ Below w.heap.size w w' := by
  have he := cfgE_ok hc
  have HC := Lib.hid he
  have HCF := Lib.hid hc
  have HE := Lib.hid hE
  have HS := Lib.hid hsm
  obtain ⟨ni, hni⟩ : ∃ x, x = nodesOf nd lf inn fl bl n := ⟨_, rfl⟩
  rw [← hni]
  rw [← hni] at hf
  have hf' : (ni.2 == 0) = false := by rw [beq_eq_false_iff_ne]; exact hf
  have HNI := Lib.hid hni
  have HSS := Lib.hid hs
  clear he hc hE hsm hni hf hs
  go_enter Try.func21, Try.ntmps21
  go_wp2_with (first | (go_at_call 11; refine (rconfig_any nd lf inn fl bl _).mono ?_; rintro e w1 ⟨rfl, hb1⟩; rw [HC.out]; have HB1 : Hid (Below w.heap.size w w1) := Lib.hid (((Below.refl _ _).alloc (Nat.le_refl _) _).trans (hb1.mono (by simp))); have HK1 := Lib.hid ((Blk.new w 23 #[.int .i64 nd, .int .i64 lf, .int .i64 inn, .int .i64 fl, .int .i64 bl]).below hb1); clear hb1) | (go_at_call 23; refine (rsorted_any A n c F l _ (HE.out.below HB1.out) hn (fun i e he => (HS.out e (List.mem_of_getElem? he)).1)).mono ?_; rintro e w2 ⟨rfl, hb2⟩; rw [HSS.out]; have HB2 := Lib.hid hb2; obtain ⟨z0, z1, z2, z3, z4⟩ := cf_of (HK1.out.below hb2); clear hb2) | (go_at_call 9; refine (rnodes_ok nd lf inn fl bl n _ HCF.out (by omega) (by omega)).mono ?_; rintro e w3 ⟨rfl, hb3⟩; rw [← HNI.out]; unfold nodesV; have HB3 := Lib.hid hb3; clear hb3))
  go_ret3
  exact ⟨rfl, (HB1.out.trans (HB2.out.mono HB1.out.size)).trans (HB3.out.mono (Nat.le_trans HB1.out.size HB2.out.size))⟩
theorem build_cfg (nd lf inn fl bl : Int) (A : Option Addr) (n c : Nat) (w : World) (hc : ¬ cfgOk nd lf inn fl bl) :
    Calls Try.prog 20 #[.agg #[.int .i64 nd, .int .i64 lf, .int .i64 inn, .int .i64 fl, .int .i64 bl], .slice A n c] w fun e w' => e = .returned (.tuple #[.pointer none, .int .i64 1, .int .i64 0]) ∧ Below w.heap.size w w' := by
  have he := cfgE_bad hc
  have HC := Lib.hid he
  clear he hc
  go_enter Try.func20, Try.ntmps20
  go_wp2_with (go_at_call 30; refine (config_any nd lf inn fl bl _).mono ?_; rintro e w1 ⟨rfl, hb1⟩; rw [HC.out]; have HB1 := Lib.hid hb1; clear hb1)
  go_ret3
  exact ⟨rfl, ((Below.refl _ _).alloc (Nat.le_refl _) _).trans (HB1.out.mono (by simp))⟩
set_option maxRecDepth 100000 in
theorem build_srt (nd lf inn fl bl : Int) (A : Option Addr) (n c : Nat) (F : Nat → Prop) (l : List Ent) (w : World) (hE : Ents w F A n l) (hn : n ≤ 1152921504606) (hsm : ∀ e ∈ l, e.1.length ≤ 1152921504606 ∧ e.2.length ≤ 1152921504606) (hc : cfgOk nd lf inn fl bl) (hs : (sortedOf l).2 ≠ 0) :
    Calls Try.prog 20 #[.agg #[.int .i64 nd, .int .i64 lf, .int .i64 inn, .int .i64 fl, .int .i64 bl], .slice A n c] w fun e w' => e = .returned (.tuple #[.pointer none, .int .i64 (sortedOf l).2, .int .i64 (sortedOf l).1]) ∧ Below w.heap.size w w' := by
  have he := cfgE_ok hc
  have HC := Lib.hid he
  have HE := Lib.hid hE
  have HS := Lib.hid hsm
  obtain ⟨si, hsi⟩ : ∃ x, x = (sortedOf l).1 := ⟨_, rfl⟩
  obtain ⟨se, hse⟩ : ∃ x, x = (sortedOf l).2 := ⟨_, rfl⟩
  rw [← hsi, ← hse]
  rw [← hse] at hs
  have hs' : (se == 0) = false := by rw [beq_eq_false_iff_ne]; exact hs
  have HSI := Lib.hid hsi
  have HSE := Lib.hid hse
  clear he hc hE hsm hsi hse hs
  go_enter Try.func20, Try.ntmps20
  go_wp2_with (first | (go_at_call 30; refine (config_any nd lf inn fl bl _).mono ?_; rintro e w1 ⟨rfl, hb1⟩; rw [HC.out]; have HB1 : Hid (Below w.heap.size w w1) := Lib.hid (((Below.refl _ _).alloc (Nat.le_refl _) _).trans (hb1.mono (by simp))); clear hb1) | (go_at_call 41; refine (sorted_any A n c F l _ (HE.out.below HB1.out) hn).mono ?_; rintro e w2 ⟨rfl, hb2⟩; rw [← HSI.out, ← HSE.out]; have HB2 := Lib.hid hb2; clear hb2))
  go_ret3
  exact ⟨rfl, HB1.out.trans (HB2.out.mono HB1.out.size)⟩
set_option maxRecDepth 100000 in
theorem build_full (nd lf inn fl bl : Int) (A : Option Addr) (n c : Nat) (F : Nat → Prop) (l : List Ent) (w : World) (hE : Ents w F A n l) (hn : n ≤ 1152921504606) (hsm : ∀ e ∈ l, e.1.length ≤ 1152921504606 ∧ e.2.length ≤ 1152921504606) (hc : cfgOk nd lf inn fl bl) (hs : sortedOf l = (0, 0)) (hf : (nodesOf nd lf inn fl bl n).2 ≠ 0) :
    Calls Try.prog 20 #[.agg #[.int .i64 nd, .int .i64 lf, .int .i64 inn, .int .i64 fl, .int .i64 bl], .slice A n c] w fun e w' => e = .returned (.tuple #[.pointer none, .int .i64 (nodesOf nd lf inn fl bl n).2, .int .i64 0]) ∧ Below w.heap.size w w' := by
  have he := cfgE_ok hc
  have HC := Lib.hid he
  have HCF := Lib.hid hc
  have HE := Lib.hid hE
  have HS := Lib.hid hsm
  obtain ⟨ni, hni⟩ : ∃ x, x = nodesOf nd lf inn fl bl n := ⟨_, rfl⟩
  rw [← hni]
  rw [← hni] at hf
  have hf' : (ni.2 == 0) = false := by rw [beq_eq_false_iff_ne]; exact hf
  have HNI := Lib.hid hni
  have HSS := Lib.hid hs
  clear he hc hE hsm hni hf hs
  go_enter Try.func20, Try.ntmps20
  go_wp2_with (first | (go_at_call 30; refine (config_any nd lf inn fl bl _).mono ?_; rintro e w1 ⟨rfl, hb1⟩; rw [HC.out]; have HB1 : Hid (Below w.heap.size w w1) := Lib.hid (((Below.refl _ _).alloc (Nat.le_refl _) _).trans (hb1.mono (by simp))); have HK1 := Lib.hid ((Blk.new w 23 #[.int .i64 nd, .int .i64 lf, .int .i64 inn, .int .i64 fl, .int .i64 bl]).below hb1); clear hb1) | (go_at_call 41; refine (sorted_any A n c F l _ (HE.out.below HB1.out) hn).mono ?_; rintro e w2 ⟨rfl, hb2⟩; rw [HSS.out]; have HB2 := Lib.hid hb2; obtain ⟨z0, z1, z2, z3, z4⟩ := cf_of (HK1.out.below hb2); clear hb2) | (go_at_call 8; refine (nodes_ok nd lf inn fl bl n _ HCF.out (by omega) (by omega)).mono ?_; rintro e w3 ⟨rfl, hb3⟩; rw [← HNI.out]; unfold nodesV; have HB3 := Lib.hid hb3; clear hb3))
  go_ret3
  exact ⟨rfl, (HB1.out.trans (HB2.out.mono HB1.out.size)).trans (HB3.out.mono (Nat.le_trans HB1.out.size HB2.out.size))⟩
end Go.Proofs.Ytgjphmlmndcaeaa

namespace Go.Proofs.Ytgjphmlmndcaeaa
open Go.RowKit
/-- the answer is the program's arena -/
def BuiltX (w : World) (nodes : Int) (t : List Slt × Int) (e : Ending) (w' : World) : Prop :=
  ∃ p, e = .returned (.tuple #[.pointer (some ⟨p, 0, none⟩), .int .i64 0, .int .i64 0]) ∧ ArX w' (From w.heap.size) p nodes t.1 t.2 ∧ Below w.heap.size w w'
def BuiltR (w : World) (nodes : Int) (t : List Slt × Int) (e : Ending) (w' : World) : Prop :=
  ∃ p, e = .returned (.tuple #[.pointer (some ⟨p, 0, none⟩), .int .i64 0, .int .i64 0]) ∧ ArR w' (From w.heap.size) p nodes t.1 t.2 ∧ Below w.heap.size w w'

theorem tree_any (nd lf bl : Int) (inn fill : Nat) (A : Option Addr) (n c : Nat) (F0 : Nat → Prop) (l : List Ent) (w : World) (hc : cfgOk nd lf inn fill bl) (hE : Ents w F0 A n l) (hnc : n ≤ c) (hcm : c ≤ maxLen) (hn : n ≤ 1152921504606)
    (hsm : ∀ e ∈ l, e.1.length ≤ 1152921504606 ∧ e.2.length ≤ 1152921504606) (hlv : (nodesOf nd lf inn fill bl n).2 = 0) :
    Calls Try.prog 33 #[.agg #[.int .i64 nd, .int .i64 lf, .int .i64 inn, .int .i64 fill, .int .i64 bl], .slice A n c] w (NewTree w nd (treeOf fill inn l)) := by
  obtain ⟨c1, c2, c3, c4, c5, c6, c7, c8, c9, c10⟩ := hc
  rcases Nat.eq_zero_or_pos n with h0 | h0
  · subst h0
    have : l = [] := List.eq_nil_of_length_eq_zero hE.len.symm
    subst this
    rw [treeOf_nil]
    exact tree_nil nd lf bl inn fill A c w c1 c2
  · rw [nodesOf_ok ⟨c1, c2, c3, c4, c5, c6, c7, c8, c9, c10⟩ (by omega)] at hlv
    exact tree_cons nd lf bl inn fill A n c F0 l w c1 c2 (by omega) (by omega) (by omega) (by omega) hE hnc hcm hn h0 hsm hlv

set_option maxRecDepth 100000 in
theorem pbuild_ok (nd lf bl : Int) (inn fill : Nat) (A : Option Addr) (n c : Nat) (F : Nat → Prop) (l : List Ent) (w : World) (hE : Ents w F A n l) (hnc : n ≤ c) (hcm : c ≤ maxLen) (hn : n ≤ 1152921504606) (hsm : ∀ e ∈ l, e.1.length ≤ 1152921504606 ∧ e.2.length ≤ 1152921504606) (hc : cfgOk nd lf inn fill bl) (hs : sortedOf l = (0, 0)) (hf : (nodesOf nd lf inn fill bl n).2 = 0) :
    Calls Try.prog 20 #[.agg #[.int .i64 nd, .int .i64 lf, .int .i64 inn, .int .i64 fill, .int .i64 bl], .slice A n c] w (BuiltX w nd (treeOf fill inn l)) := by
  have he := cfgE_ok hc
  have HC := Lib.hid he
  have HCF := Lib.hid hc
  have HE := Lib.hid hE
  have HS := Lib.hid hsm
  obtain ⟨ni, hni⟩ : ∃ x, x = nodesOf nd lf inn fill bl n := ⟨_, rfl⟩
  have HF := Lib.hid hf
  have hf' : (ni.2 == 0) = true := by rw [hni, beq_iff_eq]; exact hf
  have HNI := Lib.hid hni
  have HSS := Lib.hid hs
  clear he hc hE hsm hni hf hs
  go_enter Try.func20, Try.ntmps20
  go_wp2_with (first | (go_at_call 30; refine (config_any nd lf inn fill bl _).mono ?_; rintro e w1 ⟨rfl, hb1⟩; rw [HC.out]; have HB1 : Hid (Below w.heap.size w w1) := Lib.hid (((Below.refl _ _).alloc (Nat.le_refl _) _).trans (hb1.mono (by simp))); have HK1 := Lib.hid ((Blk.new w 23 #[.int .i64 nd, .int .i64 lf, .int .i64 inn, .int .i64 fill, .int .i64 bl]).below hb1); clear hb1) | (go_at_call 41; refine (sorted_any A n c F l _ (HE.out.below HB1.out) hn).mono ?_; rintro e w2 ⟨rfl, hb2⟩; rw [HSS.out]; have HB2 : Hid (Below w.heap.size w w2) := Lib.hid (HB1.out.trans (hb2.mono HB1.out.size)); have HK2 := Lib.hid (HK1.out.below hb2); obtain ⟨z0, z1, z2, z3, z4⟩ := cf_of HK2.out; clear hb2) | (go_at_call 8; refine (nodes_ok nd lf inn fill bl n _ HCF.out (by omega) (by omega)).mono ?_; rintro e w3 ⟨rfl, hb3⟩; rw [← HNI.out]; unfold nodesV; have HB3 : Hid (Below w.heap.size w w3) := Lib.hid (HB2.out.trans (hb3.mono HB2.out.size)); have HK3 := Lib.hid (HK2.out.below hb3); obtain ⟨z0, z1, z2, z3, z4⟩ := cf_of HK3.out; clear hb3) | (go_at_call 33; refine (tree_any nd lf bl inn fill A n c F l _ HCF.out (HE.out.below HB3.out) hnc hcm hn HS.out HF.out).mono ?_; rintro e w4 ⟨p, rfl, q1, q2⟩; have HQ1 := Lib.hid q1; have HQ2 := Lib.hid q2; clear q1 q2))
  go_ret3
  exact ⟨p, rfl, HQ1.out.weak (fun b hb => Nat.le_trans HB3.out.size hb), HB3.out.trans (HQ2.out.mono HB3.out.size)⟩
end Go.Proofs.Ytgjphmlmndcaeaa

namespace Go.Proofs.Ytgjphmlmndcaeaa
open Go.RowKit
set_option maxRecDepth 100000 in
theorem rbuild_nil (nd lf bl : Int) (inn fill : Nat) (A : Option Addr) (c : Nat) (F : Nat → Prop) (w : World) (hE : Ents w F A 0 []) (hc : cfgOk nd lf inn fill bl) (hf : (nodesOf nd lf inn fill bl (0 : Nat)).2 = 0) :
    Calls Try.prog 21 #[.agg #[.int .i64 nd, .int .i64 lf, .int .i64 inn, .int .i64 fill, .int .i64 bl], .slice A 0 c] w (BuiltR w nd ([(0, Nd.zero)], 1)) := by
  obtain ⟨n, hn0⟩ : ∃ n : Nat, n = 0 := ⟨0, rfl⟩
  obtain ⟨l, hl0⟩ : ∃ l : List Ent, l = [] := ⟨[], rfl⟩
  rw [← hn0, ← hl0] at hE
  rw [← hn0] at hf ⊢
  have hn : n ≤ 1152921504606 := by omega
  have hsm : ∀ e ∈ l, e.1.length ≤ 1152921504606 ∧ e.2.length ≤ 1152921504606 := by rw [hl0]; simp
  have hs : sortedOf l = (0, 0) := by rw [hl0]; rfl
  have hz : ((n : Int) == 0) = true := by rw [hn0]; rfl
  clear hn0 hl0
  have he := cfgE_ok hc
  have HC := Lib.hid he
  have HCF := Lib.hid hc
  have HE := Lib.hid hE
  have HS := Lib.hid hsm
  obtain ⟨ni, hni⟩ : ∃ x, x = nodesOf nd lf inn fill bl n := ⟨_, rfl⟩
  have HF := Lib.hid hf
  have hf' : (ni.2 == 0) = true := by rw [hni, beq_iff_eq]; exact hf
  have HNI := Lib.hid hni
  have HSS := Lib.hid hs
  have hn1 : 1 ≤ nd := hc.1
  have hn2 : nd ≤ 65536 := hc.2.1
  clear he hc hE hsm hni hf hs
  go_enter Try.func21, Try.ntmps21
  go_wp2_with (first | (go_at_call 11; refine (rconfig_any nd lf inn fill bl _).mono ?_; rintro e w1 ⟨rfl, hb1⟩; rw [HC.out]; have HB1 : Hid (Below w.heap.size w w1) := Lib.hid (((Below.refl _ _).alloc (Nat.le_refl _) _).trans (hb1.mono (by simp))); have HK1 := Lib.hid ((Blk.new w 23 #[.int .i64 nd, .int .i64 lf, .int .i64 inn, .int .i64 fill, .int .i64 bl]).below hb1); clear hb1) | (go_at_call 23; refine (rsorted_any A n c F l _ (HE.out.below HB1.out) hn (fun i e he => (HS.out e (List.mem_of_getElem? he)).1)).mono ?_; rintro e w2 ⟨rfl, hb2⟩; rw [HSS.out]; have HB2 : Hid (Below w.heap.size w w2) := Lib.hid (HB1.out.trans (hb2.mono HB1.out.size)); have HK2 := Lib.hid (HK1.out.below hb2); obtain ⟨z0, z1, z2, z3, z4⟩ := cf_of HK2.out; clear hb2) | (go_at_call 9; refine (rnodes_ok nd lf inn fill bl n _ HCF.out (by omega) (by omega)).mono ?_; rintro e w3 ⟨rfl, hb3⟩; rw [← HNI.out]; unfold nodesV; have HB3 : Hid (Below w.heap.size w w3) := Lib.hid (HB2.out.trans (hb3.mono HB2.out.size)); have HK3 := Lib.hid (HK2.out.below hb3); obtain ⟨z0, z1, z2, z3, z4⟩ := cf_of HK3.out; clear hb3) | (go_at_call 42; refine (rnew_ok nd hn1 hn2 _).mono ?_; rintro e w4 ⟨p, g, rfl, p1, p2, p3, p4, hb4⟩; have HB4 : Hid (Below w.heap.size w w4) := Lib.hid (HB3.out.trans (hb4.mono HB3.out.size)); have HK4 := Lib.hid (HK3.out.below hb4); obtain ⟨z0, z1, z2, z3, z4⟩ := cf_of HK4.out; have HP3 := Lib.hid p3; have HP4 := Lib.hid p4; have hs3 : w.heap.size ≤ w3.heap.size := HB3.out.size; have pc1 : w4.cell? ⟨p, 1, none⟩ = some (.slice (some ⟨g, 0, none⟩) 1 1) := (HP3.out.cell 1).trans rfl; have pcf := HP3.out.frozen; have hk3 : w.heap.size < w3.heap.size := HK3.out.lt; clear hb4 p3 p4))
  go_ret3
  refine ⟨p, rfl, ?_, HB4.out⟩
  refine ⟨_, 1, 1, Nat.le_trans hs3 p1, HP3.out, rfl, [.int .u64 0, .int .i64 0, .slice none 0 0, .int .i64 0, .slice none 0 0, .slice none 0 0, .slice none 0 0], ⟨rfl, fun _ => ⟨g, 0, rfl, Nat.le_trans hs3 p2, fun j u hj => by rw [Nat.zero_add, HP4.out.cell]; simpa using hj⟩⟩, fun i s hi => ?_⟩
  match i, hi with
  | 0, hi =>
    have : s = (0, Nd.zero) := by simpa using hi.symm
    subst this
    exact ⟨none, 0, 0, none, 0, 0, none, 0, 0, none, 0, 0, rfl, Bt.nil _ _, Tx.nil _ _, Tx.nil _ _, It.nil _ _⟩
  | i + 1, hi => simp at hi

set_option maxRecDepth 100000 in
set_option maxHeartbeats 4000000 in
theorem rbuild_cons (nd lf bl : Int) (inn fill : Nat) (A : Option Addr) (n c : Nat) (F : Nat → Prop) (l : List Ent) (w : World) (hE : Ents w F A n l) (hnc : n ≤ c) (hcm : c ≤ maxLen) (hn : n ≤ 1152921504606) (hpos : 0 < n) (hsm : ∀ e ∈ l, e.1.length ≤ 1152921504606 ∧ e.2.length ≤ 1152921504606) (hc : cfgOk nd lf inn fill bl) (hs : sortedOf l = (0, 0)) (hf : (nodesOf nd lf inn fill bl n).2 = 0) :
    Calls Try.prog 21 #[.agg #[.int .i64 nd, .int .i64 lf, .int .i64 inn, .int .i64 fill, .int .i64 bl], .slice A n c] w (BuiltR w nd (rtreeOf fill inn l)) := by
  have hz : ((n : Int) == 0) = false := by rw [beq_eq_false_iff_ne]; omega
  have hfi : 1 ≤ fill ∧ fill ≤ 64 ∧ 3 ≤ inn ∧ inn ≤ 64 := by have := hc; unfold cfgOk at this; omega
  have he := cfgE_ok hc
  have HC := Lib.hid he
  have HCF := Lib.hid hc
  have HE := Lib.hid hE
  have HS := Lib.hid hsm
  obtain ⟨ni, hni⟩ : ∃ x, x = nodesOf nd lf inn fill bl n := ⟨_, rfl⟩
  have HF := Lib.hid hf
  have hf' : (ni.2 == 0) = true := by rw [hni, beq_iff_eq]; exact hf
  have HNI := Lib.hid hni
  have HSS := Lib.hid hs
  have hn1 : 1 ≤ nd := hc.1
  have hn2 : nd ≤ 65536 := hc.2.1
  clear he hc hE hsm hni hf hs
  go_enter Try.func21, Try.ntmps21
  go_wp2_with (first | (go_at_call 11; refine (rconfig_any nd lf inn fill bl _).mono ?_; rintro e w1 ⟨rfl, hb1⟩; rw [HC.out]; have HB1 : Hid (Below w.heap.size w w1) := Lib.hid (((Below.refl _ _).alloc (Nat.le_refl _) _).trans (hb1.mono (by simp))); have HK1 := Lib.hid ((Blk.new w 23 #[.int .i64 nd, .int .i64 lf, .int .i64 inn, .int .i64 fill, .int .i64 bl]).below hb1); clear hb1) | (go_at_call 23; refine (rsorted_any A n c F l _ (HE.out.below HB1.out) hn (fun i e he => (HS.out e (List.mem_of_getElem? he)).1)).mono ?_; rintro e w2 ⟨rfl, hb2⟩; rw [HSS.out]; have HB2 : Hid (Below w.heap.size w w2) := Lib.hid (HB1.out.trans (hb2.mono HB1.out.size)); have HK2 := Lib.hid (HK1.out.below hb2); obtain ⟨z0, z1, z2, z3, z4⟩ := cf_of HK2.out; clear hb2) | (go_at_call 9; refine (rnodes_ok nd lf inn fill bl n _ HCF.out (by omega) (by omega)).mono ?_; rintro e w3 ⟨rfl, hb3⟩; rw [← HNI.out]; unfold nodesV; have HB3 : Hid (Below w.heap.size w w3) := Lib.hid (HB2.out.trans (hb3.mono HB2.out.size)); have HK3 := Lib.hid (HK2.out.below hb3); obtain ⟨z0, z1, z2, z3, z4⟩ := cf_of HK3.out; clear hb3) | (go_at_call 42; refine (rnew_ok nd hn1 hn2 _).mono ?_; rintro e w4 ⟨p, g, rfl, p1, p2, p3, p4, hb4⟩; have HB4 : Hid (Below w.heap.size w w4) := Lib.hid (HB3.out.trans (hb4.mono HB3.out.size)); have HK4 := Lib.hid (HK3.out.below hb4); obtain ⟨z0, z1, z2, z3, z4⟩ := cf_of HK4.out; have HP3 := Lib.hid p3; have HP4 := Lib.hid p4; have hs3 : w.heap.size ≤ w3.heap.size := HB3.out.size; have pc1 : w4.cell? ⟨p, 1, none⟩ = some (.slice (some ⟨g, 0, none⟩) 1 1) := (HP3.out.cell 1).trans rfl; have pcf := HP3.out.frozen; have hk3 : w.heap.size < w3.heap.size := HK3.out.lt; clear hb4 p3 p4) | (go_at_call 43; have hE5 : Ents (w4.setCell ⟨p, 1, none⟩ (.slice none 0 0)) (fun b => F b ∧ b < w.heap.size) A n l := (HE.out.lt.below HB4.out).chg (Chg.set1 w4 p 1 _) (fun b hb e => by have e : b = p := e; have := hb.2; omega); go_loud (refine (rleaves_any nd lf bl inn fill A n c _ l _ hfi.1 hfi.2.1 hE5 hnc hcm hn hpos HS.out).mono ?_); rintro e w6 ⟨v, rfl, hlvl, hb6⟩; have HLV := Lib.hid hlvl; have HB6 := Lib.hid hb6; clear hlvl hb6 hE5))
  have hp0 : w.heap.size + 1 ≤ p := by omega
  have hsz5 : (w4.setCell ⟨p, 1, none⟩ (.slice none 0 0)).heap.size = w4.heap.size := by simp [World.setCell]
  have hp4 : p < w4.heap.size := HP3.out.lt
  have HBW : Hid (Below w.heap.size w w6) := Lib.hid ((HB4.out.setCell (p := ⟨p, 1, none⟩) (by show w.heap.size ≤ p; omega) _).trans (HB6.out.mono (by rw [hsz5]; exact HB4.out.size)))
  have HBP : Hid (Blk w6 p 83 #[.int .i64 nd, .slice none 0 0, .int .i64 1]) := Lib.hid ((HP3.out.set_ 1 (.slice none 0 0)).below HB6.out)
  have HKC : Hid (Blk w6 w.heap.size 23 #[.int .i64 nd, .int .i64 lf, .int .i64 inn, .int .i64 fill, .int .i64 bl]) := Lib.hid ((HK4.out.far (p := ⟨p, 1, none⟩) (by show w.heap.size ≠ p; omega) _).below HB6.out)
  have HLV0 : Hid ((lv nd inn 32 ((leavesN fill l).length : Int) (([] : List Slt).length : Int)).2 = 0) := Lib.hid (by
    have h1 := HF.out
    rw [nodesOf_ok HCF.out (by omega)] at h1
    have h2 : (leavesN fill l).length = pn l.length fill := by simp [leavesN]
    rw [h2, pn_cast _ _ hfi.1, ← HE.out.len]
    exact h1)
  have hw46 : w4.heap.size ≤ w6.heap.size := by have := HB6.out.size; omega
  obtain ⟨lus, lo, lb, ln⟩ := HLV.out
  obtain ⟨A6, c6, rfl, hc6, hm6⟩ := own_val lo
  have hpl1 : 1 ≤ (leavesN fill l).length := by have := pn_pos l.length fill hfi.1; simpa [leavesN] using this
  have hlne : l ≠ [] := fun e => by have := HE.out.len; rw [e] at this; simp at this; omega
  have HNE := Lib.hid hlne
  clear hlne
  have hup : ∀ y, y < w6.heap.size → (((F y ∧ y < w.heap.size) ∧ y < (w4.setCell ⟨p, 1, none⟩ (.slice none 0 0)).heap.size) ∨ (w4.setCell ⟨p, 1, none⟩ (.slice none 0 0)).heap.size ≤ y) → y ≠ p ∧ y < w6.heap.size := fun y hy h => ⟨by rw [hsz5] at h; rcases h with h | h; have := h.1.2; omega; omega, hy⟩
  have HLR : Hid (Rd w6 (fun y => y ≠ p ∧ y < w6.heap.size) 6 A6 (leavesN fill l).length lus) := Lib.hid ((rd_own_blk lo lb).and (by omega) hup)
  have HLN : Hid (Nds w6 (fun y => y ≠ p ∧ y < w6.heap.size) lus (leavesN fill l)) := Lib.hid (Nds.next ln (Chg.refl Nil _) (fun _ _ _ h => h) hup)
  clear hup lo lb ln
  have hbig : (Value.slice none 0 0).ownBlock = none := rfl
  go_loopg [11] 32 (fun g' lvv wr => ∃ (k : Nat) (lev : Int) (sl : List Slt) (out : Value) (us : List Value) (DL : Nat → Prop) (A' : Option Addr) (n' c' : Nat) (lus : List Value) (lvl : List Nd), g' = k ∧ lvv = .slice A' n' c' ∧ ArB wr (w.heap.size + 1) p nd sl out us ∧ Rd wr DL 6 A' n' lus ∧ Nds wr DL lus lvl ∧ Hid (lvl.length = n') ∧ (1 ≤ n' ∧ n' ≤ c' ∧ c' ≤ maxLen) ∧ (∀ y, DL y → y ≠ p ∧ out.ownBlock ≠ some y ∧ y < wr.heap.size) ∧ (lv nd inn k (n' : Int) (sl.length : Int)).2 = 0 ∧ rups inn k lev sl lvl = rtreeOf fill inn l ∧ (∀ s ∈ lvl, Small s) ∧ (∀ s, lvl[0]? = some s → s.lev = lev) ∧ (0 ≤ lev ∧ lev + (k : Int) = 32) ∧ Below w.heap.size w wr ∧ Blk wr w.heap.size 23 #[.int .i64 nd, .int .i64 lf, .int .i64 inn, .int .i64 fill, .int .i64 bl])
  case atStart => exact ⟨32, 0, [], .slice none 0 0, [], _, A6, _, c6, lus, leavesN fill l, rfl, rfl, ⟨HBP.out, World.ownsRow_nil _ _ _ _, fun i s h => by simp at h⟩, HLR.out, HLN.out, rfl, ⟨by omega, hc6, hm6⟩, fun y hy => ⟨hy.1, by simp [Value.ownBlock], hy.2⟩, HLV0.out, (by rw [rtreeOf, if_neg HNE.out]), (fun s hs => by obtain ⟨i, _, rfl⟩ := List.mem_map.1 hs; exact small_leafN hfi.2.1 HS.out i), (fun s hs => by unfold leavesN at hs; rw [List.getElem?_map] at hs; rcases h : (List.range (pn l.length fill))[0]? with _ | x; rw [h] at hs; simp at hs; rw [h] at hs; have hs : leafN fill l x = s := (by simpa using hs); subst hs; rfl), ⟨by omega, by omega⟩, HBW.out, HKC.out⟩
  case round =>
    obtain ⟨k, lev, sl, out, us, DL, A', n', c', lus', lvl, hg, rfl, hab, hrd, hnd, hll, hnn, hdl, hlv, hru, hsl, hle, hlk, hbw, hkc⟩ := hrel
    rename World => wr
    have HAB := Lib.hid hab
    have HRD := Lib.hid hrd
    have HND := Lib.hid hnd
    have HDL := Lib.hid hdl
    have HLV2 := Lib.hid hlv
    have HRU := Lib.hid hru
    have HSL := Lib.hid hsl
    have HLE := Lib.hid hle
    have HBWr := Lib.hid hbw
    have HKCr := Lib.hid hkc
    have HG := Lib.hid hg
    clear hab hrd hnd hdl hlv hru hsl hle hbw hkc hg HLR HLN HBP HKC HLV0 HLV HBW HB6 HP3 HP4 HK1 HK2 HK3 HK4 HB1 HB2 HB3 HB4
    obtain ⟨kk, rfl⟩ : ∃ kk, k = kk + 1 := by
      cases k with
      | zero => have := HLV2.out; simp [lv] at this
      | succ kk => exact ⟨kk, rfl⟩
    have hfit : ¬ nd - (sl.length : Int) < (n' : Int) := by
      intro hx
      have := HLV2.out
      rw [lv_full hx] at this
      simp at this
    have hslen : sl.length + n' ≤ 65536 := by omega
    obtain ⟨A3, c3, rfl, hc3, hm3⟩ := own_val HAB.out.own
    have pc1 : wr.cell? ⟨p, 1, none⟩ = some (.slice A3 sl.length c3) := (HAB.out.blk.cell 1).trans rfl
    have hw1 := IntWalk.i64_in ((sl.length : Int) + 1) (by omega)
    have hbase : w.heap.size + 1 ≤ wr.heap.size := by have := HKCr.out.lt; omega
    obtain ⟨b, o, _, _, _, _, rfl, _⟩ := node_at HRD.out HND.out (by have := hll.out; omega) hnn.1
    clear hfit
    go_wp2
    refine rb_in (w.heap.size + 1) p b o n' c' nd ((sl.length : Int) + 1) sl (.slice A3 sl.length c3) us lus' DL lvl wr _ (Lib.hid (fun _ _ _ _ h => h)) HAB hslen hbase HRD HND hll HDL (by omega) HSL ?_
    intro v14 v60 v61 v62 v63 v64 v65 v66 v67 v68 v69 v70 v71 v72 v73 v74 v75 v76 v77 v78 v79 v80 v81 v82 v83 v84 v85 v86 v87 v88 v89 v90 v91 v92 out' us'' w7 hab7 hch7 hat7
    have HAB7 := Lib.hid hab7
    have HCH7 := Lib.hid hch7
    have hdis : ∀ y, DL y → ¬ (y = p ∨ (Value.slice A3 sl.length c3).ownBlock = some y) := fun y hy h => h.elim (HDL.out y hy).1 (HDL.out y hy).2.1
    have HRD7 := Lib.hid (HRD.out.chg hch7 hdis)
    have HND7 := Lib.hid (HND.out.next hch7 (fun y _ hy => hdis y hy) (fun _ _ h => h))
    have HAT7 := Lib.hid hat7
    have hgo : ∀ y, (Value.slice A3 sl.length c3).ownBlock = some y → w.heap.size + 1 ≤ y := fun y hy => (own_lt HAB.out.own y hy).1
    have HB7 : Hid (Below w.heap.size w w7) := Lib.hid (HBWr.out.trans (hch7.below_of HBWr.out.size (fun y hy h => h.elim (fun h => by omega) (fun h => by have := hgo y h; omega))))
    have HK7 : Hid (Blk w7 w.heap.size 23 #[.int .i64 nd, .int .i64 lf, .int .i64 inn, .int .i64 fill, .int .i64 bl]) := Lib.hid (HKCr.out.chg hch7 (fun h => h.elim (fun h => by omega) (fun h => by have := hgo _ h; omega)))
    have hw7 : wr.heap.size ≤ w7.heap.size := hch7.size
    have HL7 : Hid ((sl ++ (List.range n').map (slotN lvl ((sl.length : Int) + 1))).length = sl.length + n') := Lib.hid (by simp)
    clear hab7 hch7 hat7 hdis hgo pc1
    by_cases hone : n' = 1
    · have h1 : ((n' : Int) == 1) = true := by rw [beq_iff_eq]; omega
      have pc2 : w7.cell? ⟨p, 2, none⟩ = some (.int .i64 1) := (HAB7.out.blk.cell 2).trans rfl
      have pcf := HAB7.out.blk.frozen
      have HON := Lib.hid hone
      clear hone
      go_wp2
      go_ret3
      have hd := HAB7.out.done (by omega) ((sl.length : Int) + 1)
      have hr : rtreeOf fill inn l = (sl ++ (List.range n').map (slotN lvl ((sl.length : Int) + 1)), (sl.length : Int) + 1) := by
        rw [← HRU.out, rups, if_pos (by rw [hll.out]; exact HON.out), hll.out]
      refine ⟨p, rfl, ?_, HB7.out.setCell (p := ⟨p, 2, none⟩) (by show w.heap.size ≤ p; omega) _⟩
      rw [hr]
      exact hd.weak (fun y hy => by simp only [From] at hy ⊢; omega)
    · have h1 : ((n' : Int) == 1) = false := by rw [beq_eq_false_iff_ne]; omega
      obtain ⟨z0, z1, z2, z3, z4⟩ := cf_of HK7.out
      have HON := Lib.hid hone
      clear hone
      go_wp2_with (go_at_call 45; go_loud (refine (rabove_any nd lf bl fill inn (some ⟨b, o, none⟩) n' c' DL lus' lvl ((sl.length : Int) + 1) lev _ (by omega) (by omega) HRD7.out HND7.out hll hnn.2.1 hnn.2.2 (by omega) (by omega) (by omega) (Lib.hid HLE.out) (by omega)).mono ?_); rintro e w8 ⟨v, rfl, hlvl, hb8⟩; have HLV8 := Lib.hid hlvl; have HB8 := Lib.hid hb8; clear hlvl hb8)
      obtain ⟨lus8, lo, lb, ln⟩ := HLV8.out
      rw [List.length_map, List.length_range] at lo
      obtain ⟨A8, c8, rfl, hc8, hm8⟩ := own_val lo
      have hpp := pn_pos n' inn (by omega)
      have hup : ∀ y, y < w8.heap.size → ((DL y ∧ y < w7.heap.size) ∨ w7.heap.size ≤ y) → (y ≠ p ∧ out'.ownBlock ≠ some y ∧ y < w8.heap.size) := fun y hy h => by
        refine ⟨fun e => ?_, fun e => ?_, hy⟩
        · subst e
          rcases h with h | h
          · exact (HDL.out y h.1).1 rfl
          · have := HAB7.out.blk.lt; omega
        · rcases h with h | h
          · rcases HAT7.out with e' | ⟨z, hz, e'⟩
            · exact (HDL.out y h.1).2.1 (e' ▸ e)
            · rw [e'] at e
              injection e with e
              have := (HDL.out y h.1).2.2
              omega
          · have := (own_lt HAB7.out.own y e).2; omega
      have hrd8 : Rd w8 (fun y => y ≠ p ∧ out'.ownBlock ≠ some y ∧ y < w8.heap.size) 6 A8 (pn n' inn) lus8 := (rd_own_blk lo lb).and (by omega) hup
      have hnd8 : Nds w8 (fun y => y ≠ p ∧ out'.ownBlock ≠ some y ∧ y < w8.heap.size) lus8 ((List.range (pn n' inn)).map (aboveN inn (lev + 1) lvl ((sl.length : Int) + 1))) := Nds.next ln (Chg.refl Nil _) (fun _ _ _ h => h) hup
      go_roundg kk
      case measure => have := HG.out; omega
      case rel =>
        refine ⟨kk, lev + 1, _, out', us'', _, A8, pn n' inn, c8, lus8, _, rfl, rfl, HAB7.out.below HB8.out, hrd8, hnd8, Lib.hid (by simp), ⟨hpp, hc8, hm8⟩, fun y hy => hy, ?_, ?_, ?_, ?_, by omega, HB7.out.trans (HB8.out.mono HB7.out.size), HK7.out.below HB8.out⟩
        · have h := HLV2.out
          have hfit : ¬ nd - (sl.length : Int) < (n' : Int) := by
            intro hx
            rw [lv_full hx] at h
            simp at h
          rw [lv_step hfit (by have := HON.out; omega), ← pn_cast n' inn (by omega)] at h
          rw [HL7.out, Int.natCast_add]
          exact h
        · have h := HRU.out
          rw [rups, if_neg (by rw [hll.out]; exact HON.out), hll.out] at h
          exact h
        · intro s hs
          obtain ⟨i, _, rfl⟩ := List.mem_map.1 hs
          exact small_aboveN (by omega) HSL.out _ _ i
        · intro s hs
          rw [List.getElem?_map] at hs
          rcases h : (List.range (pn n' inn))[0]? with _ | x
          · rw [h] at hs; simp at hs
          · rw [h] at hs
            have hs : aboveN inn (lev + 1) lvl ((sl.length : Int) + 1) x = s := by simpa using hs
            subst hs
            rfl
end Go.Proofs.Ytgjphmlmndcaeaa
