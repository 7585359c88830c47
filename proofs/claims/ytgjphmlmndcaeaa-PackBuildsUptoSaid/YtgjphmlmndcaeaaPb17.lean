/- WALKS: the document's number of nodes; the live question; the law. WALKS: entries that may be, lists that rise; the program's text and the document's. WALKS: the document's packed tree. -/
import Derived.Test.YtgjphmlmndcaeaaPb16
import Derived.Deep.LoopGhost
import Derived.Test.YtgjphmlmndcaeaaPb04
import Derived.Test.YtgjphmlmndcaeaaPb08
set_option linter.unusedVariables false
set_option linter.unusedSimpArgs false
namespace Go.Proofs.Ytgjphmlmndcaeaa
open Go.RowKit

theorem rnodes_bad (nd lf inn fl bl n : Int) (w : World) (hc : ¬ cfgOk nd lf inn fl bl ∨ n < 0) :
    Calls Try.prog 9 #[.agg #[.int .i64 nd, .int .i64 lf, .int .i64 inn, .int .i64 fl, .int .i64 bl], .int .i64 n] w fun e w' => e = .returned (nodesV (0, 1)) ∧ Below w.heap.size w w' := by
  by_cases h : cfgOk nd lf inn fl bl
  · have hn : n < 0 := hc.resolve_left (by simpa using h)
    have he := cfgE_ok h
    go_enter Try.func9, Try.ntmps9
    go_wp2_with (go_at_call 11; refine (rconfig_any _ _ _ _ _ _).mono ?_; rintro e w' ⟨rfl, hb⟩)
    go_ret2
    exact ⟨rfl, ((Below.refl _ _).alloc (Nat.le_refl _) _).trans (hb.mono (by simp))⟩
  · have he := cfgE_bad h
    go_enter Try.func9, Try.ntmps9
    go_wp2_with (go_at_call 11; refine (rconfig_any _ _ _ _ _ _).mono ?_; rintro e w' ⟨rfl, hb⟩)
    go_ret2
    exact ⟨rfl, ((Below.refl _ _).alloc (Nat.le_refl _) _).trans (hb.mono (by simp))⟩

theorem rnodes_ok (nd lf inn fl bl n : Int) (w : World) (h : cfgOk nd lf inn fl bl) (hn : ¬ n < 0) (hn2 : n ≤ 9223372036854775807) :
    Calls Try.prog 9 #[.agg #[.int .i64 nd, .int .i64 lf, .int .i64 inn, .int .i64 fl, .int .i64 bl], .int .i64 n] w fun e w' => e = .returned (nodesV (nodesOf nd lf inn fl bl n)) ∧ Below w.heap.size w w' := by
  have he := cfgE_ok h
  have HN := Lib.hid (nodesOf_ok h hn)
  have hc : 1 ≤ nd ∧ nd ≤ 65536 ∧ 2 ≤ lf ∧ lf ≤ 64 ∧ 3 ≤ inn ∧ inn ≤ 64 ∧ 1 ≤ fl ∧ fl ≤ lf ∧ 1 ≤ bl ∧ bl ≤ 64 := h
  obtain ⟨c1, c2, c3, c4, c5, c6, c7, c8, c9, c10⟩ := hc
  have p1 := parts_pos (n := n) (most := fl) (by omega) (by omega)
  have p2 := parts_self (n := n) (most := fl) (by omega) (by omega)
  go_enter Try.func9, Try.ntmps9
  go_wp2_with (go_at_call 11; refine (rconfig_any _ _ _ _ _ _).mono ?_; rintro e w' ⟨rfl, hb⟩; have b1 : Below w.heap.size w w' := ((Below.refl _ _).alloc (Nat.le_refl _) _).trans (hb.mono (by simp)); have k0 : w'.cell? ⟨w.heap.size, 0, none⟩ = some (.int .i64 nd) := nbcell hb (by simp) (by simp); have k2 : w'.cell? ⟨w.heap.size, 2, none⟩ = some (.int .i64 inn) := nbcell hb (by simp) (by simp); have k3 : w'.cell? ⟨w.heap.size, 3, none⟩ = some (.int .i64 fl) := nbcell hb (by simp) (by simp); clear hb)
  go_wp2_with (go_at_call 31; refine (parts_any _ _ (by omega) (by omega) (by omega) (by omega) _).mono ?_; rintro e w' ⟨rfl, rfl⟩)
  go_loopg [7, 8] 32 (fun g m all wr => ∃ (a q : Int) (k : Nat), g = k + 1 ∧ all = .int .i64 a ∧ m = .int .i64 q ∧ 0 ≤ a ∧ a ≤ nd ∧ 1 ≤ q ∧ q ≤ 9223372036854775807 ∧ Enough q k ∧
      Hid (nodesOf nd lf inn fl bl n = lv nd inn (k + 1) q a) ∧ wr = w')
  case atStart => exact ⟨0, parts n fl, 31, rfl, rfl, rfl, by omega, by omega, by omega, by omega, enough_start _, HN, rfl⟩
  case round =>
    obtain ⟨a, q, k, hg, rfl, rfl, ha, ha2, hq, hq2, HE, HR, rfl⟩ := hrel
    have HG := Lib.hid hg
    clear hg HN
    by_cases hf : nd - a < q
    · have HF := Lib.hid (HR.out.trans (lv_full hf))
      go_wp2
      go_ret2
      exact ⟨by rw [HF.out]; rfl, b1⟩
    · by_cases h1 : q = 1
      · have HF := Lib.hid (HR.out.trans (lv_one hf h1))
        subst h1
        go_wp2
        go_ret2
        exact ⟨by rw [HF.out]; rfl, b1⟩
      · obtain ⟨j, hj, HE2⟩ := enough_step c5 ha c2 hq h1 hf HE
        have HF := Lib.hid (HR.out.trans (lv_step hf h1))
        have HJ := Lib.hid hj
        clear hj
        have hb1 : (q == 1) = false := by simpa using h1
        have p3 := parts_pos (n := q) (most := inn) (by omega) (by omega)
        have p4 := parts_self (n := q) (most := inn) (by omega) (by omega)
        go_wp2_with (go_at_call 31; refine (parts_any _ _ (by omega) (by omega) (by omega) (by omega) _).mono ?_; rintro e w' ⟨rfl, rfl⟩)
        go_roundg k
        case measure => have := HG.out; omega
        case rel => exact ⟨a + q, parts q inn, j, HJ.out, rfl, rfl, by omega, by omega, by omega, by omega, HE2, by have := HF.out; rw [HJ.out] at this; exact this, rfl⟩
end Go.Proofs.Ytgjphmlmndcaeaa

namespace Go.Proofs.Ytgjphmlmndcaeaa
open Go.RowKit
open Go.Lib (compareBytes)

theorem check_any (A B : Option Addr) (n m c d : Nat) (x : Ent) (hn : n = x.1.length) (hm : m = x.2.length) (w : World) :
    Calls Try.prog 35 #[.agg #[.slice A n c, .slice B m d]] w fun e w' => e = .returned (.int .i64 (entE x)) ∧ Below w.heap.size w w' := by
  have HN := Lib.hid hn
  have HM := Lib.hid hm
  have HE := Lib.hid (entE_max x)
  clear hn hm
  go_enter Try.func35, Try.ntmps35
  go_wp2
  go_quiet (first | (go_at_call 64; exact quiet_left (key_any _ _ _ x.1 HN.out _)) | (go_at_call 65; exact quiet_left (value_any _ _ _ x.2 HM.out _)))
  go_wp2
  go_ret
  refine ⟨ret_int (by rw [HE.out]), below_drewN ((Below.refl _ _).alloc (Nat.le_refl _) _) _⟩

theorem rcheck_any (A B : Option Addr) (n m c d : Nat) (x : Ent) (hn : n = x.1.length) (hm : m = x.2.length) (w : World) :
    Calls Try.prog 39 #[.agg #[.slice A n c, .slice B m d]] w fun e w' => e = .returned (.int .i64 (entE x)) ∧ Below w.heap.size w w' := by
  have HN := Lib.hid hn
  have HM := Lib.hid hm
  clear hn hm
  rcases keyE_cases x.1 with hk | hk
  · have HE := Lib.hid (entE_val hk)
    have HK := Lib.hid hk
    clear hk
    go_enter Try.func39, Try.ntmps39
    go_wp2_with (first | (go_at_call 68; refine (rkey_any _ _ _ x.1 HN.out _).mono ?_; rintro e w' ⟨rfl, rfl⟩; rw [HK.out]) | (go_at_call 69; refine (rvalue_any _ _ _ x.2 HM.out _).mono ?_; rintro e w' ⟨rfl, rfl⟩))
    go_ret
    exact ⟨ret_int (by rw [HE.out]), (Below.refl _ _).alloc (Nat.le_refl _) _⟩
  · have HE := Lib.hid (entE_key (e := x) (by omega))
    have HK := Lib.hid hk
    clear hk
    go_enter Try.func39, Try.ntmps39
    go_wp2_with (first | (go_at_call 68; refine (rkey_any _ _ _ x.1 HN.out _).mono ?_; rintro e w' ⟨rfl, rfl⟩; rw [HK.out]))
    go_ret
    exact ⟨ret_int (by rw [HE.out, HK.out]), (Below.refl _ _).alloc (Nat.le_refl _) _⟩

/-- the last key that was met -/
def LastIs (w : World) (F : Nat → Prop) (A : Option Addr) (n : Nat) (l : List Ent) (k : Nat) : Prop :=
  0 < k → ∃ e : Ent, l[k - 1]? = some e ∧ Hid (n = e.1.length) ∧ Rd w F 1 A n (bvs e.1)

theorem sorted_any (A : Option Addr) (n c : Nat) (F : Nat → Prop) (l : List Ent) (w : World) (h : Ents w F A n l) (hn2 : n ≤ 1152921504606) :
    Calls Try.prog 41 #[.slice A n c] w fun e w' => e = .returned (.tuple #[.int .i64 (sortedOf l).1, .int .i64 (sortedOf l).2]) ∧ Below w.heap.size w w' := by
  have HH := Lib.hid h
  have HL := Lib.hid h.len
  clear h
  go_enter Try.func41, Try.ntmps41
  go_wp2
  go_loopg [4, 10] n (fun g last i wr => ∃ (k : Nat) (Al : Option Addr) (nl cl : Nat), g = n - k ∧ k ≤ n ∧ i = .int .i64 k ∧ last = .slice Al nl cl ∧ LastIs w F Al nl l k ∧ Hid (∀ j, j < k → badAt l j = 0) ∧ Below w.heap.size w wr)
  case atStart => exact ⟨0, none, 0, 0, by omega, by omega, rfl, rfl, fun h => absurd h (by omega), fun j hj => absurd hj (by omega), Below.refl _ _⟩
  case round =>
    obtain ⟨k, Al, nl, cl, hg, hk, rfl, rfl, hlast, HB, hbl⟩ := hrel
    have HG := Lib.hid hg
    have HLA := Lib.hid hlast
    clear hg hlast
    by_cases hlt : k < n
    · obtain ⟨b, o, Ak, nk, ck, Av, nv, cv, key, val, rfl, _, he, c1, c2, h1, h2, h3, h4, h5, h6, h7, h8⟩ := HH.out.at_ hlt
      have d1 := bkeep hbl c1
      have d2 := bkeep hbl c2
      have HE := Lib.hid he
      have H4 := Lib.hid h4
      have H8 := Lib.hid h8
      clear c1 c2 he h4 h8
      rcases entE_cases (key, val) with hx | hx
      · have HX := Lib.hid hx
        clear hx
        by_cases hk0 : k = 0
        · subst hk0
          simp only [Nat.zero_mul, Nat.add_zero] at d1 d2
          have HB0 := Lib.hid (badAt_first HE.out HX.out)
          go_wp2_with (first | (go_at_call 35; refine (check_any _ _ _ _ _ _ (key, val) h3.out h7.out _).mono ?_; rintro e w1 ⟨rfl, hb1⟩; rw [HX.out]; have kk := bkeep (v := .slice Ak nk ck) (b := wr.heap.size) (o := 0) hb1 (by simp); have hbl1 : Below w.heap.size w w1 := (hbl.alloc hbl.size _).trans (hb1.mono (by have := hbl.size; simp; omega))))
          go_roundg (n - 1)
          case measure => have := HG.out; omega
          case rel => exact ⟨1, Ak, nk, ck, rfl, by omega, rfl, rfl, fun _ => ⟨(key, val), HE.out, h3, H4.out⟩, Lib.hid (fun j hj => (show j = 0 by omega) ▸ HB0.out), hbl1⟩
        · obtain ⟨d, hd, hnl, hrd⟩ := HLA.out (by omega)
          have HD := Lib.hid hd
          have HRD := Lib.hid hrd
          have kp : 0 < k := by omega
          clear hd hrd
          by_cases hc : 0 ≤ compareBytes d.1 key
          · have HB0 := Lib.hid (badAt_order HE.out HD.out HX.out kp hc)
            have HR := Lib.hid (sorted_at (l := l) (i := k) (by have := HL.out; omega) HB.out (by rw [HB0.out]; decide))
            go_wp2_with (first | (go_at_call 35; refine (check_any _ _ _ _ _ _ (key, val) h3.out h7.out _).mono ?_; rintro e w1 ⟨rfl, hb1⟩; rw [HX.out]; have kk := bkeep (v := .slice Ak nk ck) (b := wr.heap.size) (o := 0) hb1 (by simp); have hbl1 : Below w.heap.size w w1 := (hbl.alloc hbl.size _).trans (hb1.mono (by have := hbl.size; simp; omega))) | (go_at_call 36; refine (compare_any _ _ _ _ _ _ F F d.1 key _ (HRD.out.below hbl1) hnl.out (H4.out.below hbl1) h3.out).mono ?_; rintro e w' ⟨rfl, rfl⟩))
            go_ret2
            rw [HR.out, HB0.out]
            exact ⟨rfl, hbl1⟩
          · have HB0 := Lib.hid (badAt_fine HE.out HD.out HX.out (by show compareBytes d.1 key < 0; omega))
            go_wp2_with (first | (go_at_call 35; refine (check_any _ _ _ _ _ _ (key, val) h3.out h7.out _).mono ?_; rintro e w1 ⟨rfl, hb1⟩; rw [HX.out]; have kk := bkeep (v := .slice Ak nk ck) (b := wr.heap.size) (o := 0) hb1 (by simp); have hbl1 : Below w.heap.size w w1 := (hbl.alloc hbl.size _).trans (hb1.mono (by have := hbl.size; simp; omega))) | (go_at_call 36; refine (compare_any _ _ _ _ _ _ F F d.1 key _ (HRD.out.below hbl1) hnl.out (H4.out.below hbl1) h3.out).mono ?_; rintro e w' ⟨rfl, rfl⟩))
            go_roundg (n - (k + 1))
            case measure => have := HG.out; omega
            case rel => exact ⟨k + 1, Ak, nk, ck, rfl, by omega, by go_num, rfl, fun _ => ⟨(key, val), HE.out, h3, H4.out⟩, Lib.hid (fun j hj => by
              rcases Nat.lt_or_ge j k with h | h
              · exact HB.out j h
              · obtain rfl : j = k := by omega
                exact HB0.out), hbl1⟩
      · have HX := Lib.hid hx
        have HB0 := Lib.hid (badAt_bad HE.out (by rw [hx]; decide))
        have HR := Lib.hid (sorted_at (l := l) (i := k) (by have := HL.out; omega) HB.out (by rw [HB0.out, hx]; decide))
        clear hx
        go_wp2_with (first | (go_at_call 35; refine (check_any _ _ _ _ _ _ (key, val) h3.out h7.out _).mono ?_; rintro e w1 ⟨rfl, hb1⟩; rw [HX.out]; have kk := bkeep (v := .slice Ak nk ck) (b := wr.heap.size) (o := 0) hb1 (by simp); have hbl1 : Below w.heap.size w w1 := (hbl.alloc hbl.size _).trans (hb1.mono (by have := hbl.size; simp; omega))))
        go_ret2
        rw [HR.out, HB0.out, HX.out]
        exact ⟨rfl, hbl1⟩
    · have HR := Lib.hid (sorted_ok (l := l) (fun j hj => HB.out j (by have := HL.out; omega)))
      go_wp2
      go_ret2
      rw [HR.out]
      exact ⟨rfl, hbl⟩

theorem rsorted_any (A : Option Addr) (n c : Nat) (F : Nat → Prop) (l : List Ent) (w : World) (h : Ents w F A n l) (hn2 : n ≤ 1152921504606) (hsm : ∀ (i : Nat) (e : Ent), l[i]? = some e → e.1.length ≤ 1152921504606) :
    Calls Try.prog 23 #[.slice A n c] w fun e w' => e = .returned (.tuple #[.int .i64 (sortedOf l).1, .int .i64 (sortedOf l).2]) ∧ Below w.heap.size w w' := by
  have HH := Lib.hid h
  have HL := Lib.hid h.len
  have HS := Lib.hid hsm
  clear h hsm
  go_enter Try.func23, Try.ntmps23
  go_wp2
  go_loopg [4] n (fun g i wr => ∃ (k : Nat), g = n - k ∧ k ≤ n ∧ i = .int .i64 k ∧ Hid (∀ j, j < k → badAt l j = 0) ∧ Below w.heap.size w wr)
  case atStart => exact ⟨0, by omega, by omega, rfl, fun j hj => absurd hj (by omega), Below.refl _ _⟩
  case round =>
    obtain ⟨k, hg, hk, rfl, HB, hbl⟩ := hrel
    have HG := Lib.hid hg
    clear hg
    by_cases hlt : k < n
    · obtain ⟨b, o, Ak, nk, ck, Av, nv, cv, key, val, rfl, _, he, c1, c2, h1, h2, h3, h4, h5, h6, h7, h8⟩ := HH.out.at_ hlt
      have d1 := bkeep hbl c1
      have d2 := bkeep hbl c2
      have HE := Lib.hid he
      have H4 := Lib.hid h4
      have H8 := Lib.hid h8
      clear c1 c2 he h4 h8
      rcases entE_cases (key, val) with hx | hx
      · have HX := Lib.hid hx
        clear hx
        by_cases hk0 : k = 0
        · subst hk0
          simp only [Nat.zero_mul, Nat.add_zero] at d1 d2
          have HB0 := Lib.hid (badAt_first HE.out HX.out)
          go_wp2_with (first | (go_at_call 39; refine (rcheck_any _ _ _ _ _ _ (key, val) h3.out h7.out _).mono ?_; rintro e w1 ⟨rfl, hb1⟩; rw [HX.out]; have hbl1 : Below w.heap.size w w1 := hbl.trans (hb1.mono hbl.size)))
          go_quiet (fail)
          go_wp2
          go_roundg (n - 1)
          case measure => have := HG.out; omega
          case rel => exact ⟨1, rfl, by omega, rfl, Lib.hid (fun j hj => (show j = 0 by omega) ▸ HB0.out), below_drewN hbl1 _⟩
        · have hlt1 : k - 1 < n := by omega
          obtain ⟨b', o', Bk, mk, dk, Bv, mv, dv, key', val', hA, _, he', c1', c2', h1', h2', h3', h4', h5', h6', h7', h8'⟩ := HH.out.at_ hlt1
          obtain ⟨rfl, rfl⟩ : b' = b ∧ o' = o := by injection hA with hA; injection hA with hA hB; exact ⟨hA.symm, hB.symm⟩
          have d1' := bkeep hbl c1'
          have HD := Lib.hid he'
          have H4' := Lib.hid h4'
          have kp : 0 < k := by omega
          have kp2 : (0 : Int) < (k : Int) := by omega
          clear c1' c2' he' h4' h8' hA
          by_cases hc : 0 ≤ compareBytes key' key
          · have HB0 := Lib.hid (badAt_order HE.out HD.out HX.out kp hc)
            have HR := Lib.hid (sorted_at (l := l) (i := k) (by have := HL.out; omega) HB.out (by rw [HB0.out]; decide))
            have e1 := IntWalk.i64_in ((k : Int) - 1) (by omega)
            have e2 : 0 ≤ (k : Int) - 1 := by omega
            have e3 : ((k : Int) - 1).toNat = k - 1 := by omega
            have e4 : (k : Int) - 1 < (n : Int) := by omega
            have HSM := Lib.hid (HS.out (k - 1) _ HD.out)
            go_wp2_with (first | (go_at_call 39; refine (rcheck_any _ _ _ _ _ _ (key, val) h3.out h7.out _).mono ?_; rintro e w1 ⟨rfl, hb1⟩; rw [HX.out]; have hbl1 : Below w.heap.size w w1 := hbl.trans (hb1.mono hbl.size); have q1 := bkeep hb1 d1; have q2 := bkeep hb1 d1'))
            go_quiet ((go_at_call 40; exact Calls.quiet_of (rcompare_any _ _ _ _ _ _ F F key' key _ (((H4'.out.below hbl).below hb1).drewN _) h3'.out (((H4.out.below hbl).below hb1).drewN _) h3.out (by have := HSM.out; have := h3'.out; omega))))
            clear e1 e3
            go_wp2
            go_ret2
            rw [HR.out, HB0.out]
            exact ⟨rfl, below_drewN hbl1 _⟩
          · have HB0 := Lib.hid (badAt_fine HE.out HD.out HX.out (by show compareBytes key' key < 0; omega))
            have e1 := IntWalk.i64_in ((k : Int) - 1) (by omega)
            have e2 : 0 ≤ (k : Int) - 1 := by omega
            have e3 : ((k : Int) - 1).toNat = k - 1 := by omega
            have e4 : (k : Int) - 1 < (n : Int) := by omega
            have HSM := Lib.hid (HS.out (k - 1) _ HD.out)
            go_wp2_with (first | (go_at_call 39; refine (rcheck_any _ _ _ _ _ _ (key, val) h3.out h7.out _).mono ?_; rintro e w1 ⟨rfl, hb1⟩; rw [HX.out]; have hbl1 : Below w.heap.size w w1 := hbl.trans (hb1.mono hbl.size); have q1 := bkeep hb1 d1; have q2 := bkeep hb1 d1'))
            go_quiet ((go_at_call 40; exact Calls.quiet_of (rcompare_any _ _ _ _ _ _ F F key' key _ (((H4'.out.below hbl).below hb1).drewN _) h3'.out (((H4.out.below hbl).below hb1).drewN _) h3.out (by have := HSM.out; have := h3'.out; omega))))
            clear e1 e3
            go_wp2
            go_roundg (n - (k + 1))
            case measure => have := HG.out; omega
            case rel => exact ⟨k + 1, rfl, by omega, by go_num, Lib.hid (fun j hj => by
              rcases Nat.lt_or_ge j k with h | h
              · exact HB.out j h
              · obtain rfl : j = k := by omega
                exact HB0.out), below_drewN hbl1 _⟩
      · have HX := Lib.hid hx
        have HB0 := Lib.hid (badAt_bad HE.out (by rw [hx]; decide))
        have HR := Lib.hid (sorted_at (l := l) (i := k) (by have := HL.out; omega) HB.out (by rw [HB0.out, hx]; decide))
        clear hx
        go_wp2_with (first | (go_at_call 39; refine (rcheck_any _ _ _ _ _ _ (key, val) h3.out h7.out _).mono ?_; rintro e w1 ⟨rfl, hb1⟩; rw [HX.out]; have hbl1 : Below w.heap.size w w1 := hbl.trans (hb1.mono hbl.size)))
        go_ret2
        rw [HR.out, HB0.out, HX.out]
        exact ⟨rfl, hbl1⟩
    · have HR := Lib.hid (sorted_ok (l := l) (fun j hj => HB.out j (by have := HL.out; omega)))
      go_wp2
      go_ret2
      rw [HR.out]
      exact ⟨rfl, hbl⟩
end Go.Proofs.Ytgjphmlmndcaeaa

namespace Go.Proofs.Ytgjphmlmndcaeaa
open Go.RowKit

/-- the document's arena of one slot -/
def RNewArena (w : World) (nodes : Int) (e : Ending) (w' : World) : Prop :=
  ∃ p g, e = .returned (.tuple #[.pointer (some ⟨p, 0, none⟩), .int .i64 0]) ∧ w.heap.size ≤ p ∧ w.heap.size ≤ g ∧ Blk w' p 83 #[.int .i64 nodes, .slice (some ⟨g, 0, none⟩) 1 1, .int .i64 1] ∧ Blk w' g 97 #[.int .u64 0, .int .i64 0, .slice none 0 0, .int .i64 0, .slice none 0 0, .slice none 0 0, .slice none 0 0] ∧ Below w.heap.size w w'
theorem rnew_ok (nodes : Int) (h1 : 1 ≤ nodes) (h2 : nodes ≤ 65536) (w : World) : Calls Try.prog 42 #[.int .i64 nodes] w (RNewArena w nodes) := by
  go_enter Try.func42, Try.ntmps42
  go_wp2
  go_ret2
  refine ⟨_, w.heap.size, rfl, ?_, Nat.le_refl _, ?_, ?_, ?_⟩
  · omega
  · have := Blk.new (w.alloc (.cells #[.int .u64 0, .int .i64 0, .slice none 0 0, .int .i64 0, .slice none 0 0, .slice none 0 0, .slice none 0 0] 97)) 83 #[.int .i64 nodes, .slice (some ⟨w.heap.size, 0, none⟩) 1 1, .int .i64 1]
    simpa using this
  · exact (Blk.new _ _ _).alloc _
  · exact ((Below.refl _ _).alloc (Nat.le_refl _) _).alloc (by simp) _
theorem small_leafN {l : List Ent} {fill : Nat} (hf : fill ≤ 64) (hs : ∀ e ∈ l, e.1.length ≤ 1152921504606 ∧ e.2.length ≤ 1152921504606) (i : Nat) : Small (leafN fill l i) :=
  small_part hs _ _ (by omega) _ _ _ (hiAt_small (fun e he => (hs e he).1) i)
theorem small_aboveN {low : List Nd} {inn : Nat} (hf : inn ≤ 64) (hs : ∀ s ∈ low, Small s) (lev first : Int) (i : Nat) : Small (aboveN inn lev low first i) := by
  have hl : (npart inn low i).length ≤ inn := by unfold npart; rw [List.length_take]; exact Nat.min_le_left _ _
  have hmem : ∀ e ∈ npart inn low i, e ∈ low := fun e he => List.mem_of_mem_drop (List.mem_of_mem_take he)
  refine ⟨?_, ?_, by simp [aboveN], ?_, fun t ht => ?_, by simp [aboveN]⟩
  · show ((npart inn low i).getLastD Nd.zero).high.length ≤ _
    rcases List.eq_nil_or_concat (npart inn low i) with e | ⟨L, b, e⟩
    · rw [e]; simp [Nd.zero]
    · have : b ∈ npart inn low i := by rw [e]; simp
      rw [e]
      simpa using (hs b (hmem b this)).1
  · show ((npart inn low i).dropLast.map Nd.high).length ≤ _; rw [List.length_map, List.length_dropLast]; omega
  · show ((List.range (npart inn low i).length).map _).length ≤ _; rw [List.length_map, List.length_range]; omega
  · obtain ⟨e, he, rfl⟩ := List.mem_map.1 ht; exact (hs e (hmem e (List.dropLast_subset _ he))).1

/-- the five cells of a configuration -/
def Cf (w : World) (g : Nat) (nd lf inn fl bl : Int) : Prop := w.cell? ⟨g, 0, none⟩ = some (.int .i64 nd) ∧ w.cell? ⟨g, 1, none⟩ = some (.int .i64 lf) ∧ w.cell? ⟨g, 2, none⟩ = some (.int .i64 inn) ∧ w.cell? ⟨g, 3, none⟩ = some (.int .i64 fl) ∧ w.cell? ⟨g, 4, none⟩ = some (.int .i64 bl)
theorem cf_of {w : World} {g : Nat} {nd lf inn fl bl : Int} (h : Blk w g 23 #[.int .i64 nd, .int .i64 lf, .int .i64 inn, .int .i64 fl, .int .i64 bl]) : Cf w g nd lf inn fl bl := ⟨by rw [h.cell]; rfl, by rw [h.cell]; rfl, by rw [h.cell]; rfl, by rw [h.cell]; rfl, by rw [h.cell]; rfl⟩
theorem rbuild_cfg (nd lf inn fl bl : Int) (A : Option Addr) (n c : Nat) (w : World) (hc : ¬ cfgOk nd lf inn fl bl) :
    Calls Try.prog 21 #[.agg #[.int .i64 nd, .int .i64 lf, .int .i64 inn, .int .i64 fl, .int .i64 bl], .slice A n c] w fun e w' => e = .returned (.tuple #[.pointer none, .int .i64 1, .int .i64 0]) ∧ Below w.heap.size w w' := by
  have he := cfgE_bad hc
  have HC := Lib.hid he
  clear he hc
  go_enter Try.func21, Try.ntmps21
  go_wp2_with (go_at_call 11; refine (rconfig_any nd lf inn fl bl _).mono ?_; rintro e w1 ⟨rfl, hb1⟩; rw [HC.out]; have HB1 := Lib.hid hb1; clear hb1)
  go_ret3
  exact ⟨rfl, ((Below.refl _ _).alloc (Nat.le_refl _) _).trans (HB1.out.mono (by simp))⟩
set_option maxRecDepth 100000 in
theorem rbuild_srt (nd lf inn fl bl : Int) (A : Option Addr) (n c : Nat) (F : Nat → Prop) (l : List Ent) (w : World) (hE : Ents w F A n l) (hn : n ≤ 1152921504606) (hsm : ∀ e ∈ l, e.1.length ≤ 1152921504606 ∧ e.2.length ≤ 1152921504606) (hc : cfgOk nd lf inn fl bl) (hs : (sortedOf l).2 ≠ 0) :
    Calls Try.prog 21 #[.agg #[.int .i64 nd, .int .i64 lf, .int .i64 inn, .int .i64 fl, .int .i64 bl], .slice A n c] w fun e w' => e = .returned (.tuple #[.pointer none, .int .i64 (sortedOf l).2, .int .i64 (sortedOf l).1]) ∧ Below w.heap.size w w' := by
  have he := cfgE_ok hc
  have HC := Lib.hid he
  have HE := Lib.hid hE
  have HS := Lib.hid hsm
  obtain ⟨si, hsi⟩ : ∃ x, x = (sortedOf l).1 := ⟨_, rfl⟩
  obtain ⟨se, hse⟩ : ∃ x, x = (sortedOf l).2 := ⟨_, rfl⟩
  rw [← hsi, ← hse]
  rw [← hse] at hs
  have hs' : (se == 0) = false := by rw [beq_eq_false_iff_ne]; exact hs
  have HSI := Lib.hid hsi
  have HSE := Lib.hid hse
  clear he hc hE hsm hsi hse hs
  go_enter Try.func21, Try.ntmps21
  go_wp2_with (first | (go_at_call 11; refine (rconfig_any nd lf inn fl bl _).mono ?_; rintro e w1 ⟨rfl, hb1⟩; rw [HC.out]; have HB1 : Hid (Below w.heap.size w w1) := Lib.hid (((Below.refl _ _).alloc (Nat.le_refl _) _).trans (hb1.mono (by simp))); clear hb1) | (go_at_call 23; refine (rsorted_any A n c F l _ (HE.out.below HB1.out) hn (fun i e he => (HS.out e (List.mem_of_getElem? he)).1)).mono ?_; rintro e w2 ⟨rfl, hb2⟩; rw [← HSI.out, ← HSE.out]; have HB2 := Lib.hid hb2; clear hb2))
  go_ret3
  exact ⟨rfl, HB1.out.trans (HB2.out.mono HB1.out.size)⟩
set_option maxRecDepth 100000 in
theorem rbuild_full (nd lf inn fl bl : Int) (A : Option Addr) (n c : Nat) (F : Nat → Prop) (l : List Ent) (w : World) (hE : Ents w F A n l) (hn : n ≤ 1152921504606) (hsm : ∀ e ∈ l, e.1.length ≤ 1152921504606 ∧ e.2.length ≤ 1152921504606) (hc : cfgOk nd lf inn fl bl) (hs : sortedOf l = (0, 0)) (hf : (nodesOf nd lf inn fl bl n).2 ≠ 0) :
    Calls Try.prog 21 #[.agg #[.int .i64 nd, .int .i64 lf, .int .i64 inn, .int .i64 fl, .int .i64 bl], .slice A n c] w fun e w' => e = .returned (.tuple #[.pointer none, .int .i64 (nodesOf nd lf inn fl bl n).2, .int .i64 0]) ∧ Below w.heap.size w w' := by
  have he := cfgE_ok hc
  have HC := Lib.hid he
  have HCF := Lib.hid hc
  have HE := Lib.hid hE
  have HS := Lib.hid hsm
  obtain ⟨ni, hni⟩ : ∃ x, x = nodesOf nd lf inn fl bl n := ⟨_, rfl⟩
  rw [← hni]
  rw [← hni] at hf
  have hf' : (ni.2 == 0) = false := by rw [beq_eq_false_iff_ne]; exact hf
  have HNI := Lib.hid hni
  have HSS := Lib.hid hs
  clear he hc hE hsm hni hf hs
  go_enter Try.func21, Try.ntmps21
  go_wp2_with (first | (go_at_call 11; refine (rconfig_any nd lf inn fl bl _).mono ?_; rintro e w1 ⟨rfl, hb1⟩; rw [HC.out]; have HB1 : Hid (Below w.heap.size w w1) := Lib.hid (((Below.refl _ _).alloc (Nat.le_refl _) _).trans (hb1.mono (by simp))); have HK1 := Lib.hid ((Blk.new w 23 #[.int .i64 nd, .int .i64 lf, .int .i64 inn, .int .i64 fl, .int .i64 bl]).below hb1); clear hb1) | (go_at_call 23; refine (rsorted_any A n c F l _ (HE.out.below HB1.out) hn (fun i e he => (HS.out e (List.mem_of_getElem? he)).1)).mono ?_; rintro e w2 ⟨rfl, hb2⟩; rw [HSS.out]; have HB2 := Lib.hid hb2; obtain ⟨z0, z1, z2, z3, z4⟩ := cf_of (HK1.out.below hb2); clear hb2) | (go_at_call 9; refine (rnodes_ok nd lf inn fl bl n _ HCF.out (by omega) (by omega)).mono ?_; rintro e w3 ⟨rfl, hb3⟩; rw [← HNI.out]; unfold nodesV; have HB3 := Lib.hid hb3; clear hb3))
  go_ret3
  exact ⟨rfl, (HB1.out.trans (HB2.out.mono HB1.out.size)).trans (HB3.out.mono (Nat.le_trans HB1.out.size HB2.out.size))⟩
theorem build_cfg (nd lf inn fl bl : Int) (A : Option Addr) (n c : Nat) (w : World) (hc : ¬ cfgOk nd lf inn fl bl) :
    Calls Try.prog 20 #[.agg #[.int .i64 nd, .int .i64 lf, .int .i64 inn, .int .i64 fl, .int .i64 bl], .slice A n c] w fun e w' => e = .returned (.tuple #[.pointer none, .int .i64 1, .int .i64 0]) ∧ Below w.heap.size w w' := by
  have he := cfgE_bad hc
  have HC := Lib.hid he
  clear he hc
  go_enter Try.func20, Try.ntmps20
  go_wp2_with (go_at_call 30; refine (config_any nd lf inn fl bl _).mono ?_; rintro e w1 ⟨rfl, hb1⟩; rw [HC.out]; have HB1 := Lib.hid hb1; clear hb1)
  go_ret3
  exact ⟨rfl, ((Below.refl _ _).alloc (Nat.le_refl _) _).trans (HB1.out.mono (by simp))⟩
set_option maxRecDepth 100000 in
theorem build_srt (nd lf inn fl bl : Int) (A : Option Addr) (n c : Nat) (F : Nat → Prop) (l : List Ent) (w : World) (hE : Ents w F A n l) (hn : n ≤ 1152921504606) (hsm : ∀ e ∈ l, e.1.length ≤ 1152921504606 ∧ e.2.length ≤ 1152921504606) (hc : cfgOk nd lf inn fl bl) (hs : (sortedOf l).2 ≠ 0) :
    Calls Try.prog 20 #[.agg #[.int .i64 nd, .int .i64 lf, .int .i64 inn, .int .i64 fl, .int .i64 bl], .slice A n c] w fun e w' => e = .returned (.tuple #[.pointer none, .int .i64 (sortedOf l).2, .int .i64 (sortedOf l).1]) ∧ Below w.heap.size w w' := by
  have he := cfgE_ok hc
  have HC := Lib.hid he
  have HE := Lib.hid hE
  have HS := Lib.hid hsm
  obtain ⟨si, hsi⟩ : ∃ x, x = (sortedOf l).1 := ⟨_, rfl⟩
  obtain ⟨se, hse⟩ : ∃ x, x = (sortedOf l).2 := ⟨_, rfl⟩
  rw [← hsi, ← hse]
  rw [← hse] at hs
  have hs' : (se == 0) = false := by rw [beq_eq_false_iff_ne]; exact hs
  have HSI := Lib.hid hsi
  have HSE := Lib.hid hse
  clear he hc hE hsm hsi hse hs
  go_enter Try.func20, Try.ntmps20
  go_wp2_with (first | (go_at_call 30; refine (config_any nd lf inn fl bl _).mono ?_; rintro e w1 ⟨rfl, hb1⟩; rw [HC.out]; have HB1 : Hid (Below w.heap.size w w1) := Lib.hid (((Below.refl _ _).alloc (Nat.le_refl _) _).trans (hb1.mono (by simp))); clear hb1) | (go_at_call 41; refine (sorted_any A n c F l _ (HE.out.below HB1.out) hn).mono ?_; rintro e w2 ⟨rfl, hb2⟩; rw [← HSI.out, ← HSE.out]; have HB2 := Lib.hid hb2; clear hb2))
  go_ret3
  exact ⟨rfl, HB1.out.trans (HB2.out.mono HB1.out.size)⟩
set_option maxRecDepth 100000 in
theorem build_full (nd lf inn fl bl : Int) (A : Option Addr) (n c : Nat) (F : Nat → Prop) (l : List Ent) (w : World) (hE : Ents w F A n l) (hn : n ≤ 1152921504606) (hsm : ∀ e ∈ l, e.1.length ≤ 1152921504606 ∧ e.2.length ≤ 1152921504606) (hc : cfgOk nd lf inn fl bl) (hs : sortedOf l = (0, 0)) (hf : (nodesOf nd lf inn fl bl n).2 ≠ 0) :
    Calls Try.prog 20 #[.agg #[.int .i64 nd, .int .i64 lf, .int .i64 inn, .int .i64 fl, .int .i64 bl], .slice A n c] w fun e w' => e = .returned (.tuple #[.pointer none, .int .i64 (nodesOf nd lf inn fl bl n).2, .int .i64 0]) ∧ Below w.heap.size w w' := by
  have he := cfgE_ok hc
  have HC := Lib.hid he
  have HCF := Lib.hid hc
  have HE := Lib.hid hE
  have HS := Lib.hid hsm
  obtain ⟨ni, hni⟩ : ∃ x, x = nodesOf nd lf inn fl bl n := ⟨_, rfl⟩
  rw [← hni]
  rw [← hni] at hf
  have hf' : (ni.2 == 0) = false := by rw [beq_eq_false_iff_ne]; exact hf
  have HNI := Lib.hid hni
  have HSS := Lib.hid hs
  clear he hc hE hsm hni hf hs
  go_enter Try.func20, Try.ntmps20
  go_wp2_with (first | (go_at_call 30; refine (config_any nd lf inn fl bl _).mono ?_; rintro e w1 ⟨rfl, hb1⟩; rw [HC.out]; have HB1 : Hid (Below w.heap.size w w1) := Lib.hid (((Below.refl _ _).alloc (Nat.le_refl _) _).trans (hb1.mono (by simp))); have HK1 := Lib.hid ((Blk.new w 23 #[.int .i64 nd, .int .i64 lf, .int .i64 inn, .int .i64 fl, .int .i64 bl]).below hb1); clear hb1) | (go_at_call 41; refine (sorted_any A n c F l _ (HE.out.below HB1.out) hn).mono ?_; rintro e w2 ⟨rfl, hb2⟩; rw [HSS.out]; have HB2 := Lib.hid hb2; obtain ⟨z0, z1, z2, z3, z4⟩ := cf_of (HK1.out.below hb2); clear hb2) | (go_at_call 8; refine (nodes_ok nd lf inn fl bl n _ HCF.out (by omega) (by omega)).mono ?_; rintro e w3 ⟨rfl, hb3⟩; rw [← HNI.out]; unfold nodesV; have HB3 := Lib.hid hb3; clear hb3))
  go_ret3
  exact ⟨rfl, (HB1.out.trans (HB2.out.mono HB1.out.size)).trans (HB3.out.mono (Nat.le_trans HB1.out.size HB2.out.size))⟩
end Go.Proofs.Ytgjphmlmndcaeaa
