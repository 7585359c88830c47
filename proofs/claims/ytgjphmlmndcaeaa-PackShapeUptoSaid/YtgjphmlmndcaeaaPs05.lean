/- WALKS: keys, values, entries; the program's text and the document's. WALKS: texts in new memory; the least text between two. WALKS: lists of texts in new memory; the program's and the document's. WALKS: a node in new memory; the program's text and the document's. -/
import Derived.Test.YtgjphmlmndcaeaaPs01
import Derived.Test.YtgjphmlmndcaeaaPs02
import Derived.Test.YtgjphmlmndcaeaaPs04
import Derived.Deep.QuietTactic
import Derived.BigQuiet
import Derived.LoopTactic
import Derived.Lib.MinMax
import Derived.Deep.RegionHeld3
import Derived.Deep.LoopGhost
import Derived.Lib.SliceRun
import Derived.Deep.OwnRows
import Derived.Test.YtgjphmlmndcaeaaPs03
import Derived.Deep.RegionWith
import Derived.Deep.CutRange
import Derived.Deep.DeepCutAuto
set_option linter.unusedVariables false
set_option linter.unusedSimpArgs false
namespace Go.Proofs.Ytgjphmlmndcaeaa
open Go.RowKit
open Go.Lib (compareBytes)

theorem ret_int {k : IntKind} {a b : Int} (h : a = b) : Ending.returned (.int k a) = .returned (.int k b) := by rw [h]

theorem key_any (A : Option Addr) (n c : Nat) (k : List UInt8) (hn : n = k.length) (w : World) :
    Calls Try.prog 64 #[.slice A n c] w fun e w' => e = .returned (.int .i64 (keyE k)) ∧ w = w' := by
  have HN := Lib.hid hn
  clear hn
  by_cases h0 : n = 0
  · have hb : ((n : Int) == 0) = true := by simpa using h0
    have HZ := Lib.hid h0
    clear h0
    go_enter Try.func64, Try.ntmps64
    go_wp2
    go_ret
    exact ⟨ret_int (by have := HN.out; have := HZ.out; unfold keyE; rw [if_neg (by omega)]), rfl⟩
  · have hb : ((n : Int) == 0) = false := by simpa using h0
    have hp : 1 ≤ n := by omega
    by_cases h1 : n ≤ 64
    · go_enter Try.func64, Try.ntmps64
      go_wp2
      go_ret
      exact ⟨ret_int (by have := HN.out; unfold keyE; rw [if_pos (by omega)]), rfl⟩
    · go_enter Try.func64, Try.ntmps64
      go_wp2
      go_ret
      exact ⟨ret_int (by have := HN.out; unfold keyE; rw [if_neg (by omega)]), rfl⟩
theorem value_any (A : Option Addr) (n c : Nat) (k : List UInt8) (hn : n = k.length) (w : World) :
    Calls Try.prog 65 #[.slice A n c] w fun e w' => e = .returned (.int .i64 (valE k)) ∧ w = w' := by
  have HN := Lib.hid hn
  clear hn
  by_cases h1 : n ≤ 256
  · go_enter Try.func65, Try.ntmps65
    go_wp2
    go_ret
    exact ⟨ret_int (by have := HN.out; unfold valE; rw [if_pos (by omega)]), rfl⟩
  · go_enter Try.func65, Try.ntmps65
    go_wp2
    go_ret
    exact ⟨ret_int (by have := HN.out; unfold valE; rw [if_neg (by omega)]), rfl⟩
theorem rkey_any (A : Option Addr) (n c : Nat) (k : List UInt8) (hn : n = k.length) (w : World) :
    Calls Try.prog 68 #[.slice A n c] w fun e w' => e = .returned (.int .i64 (keyE k)) ∧ w = w' := by
  have HN := Lib.hid hn
  clear hn
  by_cases h0 : n < 1
  · go_enter Try.func68, Try.ntmps68
    go_wp2
    go_ret
    exact ⟨ret_int (by have := HN.out; unfold keyE; rw [if_neg (by omega)]), rfl⟩
  · by_cases h1 : n ≤ 64
    · go_enter Try.func68, Try.ntmps68
      go_wp2
      go_ret
      exact ⟨ret_int (by have := HN.out; unfold keyE; rw [if_pos (by omega)]), rfl⟩
    · go_enter Try.func68, Try.ntmps68
      go_wp2
      go_ret
      exact ⟨ret_int (by have := HN.out; unfold keyE; rw [if_neg (by omega)]), rfl⟩
theorem rvalue_any (A : Option Addr) (n c : Nat) (k : List UInt8) (hn : n = k.length) (w : World) :
    Calls Try.prog 69 #[.slice A n c] w fun e w' => e = .returned (.int .i64 (valE k)) ∧ w = w' := by
  have HN := Lib.hid hn
  clear hn
  by_cases h1 : n ≤ 256
  · go_enter Try.func69, Try.ntmps69
    go_wp2
    go_ret
    exact ⟨ret_int (by have := HN.out; unfold valE; rw [if_pos (by omega)]), rfl⟩
  · go_enter Try.func69, Try.ntmps69
    go_wp2
    go_ret
    exact ⟨ret_int (by have := HN.out; unfold valE; rw [if_neg (by omega)]), rfl⟩

theorem rcommon_any (A B : Option Addr) (n m c d : Nat) (F G : Nat → Prop) (xs ys : List UInt8) (w : World) (h : Rd w F 1 A n (bvs xs)) (hn : n = xs.length) (k : Rd w G 1 B m (bvs ys)) (hm : m = ys.length) (hn2 : n ≤ 1152921504606846976) :
    Calls Try.prog 70 #[.slice A n c, .slice B m d] w fun e w' => e = .returned (.int .i64 (comm xs ys)) ∧ ∃ q, w' = w.drewN q := by
  have HN := Lib.hid hn
  have HM := Lib.hid hm
  have HA := Lib.hid h
  have HB := Lib.hid k
  clear hn hm h k
  go_enter Try.func70, Try.ntmps70
  go_wp2
  go_loopg [5] n (fun g i wr => ∃ k : Nat, g = n - k ∧ k ≤ n ∧ k ≤ m ∧ i = .int .i64 k ∧ (∀ j, j < k → xs[j]? = ys[j]?) ∧ ∃ q, wr = w.drewN q)
  case atStart => exact ⟨0, by omega, by omega, by omega, rfl, by omega, 0, rfl⟩
  case round =>
    obtain ⟨i, hg, hi1, hi2, rfl, hs, q, rfl⟩ := hrel
    have HS := Lib.hid hs
    have HG := Lib.hid hg
    clear hs hg
    by_cases h1 : i < n
    · by_cases h2 : i < m
      · obtain ⟨b1, o1, u1, rfl, _, hx, hcx⟩ := HA.out.at_ h1
        obtain ⟨b2, o2, u2, rfl, _, hy, hcy⟩ := HB.out.at_ h2
        obtain ⟨x, hx2, rfl⟩ := bvs_at hx
        obtain ⟨y, hy2, rfl⟩ := bvs_at hy
        have HX := Lib.hid hx2
        have HY := Lib.hid hy2
        clear hx hy hx2 hy2
        simp only [bv] at hcx hcy
        by_cases e : x = y
        · subst e
          go_wp2_with fail
          go_quiet (fail)
          go_wp2
          go_roundg (n - (i + 1))
          case measure => have := HG.out; omega
          case rel =>
            exact ⟨i + 1, rfl, by omega, by omega, by go_num, fun j hj => by
              rcases Nat.lt_or_ge j i with h | h
              · exact HS.out j h
              · obtain rfl : j = i := by omega
                rw [HX.out, HY.out], _, rfl⟩
        · have hne : ((x.toNat : Int) == (y.toNat : Int)) = false := by
            rw [beq_eq_false_iff_ne]; intro h; exact e (UInt8.toNat.inj (by omega))
          have HE := Lib.hid (comm_eq xs ys i HS.out (by have := HN.out; omega) (by have := HM.out; omega) (.inr (.inr (by rw [HX.out, HY.out]; simpa using e))))
          clear e
          go_wp2_with fail
          go_quiet (fail)
          go_wp2
          go_ret
          exact ⟨ret_int (by rw [HE.out]), _, World.drewN_drewN ..⟩
      · have hd : decide ((i : Int) < (m : Int)) = false := by simp; omega
        have HE := Lib.hid (comm_eq xs ys i HS.out (by have := HN.out; omega) (by have := HM.out; omega) (.inr (.inl (by have := HM.out; omega))))
        go_wp2_with fail
        go_quiet (fail)
        go_wp2
        go_ret
        exact ⟨ret_int (by rw [HE.out]), _, World.drewN_drewN ..⟩
    · have hd : decide ((i : Int) < (n : Int)) = false := by simp; omega
      have HE := Lib.hid (comm_eq xs ys i HS.out (by have := HN.out; omega) (by have := HM.out; omega) (.inl (by have := HN.out; omega)))
      go_wp2_with fail
      go_quiet (fail)
      go_wp2
      go_ret
      exact ⟨ret_int (by rw [HE.out]), _, World.drewN_drewN ..⟩

/-- what the comparison of the document comes to, said by Bools -/
theorem rcompare_any (A B : Option Addr) (n m c d : Nat) (F G : Nat → Prop) (xs ys : List UInt8) (w : World) (h : Rd w F 1 A n (bvs xs)) (hn : n = xs.length) (k : Rd w G 1 B m (bvs ys)) (hm : m = ys.length) (hn2 : n ≤ 1152921504606846976) :
    Calls Try.prog 40 #[.slice A n c, .slice B m d] w fun e w' => e = .returned (.int .i64 (compareBytes xs ys)) ∧ ∃ q, w' = w.drewN q := by
  have hl := comm_le xs ys
  have hcc := cmpC_eq xs ys
  have HO := Lib.hid (comm_other xs ys)
  obtain ⟨q, hq⟩ : ∃ q, q = comm xs ys := ⟨_, rfl⟩
  unfold cmpC at hcc
  rw [← hq] at hcc hl HO
  have HC := Lib.hid hcc
  have HQ := Lib.hid hq
  have HN := Lib.hid hn
  have HM := Lib.hid hm
  have HA := Lib.hid h
  have HB := Lib.hid k
  have hc1 : q ≤ n := by omega
  have hc2 : q ≤ m := by omega
  clear hn hm h k hcc hq hl
  by_cases h1 : q = n
  · have e1 : ((q : Int) == (n : Int)) = true := by rw [beq_iff_eq]; omega
    have H1 := Lib.hid h1
    clear h1
    by_cases h2 : q = m
    · have e2 : ((q : Int) == (m : Int)) = true := by rw [beq_iff_eq]; omega
      have HR : Hid (compareBytes xs ys = 0) := Lib.hid (by have := HN.out; have := HM.out; have := H1.out; rw [HC.out, if_pos (by omega)])
      clear h2
      go_enter Try.func40, Try.ntmps40
      go_wp2_with (go_at_call 70; refine (rcommon_any _ _ _ _ _ _ F G xs ys _ HA.out HN.out HB.out HM.out hn2).mono ?_; rintro e w' ⟨rfl, r, rfl⟩; rw [← HQ.out])
      go_ret
      exact ⟨ret_int (by rw [HR.out]), _, rfl⟩
    · have e2 : ((q : Int) == (m : Int)) = false := by rw [beq_eq_false_iff_ne]; omega
      have HR : Hid (compareBytes xs ys = -1) := Lib.hid (by have := HN.out; have := HM.out; have := H1.out; rw [HC.out, if_neg (by omega), if_pos (by omega)])
      go_enter Try.func40, Try.ntmps40
      go_wp2_with (go_at_call 70; refine (rcommon_any _ _ _ _ _ _ F G xs ys _ HA.out HN.out HB.out HM.out hn2).mono ?_; rintro e w' ⟨rfl, r, rfl⟩; rw [← HQ.out])
      go_ret
      exact ⟨ret_int (by rw [HR.out]), _, rfl⟩
  · have e1 : ((q : Int) == (n : Int)) = false := by rw [beq_eq_false_iff_ne]; omega
    by_cases h2 : q = m
    · have e2 : ((q : Int) == (m : Int)) = true := by rw [beq_iff_eq]; omega
      have HR : Hid (compareBytes xs ys = 1) := Lib.hid (by have := HN.out; have := HM.out; rw [HC.out, if_neg (by omega), if_neg (by omega), if_pos (by omega)])
      clear h2
      go_enter Try.func40, Try.ntmps40
      go_wp2_with (go_at_call 70; refine (rcommon_any _ _ _ _ _ _ F G xs ys _ HA.out HN.out HB.out HM.out hn2).mono ?_; rintro e w' ⟨rfl, r, rfl⟩; rw [← HQ.out])
      go_ret
      exact ⟨ret_int (by rw [HR.out]), _, rfl⟩
    · have e2 : ((q : Int) == (m : Int)) = false := by rw [beq_eq_false_iff_ne]; omega
      have l1 : q < n := by omega
      have l2 : q < m := by omega
      obtain ⟨b1, o1, u1, rfl, _, hx, hcx⟩ := HA.out.at_ l1
      obtain ⟨b2, o2, u2, rfl, _, hy, hcy⟩ := HB.out.at_ l2
      obtain ⟨x, hx2, rfl⟩ := bvs_at hx
      obtain ⟨y, hy2, rfl⟩ := bvs_at hy
      have HR : Hid (compareBytes xs ys = if x < y then -1 else 1) := Lib.hid (by
        have := HN.out; have := HM.out
        rw [HC.out, if_neg (by omega), if_neg (by omega), if_neg (by omega)]
        simp only [List.getD, hx2, hy2, Option.getD_some])
      simp only [bv] at hcx hcy
      clear hx hy hx2 hy2
      by_cases hlt : x < y
      · have hlt2 : (x.toNat : Int) < (y.toNat : Int) := by have := UInt8.lt_iff_toNat_lt.1 hlt; omega
        have HL := Lib.hid hlt
        clear hlt
        go_enter Try.func40, Try.ntmps40
        go_wp2_with (go_at_call 70; refine (rcommon_any _ _ _ _ _ _ F G xs ys _ HA.out HN.out HB.out HM.out hn2).mono ?_; rintro e w' ⟨rfl, r, rfl⟩; rw [← HQ.out])
        go_quiet (fail)
        go_wp2
        go_ret
        exact ⟨ret_int (by rw [HR.out, if_pos HL.out]), _, World.drewN_drewN ..⟩
      · have hlt2 : ¬ (x.toNat : Int) < (y.toNat : Int) := fun h => hlt (UInt8.lt_iff_toNat_lt.2 (by omega))
        have HL := Lib.hid hlt
        clear hlt
        go_enter Try.func40, Try.ntmps40
        go_wp2_with (go_at_call 70; refine (rcommon_any _ _ _ _ _ _ F G xs ys _ HA.out HN.out HB.out HM.out hn2).mono ?_; rintro e w' ⟨rfl, r, rfl⟩; rw [← HQ.out])
        go_quiet (fail)
        go_wp2
        go_ret
        exact ⟨ret_int (by rw [HR.out, if_neg HL.out]), _, World.drewN_drewN ..⟩
end Go.Proofs.Ytgjphmlmndcaeaa

namespace Go.Proofs.Ytgjphmlmndcaeaa
open Go.RowKit
open Go.Lib (compareBytes)

theorem u8_info : (Try.prog.info? 5).map (fun i => (i.zero, i.size, i.bytes)) = some (some (.int .u8 0), 1, 1) := by kernel_rfl
theorem int_info : (Try.prog.info? 3).map (fun i => (i.zero, i.size, i.bytes)) = some (some (.int .i64 0), 1, 8) := by kernel_rfl

/-- the answer is a text in new memory -/
def NewText (w : World) (bs : List UInt8) (e : Ending) (w' : World) : Prop :=
  ∃ A n c, e = .returned (.slice A n c) ∧ n ≤ c ∧ c ≤ maxLen ∧ Hid (n = bs.length) ∧ Rd w' (Soft (From w.heap.size) w') 1 A n (bvs bs) ∧ Below w.heap.size w w'

set_option maxRecDepth 100000 in
theorem clone_any (A : Option Addr) (n c : Nat) (F : Nat → Prop) (bs : List UInt8) (w : World) (h : Rd w F 1 A n (bvs bs)) (hn : n = bs.length) (hn2 : n ≤ 1152921504606) :
    Calls Try.prog 37 #[.slice A n c] w (NewText w bs) := by
  obtain ⟨i0, hi0, hz0, hz1, hz2⟩ := info_parts u8_info
  have hq := fun (w : World) (a : Option Addr) (n c : Nat) => Lib.run_eql_slice_nil (P := Try.prog) w 41 5 a n c 0 0 Try.underlying41
  cases A with
  | none =>
    have h0 : n = 0 := by
      rcases Nat.eq_zero_or_pos n with h0 | h0
      · exact h0
      · obtain ⟨_, _, e, _⟩ := h.2 h0; cases e
    subst h0
    have hb : bs = [] := List.eq_nil_of_length_eq_zero hn.symm
    subst hb
    clear hn h
    go_enter Try.func37, Try.ntmps37
    go_wp2
    go_ret
    exact ⟨none, 0, 0, rfl, Nat.le_refl _, by simp [maxLen], rfl, Rd.none_ _ _ _ _, Below.refl _ _⟩
  | some a =>
    have HN := Lib.hid hn
    clear hn
    go_enter Try.func37, Try.ntmps37
    go_wp2_with (at_builtin; refine wpList_append_any _ rfl (.tmp 5) (.tmp 6) _ rfl w.heap.size 5 i0 _ 1 1 Try.underlying41 hi0 hz0 hz1 hz2 rfl (by omega) (.slice (some ⟨w.heap.size, 0, none⟩) 0 0) 0 [] rfl (own_made w _ 1) F (some a) n c (bvs bs) rfl (h.alloc _) (bvs_one bs) (by simp only [maxLen]; omega) (by omega) (by simp) ?_; intro v1 w1 hown1 hg1 hat1)
    go_ret
    simp only [Nat.zero_add, List.nil_append] at hown1
    obtain ⟨A', c', hv, h1, h2⟩ := own_val hown1
    rw [hv] at hown1
    refine ⟨A', n, c', by rw [hv]; rfl, h1, h2, HN.out, Rd.soft_of_own hown1, ((Below.refl _ _).alloc (Nat.le_refl _) _).grown hg1 (by simp) (fun k hk => ?_)⟩
    simp [Value.ownBlock] at hk; omega

set_option maxRecDepth 100000 in
theorem cloneInts_any (A : Option Addr) (n c : Nat) (F : Nat → Prop) (xs : List Value) (w : World) (h : Rd w F 1 A n xs) (h1 : ∀ u ∈ xs, u.oneCell' = true) (hn2 : n ≤ 1152921504606) :
    Calls Try.prog 117 #[.slice A n c] w fun e w' => ∃ A' c', e = .returned (.slice A' n c') ∧ n ≤ c' ∧ c' ≤ maxLen ∧ Rd w' (Soft (From w.heap.size) w') 1 A' n xs ∧ Below w.heap.size w w' := by
  obtain ⟨i0, hi0, hz0, hz1, hz2⟩ := info_parts int_info
  have hq := fun (w : World) (a : Option Addr) (n c : Nat) => Lib.run_eql_slice_nil (P := Try.prog) w 24 3 a n c 0 0 Try.underlying24
  cases A with
  | none =>
    have h0 : n = 0 := by
      rcases Nat.eq_zero_or_pos n with h0 | h0
      · exact h0
      · obtain ⟨_, _, e, _⟩ := h.2 h0; cases e
    subst h0
    have hb : xs = [] := h.empty
    subst hb
    clear h
    go_enter Try.func117, Try.ntmps117
    go_wp2
    go_ret
    exact ⟨none, 0, rfl, Nat.le_refl _, by simp [maxLen], Rd.none_ _ _ _ _, Below.refl _ _⟩
  | some a =>
    go_enter Try.func117, Try.ntmps117
    go_wp2_with (at_builtin; refine wpList_append_any _ rfl (.tmp 5) (.tmp 6) _ rfl w.heap.size 3 i0 _ 1 8 Try.underlying24 hi0 hz0 hz1 hz2 rfl (by omega) (.slice (some ⟨w.heap.size, 0, none⟩) 0 0) 0 [] rfl (own_made w _ 1) F (some a) n c xs rfl (h.alloc _) h1 (by simp only [maxLen]; omega) (by omega) (by simp) ?_; intro v1 w1 hown1 hg1 hat1)
    go_ret
    simp only [Nat.zero_add, List.nil_append] at hown1
    obtain ⟨A', c', hv, h1, h2⟩ := own_val hown1
    rw [hv] at hown1
    refine ⟨A', c', by rw [hv]; rfl, h1, h2, Rd.soft_of_own hown1, ((Below.refl _ _).alloc (Nat.le_refl _) _).grown hg1 (by simp) (fun k hk => ?_)⟩
    simp [Value.ownBlock] at hk; omega

/-- the reference's copies: 'append([]byte{}, b...)' -/
theorem rbytes_any (A : Option Addr) (n c : Nat) (F : Nat → Prop) (bs : List UInt8) (w : World) (h : Rd w F 1 A n (bvs bs)) (hn : n = bs.length) (hn2 : n ≤ 1152921504606) :
    Calls Try.prog 72 #[.slice A n c] w (NewText w bs) := by
  obtain ⟨i0, hi0, hz0, hz1, hz2⟩ := info_parts u8_info
  have HN := Lib.hid hn
  clear hn
  go_enter Try.func72, Try.ntmps72
  go_wp2_with (at_builtin; refine wpList_append_any _ rfl (.tmp 3) (.tmp 4) _ rfl w.heap.size 5 i0 _ 1 1 Try.underlying41 hi0 hz0 hz1 hz2 rfl (by omega) (.slice (some ⟨w.heap.size, 0, none⟩) 0 0) 0 [] rfl (own_made w _ 1) F A n c (bvs bs) rfl (h.alloc _) (bvs_one bs) (by simp only [maxLen]; omega) (by omega) (by simp) ?_; intro v1 w1 hown1 hg1 hat1)
  go_ret
  simp only [Nat.zero_add, List.nil_append] at hown1
  obtain ⟨A', c', hv, h1, h2⟩ := own_val hown1
  rw [hv] at hown1
  refine ⟨A', n, c', by rw [hv]; rfl, h1, h2, HN.out, Rd.soft_of_own hown1, ((Below.refl _ _).alloc (Nat.le_refl _) _).grown hg1 (by simp) (fun k hk => ?_)⟩
  simp [Value.ownBlock] at hk; omega

theorem common_any (A B : Option Addr) (n m c d : Nat) (F G : Nat → Prop) (xs ys : List UInt8) (w : World) (h : Rd w F 1 A n (bvs xs)) (hn : n = xs.length) (k : Rd w G 1 B m (bvs ys)) (hm : m = ys.length) (hn2 : n ≤ 1152921504606846976) :
    Calls Try.prog 103 #[.slice A n c, .slice B m d] w fun e w' => e = .returned (.int .i64 (comm xs ys)) ∧ ∃ q, w' = w.drewN q := by
  have HN := Lib.hid hn
  have HM := Lib.hid hm
  have HA := Lib.hid h
  have HB := Lib.hid k
  obtain ⟨l, hl⟩ : ∃ l : Nat, l = min n m := ⟨_, rfl⟩
  have HL : Hid ((min (n : Int) (m : Int)) = (l : Int)) := Lib.hid (by omega)
  have hl1 : l ≤ n := by omega
  have hl2 : l ≤ m := by omega
  have hl3 : n ≤ l ∨ m ≤ l := by omega
  clear hn hm h k hl
  go_enter Try.func103, Try.ntmps103
  go_wp2
  rw [HL.out]
  go_loopg [13] l (fun g i wr => ∃ k : Nat, g = l - k ∧ k ≤ l ∧ i = .int .i64 k ∧ (∀ j, j < k → xs[j]? = ys[j]?) ∧ ∃ q, wr = w.drewN q)
  case atStart => exact ⟨0, by omega, by omega, rfl, by omega, 0, rfl⟩
  case round =>
    obtain ⟨i, hg, hi1, rfl, hs, q, rfl⟩ := hrel
    have HS := Lib.hid hs
    have HG := Lib.hid hg
    clear hs hg
    by_cases hi : i < l
    · have h1 : i < n := by omega
      have h2 : i < m := by omega
      obtain ⟨b1, o1, u1, rfl, _, hx, hcx⟩ := HA.out.at_ h1
      obtain ⟨b2, o2, u2, rfl, _, hy, hcy⟩ := HB.out.at_ h2
      obtain ⟨x, hx2, rfl⟩ := bvs_at hx
      obtain ⟨y, hy2, rfl⟩ := bvs_at hy
      have HX := Lib.hid hx2
      have HY := Lib.hid hy2
      clear hx hy hx2 hy2
      simp only [bv] at hcx hcy
      by_cases e : x = y
      · subst e
        go_wp2_with fail
        go_quiet (fail)
        go_wp2
        go_roundg (l - (i + 1))
        case measure => have := HG.out; omega
        case rel =>
          exact ⟨i + 1, rfl, by omega, by go_num, fun j hj => by
            rcases Nat.lt_or_ge j i with h | h
            · exact HS.out j h
            · obtain rfl : j = i := by omega
              rw [HX.out, HY.out], _, rfl⟩
      · have hne : ((x.toNat : Int) == (y.toNat : Int)) = false := by
          rw [beq_eq_false_iff_ne]; intro h; exact e (UInt8.toNat.inj (by omega))
        have hne2 : ((x.toNat : Int) != (y.toNat : Int)) = true := by
          rw [bne_iff_ne]; intro h; exact e (UInt8.toNat.inj (by omega))
        have HE := Lib.hid (comm_eq xs ys i HS.out (by have := HN.out; omega) (by have := HM.out; omega) (.inr (.inr (by rw [HX.out, HY.out]; simpa using e))))
        clear e
        go_wp2_with fail
        go_quiet (fail)
        go_wp2
        go_ret
        exact ⟨ret_int (by rw [HE.out]), _, World.drewN_drewN ..⟩
    · have HE := Lib.hid (comm_eq xs ys i HS.out (by have := HN.out; omega) (by have := HM.out; omega) (by have := HN.out; have := HM.out; omega))
      have HI : Hid (i = l) := Lib.hid (by omega)
      go_wp2
      go_ret
      exact ⟨ret_int (by rw [← HI.out, HE.out]), _, rfl⟩

/-- the answer is a text in new memory and an error -/
def NewText2 (w : World) (bs : List UInt8) (x : Int) (e : Ending) (w' : World) : Prop :=
  ∃ A n c, e = .returned (.tuple #[.slice A n c, .int .i64 x]) ∧ n ≤ c ∧ c ≤ maxLen ∧ Hid (n = bs.length) ∧ Rd w' (Soft (From w.heap.size) w') 1 A n (bvs bs) ∧ Below w.heap.size w w'

theorem between_any2 (A B : Option Addr) (n m c d : Nat) (F G : Nat → Prop) (xs ys : List UInt8) (w : World) (h : Rd w F 1 A n (bvs xs)) (hn : n = xs.length) (k : Rd w G 1 B m (bvs ys)) (hm : m = ys.length) (hmd : m ≤ d) (hn2 : n ≤ 1152921504606) (hm2 : m ≤ 1152921504606) (_hd2 : d ≤ maxLen) :
    Calls Try.prog 91 #[.slice A n c, .slice B m d] w (NewText2 w (betw xs ys).1 (betw xs ys).2) := by
  have HN := Lib.hid hn
  have HM := Lib.hid hm
  have HA := Lib.hid h
  have HB := Lib.hid k
  have hr := compare_range xs ys
  have hl := comm_le xs ys
  have HR := Lib.hid (betw.eq_1 xs ys)
  have hlt := compare_lt_iff xs ys
  obtain ⟨l, hll⟩ : ∃ l, l = comm xs ys := ⟨_, rfl⟩
  rw [← hll] at hl hlt HR
  have HL := Lib.hid hll
  have l1 : l ≤ n := by omega
  have l2 : l ≤ m := by omega
  clear hn hm h k hl hll
  by_cases hc : compareBytes xs ys < 0
  · have l3 : l < m := by have := (hlt.1 hc).1; have := HM.out; omega
    have HC := Lib.hid hc
    clear hlt hr
    go_enter Try.func91, Try.ntmps91
    go_wp2_with (first | (go_at_call 36; refine (compare_any _ _ _ _ _ _ F G xs ys _ HA.out HN.out HB.out HM.out).mono ?_; rintro e w' ⟨rfl, rfl⟩) | (go_at_call 103; refine (common_any _ _ _ _ _ _ F G xs ys _ HA.out HN.out HB.out HM.out (by omega)).mono ?_; rintro e w' ⟨rfl, r, rfl⟩; rw [← HL.out]))
    refine (clone_any _ _ _ G (ys.take (l + 1)) _ ((HB.out.drewN r).take1 (by omega)) (take_len (by have := HM.out; omega)) (by omega)).mono ?_
    rintro e w' ⟨A', n', c', rfl, h1, h2, h3, h4, h5⟩
    go_wp2
    go_ret2
    rw [HR.out, if_pos HC.out]
    exact ⟨A', n', c', rfl, h1, h2, h3, h4, (below_drewN (Below.refl _ _) r).trans h5⟩
  · have HC := Lib.hid hc
    clear hlt hr
    go_enter Try.func91, Try.ntmps91
    go_wp2_with (first | (go_at_call 36; refine (compare_any _ _ _ _ _ _ F G xs ys _ HA.out HN.out HB.out HM.out).mono ?_; rintro e w' ⟨rfl, rfl⟩))
    go_ret2
    rw [HR.out, if_neg (by have := HC.out; omega)]
    exact ⟨none, 0, 0, rfl, Nat.le_refl _, by simp [maxLen], rfl, Rd.none_ _ _ _ _, Below.refl _ _⟩

set_option maxRecDepth 100000 in
theorem rbetween_any (A B : Option Addr) (n m c d : Nat) (F G : Nat → Prop) (xs ys : List UInt8) (w : World) (h : Rd w F 1 A n (bvs xs)) (hn : n = xs.length) (k : Rd w G 1 B m (bvs ys)) (hm : m = ys.length) (hmd : m ≤ d) (hn2 : n ≤ 1152921504606) (hm2 : m ≤ 1152921504606) (hd2 : d ≤ maxLen) :
    Calls Try.prog 71 #[.slice A n c, .slice B m d] w (NewText2 w (betw xs ys).1 (betw xs ys).2) := by
  obtain ⟨i0, hi0, hz0, hz1, hz2⟩ := info_parts u8_info
  have HN := Lib.hid hn
  have HM := Lib.hid hm
  have HA := Lib.hid h
  have HB := Lib.hid k
  have hl := comm_le xs ys
  have HR := Lib.hid (betw.eq_1 xs ys)
  have HT : Hid (∀ n, n ≤ ys.length → (compareBytes xs (ys.take n) < 0 ↔ (compareBytes xs ys < 0 ∧ comm xs ys < n))) := Lib.hid (fun n hn => between_least hn)
  have HV := Lib.hid (compare_lt_iff xs ys)
  unfold maxLen at hd2
  clear hn hm h k
  go_enter Try.func71, Try.ntmps71
  go_wp2
  go_loopg [6] (m + 1) (fun g i wr => ∃ k : Nat, g = m + 1 - k ∧ k ≤ m + 1 ∧ i = .int .i64 k ∧ Hid (∀ j, j < k → 0 ≤ compareBytes xs (ys.take j)) ∧ ∃ q, wr = w.drewN q)
  case atStart => exact ⟨0, by omega, by omega, rfl, fun j hj => absurd hj (by omega), 0, rfl⟩
  case round =>
    obtain ⟨i, hg, hi1, rfl, HS, q, rfl⟩ := hrel
    have HG := Lib.hid hg
    clear hg
    have HX := Lib.hid (compare_range xs (ys.take i))
    by_cases hi : i ≤ m
    · by_cases hc : compareBytes xs (ys.take i) < 0
      · have HC := Lib.hid hc
        go_wp2_with (first | (go_at_call 40; refine (rcompare_any _ _ _ _ _ _ F G xs (ys.take i) _ (HA.out.drewN q) HN.out ((HB.out.drewN q).take1 hi) (take_len (by have := HM.out; omega)) (by omega)).mono ?_; rintro e w' ⟨rfl, r, rfl⟩) | (at_builtin; refine wpList_append_any _ rfl (.tmp 19) (.tmp 22) _ rfl w.heap.size 5 i0 _ 1 1 Try.underlying41 hi0 hz0 hz1 hz2 rfl (by omega) (.slice (some ⟨w.heap.size, 0, none⟩) 0 0) 0 [] rfl (own_made _ _ 1) G B i d (bvs (ys.take i)) rfl (((HB.out.drewN _).take1 hi).alloc _) (bvs_one _) (by simp only [maxLen]; omega) (by omega) (by simp) ?_; intro v1 w1 hown1 hg1 hat1))
        have hall := (HT.out i (by have := HM.out; omega)).1 HC.out
        have hone : i = comm xs ys + 1 := by
          rcases Nat.lt_or_ge (comm xs ys + 1) i with h | h
          · have h2 := (HT.out (comm xs ys + 1) (by have := HM.out; omega)).2 ⟨hall.1, by omega⟩
            have h3 := HS.out _ h
            omega
          · omega
        go_ret2
        rw [HR.out, if_pos hall.1, ← hone]
        simp only [Nat.zero_add, List.nil_append] at hown1
        obtain ⟨A', c', hv, h1, h2⟩ := own_val hown1
        rw [hv] at hown1
        refine ⟨A', i, c', by rw [hv]; rfl, h1, h2, Lib.hid (take_len (by have := HM.out; omega)), Rd.soft_of_own hown1, ((below_drewN (Below.refl _ _) _).alloc (Nat.le_refl _) _).grown hg1 (by simp) (fun k hk => ?_)⟩
        have e : (w.drewN (q + r)).heap.size = w.heap.size := rfl
        simp [Value.ownBlock] at hk; omega
      · have HC := Lib.hid hc
        go_wp2_with (first | (go_at_call 40; refine (rcompare_any _ _ _ _ _ _ F G xs (ys.take i) _ (HA.out.drewN q) HN.out ((HB.out.drewN q).take1 hi) (take_len (by have := HM.out; omega)) (by omega)).mono ?_; rintro e w' ⟨rfl, r, rfl⟩))
        go_roundg (m + 1 - (i + 1))
        case measure => have := HG.out; omega
        case rel => exact ⟨i + 1, rfl, by omega, by go_num, Lib.hid (fun j hj => by
            rcases Nat.lt_or_ge j i with h | h
            · exact HS.out j h
            · obtain rfl : j = i := by omega
              have := HC.out; omega), _, rfl⟩
    · have hno : ¬ compareBytes xs ys < 0 := fun h => by
        have h1 := (HT.out (comm xs ys + 1) (by have := HM.out; have := HV.out.1 h; omega)).2 ⟨h, by omega⟩
        have h2 := HS.out (comm xs ys + 1) (by have := HM.out; have := HV.out.1 h; omega)
        omega
      have HNO := Lib.hid hno
      clear hno
      go_wp2
      go_ret2
      rw [HR.out, if_neg (by have := HNO.out; omega)]
      exact ⟨none, 0, 0, rfl, Nat.le_refl _, by simp [maxLen], rfl, Rd.none_ _ _ _ _, below_drewN (Below.refl _ _) _⟩
end Go.Proofs.Ytgjphmlmndcaeaa

namespace Go.Proofs.Ytgjphmlmndcaeaa
open Go.RowKit

theorem bytes_info : (Try.prog.info? 41).map (fun i => (i.zero, i.size, i.bytes)) = some (some (.slice none 0 0), 1, 24) := by kernel_rfl

/-- the answer is a list of texts in new memory -/
def NewTexts (w : World) (ts : List (List UInt8)) (e : Ending) (w' : World) : Prop :=
  ∃ A n c, e = .returned (.slice A n c) ∧ Tx w' (From w.heap.size) A n c ts ∧ Below w.heap.size w w'

/-- the row that is being filled -/
def Filling (w0 : World) (ts : List (List UInt8)) (n k : Nat) (w : World) : Prop :=
  ∃ cs : List Value, cs.length = n ∧ Blk w w0.heap.size 41 cs.toArray ∧ ∀ (j : Nat) (t : List UInt8), j < k → ts[j]? = some t → ∃ v, cs[j]? = some v ∧ SB w (Soft (From (w0.heap.size + 1)) w) v t

theorem filling_start (w : World) (ts : List (List UInt8)) (n : Nat) : Filling w ts n 0 (w.alloc (.cells (madeCells #[.slice none 0 0] n) 41)) := by
  refine ⟨(madeCells #[.slice none 0 0] n).toList, by simp [size_madeCells], ?_, fun j t hj => absurd hj (by omega)⟩
  simpa using Blk.new w 41 (madeCells #[.slice none 0 0] n)
theorem filling_cell {w0 w : World} {ts : List (List UInt8)} {n k : Nat} (h : Filling w0 ts n k w) (i : Nat) (hi : i < n) : (∃ v, w.cell? ⟨w0.heap.size, i, none⟩ = some v) ∧ w.frozen? ⟨w0.heap.size, i, none⟩ = false := by
  obtain ⟨cs, hl, hb, _⟩ := h
  refine ⟨⟨cs[i], ?_⟩, hb.frozen i⟩
  rw [hb.cell]; simp [hl, hi]
theorem filling_below {w0 w w' : World} {ts : List (List UInt8)} {n k : Nat} (h : Filling w0 ts n k w) (hb : Below w.heap.size w w') : Filling w0 ts n k w' := by
  obtain ⟨cs, hl, hk, hx⟩ := h
  exact ⟨cs, hl, hk.below hb, fun j t hj ht => let ⟨v, a, b⟩ := hx j t hj ht; ⟨v, a, b.soft_chg (S := Nil) (Chg.of_below hb) (fun _ _ hf => hf)⟩⟩
theorem filling_step {w0 w : World} {ts : List (List UInt8)} {n k : Nat} {t : List UInt8} {v : Value} (h : Filling w0 ts n k w) (hk : k < n) (ht : ts[k]? = some t) (hv : SB w (Soft (From (w0.heap.size + 1)) w) v t) :
    Filling w0 ts n (k + 1) (w.setCell ⟨w0.heap.size, k, none⟩ v) := by
  obtain ⟨cs, hl, hb, hx⟩ := h
  have hc : Chg (One w0.heap.size) w (w.setCell ⟨w0.heap.size, k, none⟩ v) := Chg.set1 w _ k v
  have hn : ∀ b, From (w0.heap.size + 1) b → ¬ One w0.heap.size b := fun b h1 h2 => by have h1 : w0.heap.size + 1 ≤ b := h1; have h2 : b = w0.heap.size := h2; omega
  refine ⟨cs.set k v, by simp [hl], by simpa using hb.set_ k v, fun j u hj hu => ?_⟩
  rcases Nat.lt_or_ge j k with h | h
  · obtain ⟨x, hx1, hx2⟩ := hx j u h hu
    exact ⟨x, by rw [List.getElem?_set_ne (by omega)]; exact hx1, hx2.soft_chg hc hn⟩
  · obtain rfl : j = k := by omega
    rw [ht] at hu
    injection hu with hu
    subst hu
    exact ⟨v, by rw [List.getElem?_set_self (by omega)], hv.soft_chg hc hn⟩
theorem filling_done {w0 w : World} {ts : List (List UInt8)} {n : Nat} (h : Filling w0 ts n n w) (hn : n = ts.length) (hm : n ≤ maxLen) : TxS w w0.heap.size w.heap.size (some ⟨w0.heap.size, 0, none⟩) n n ts := by
  obtain ⟨cs, hl, hb, hx⟩ := h
  refine ⟨Nat.le_refl _, hm, hn, rfl, hb.lt, cs, ⟨by simpa using hl, fun _ => ⟨w0.heap.size, 0, rfl, ⟨rfl, hb.soft⟩, fun j u hj => by rw [hb.cell]; simpa using hj⟩⟩, fun i t ht => ?_⟩
  have hi : i < ts.length := (List.getElem?_eq_some_iff.1 ht).1
  obtain ⟨v, h1, h2⟩ := hx i t (by omega) ht
  exact ⟨v, h1, h2.lt.weak (fun b hb => ⟨⟨by have hb := hb.1.1; simp only [From] at hb; omega, hb.2⟩, hb.1.2⟩)⟩

/-- the answer is a list of texts in new memory, in its first block -/
def NewTextsS (w : World) (ts : List (List UInt8)) (e : Ending) (w' : World) : Prop :=
  ∃ A n c, e = .returned (.slice A n c) ∧ TxS w' w.heap.size w'.heap.size A n c ts ∧ Below w.heap.size w w'

theorem texts_any (A : Option Addr) (n c : Nat) (F : Nat → Prop) (ts : List (List UInt8)) (w : World) (h : Tx w F A n c ts) (hn2 : n ≤ 1152921504606) (hs : ∀ t ∈ ts, t.length ≤ 1152921504606) :
    Calls Try.prog 116 #[.slice A n c] w (NewTextsS w ts) := by
  have HH := Lib.hid h
  have HL := Lib.hid h.len
  have HS := Lib.hid hs
  have hmk := run_make_row' (P := Try.prog) 89 41 (.slice none 0 0) 24 Try.underlying89 bytes_info rfl .i64 .i64 n (by omega) (by omega)
  clear h hs
  go_enter Try.func116, Try.ntmps116
  go_wp2
  go_loopg [10] n (fun g i wr => ∃ (k : Nat), g = n - k ∧ k ≤ n ∧ i = .int .i64 k ∧ Filling w ts n k wr ∧ Below w.heap.size w wr)
  case atStart => exact ⟨0, by omega, by omega, rfl, filling_start w ts n, (Below.refl _ _).alloc (Nat.le_refl _) _⟩
  case round =>
    obtain ⟨k, hg, hk, rfl, hf, hbl⟩ := hrel
    have HG := Lib.hid hg
    have HF := Lib.hid hf
    clear hg hf
    by_cases hlt : k < n
    · obtain ⟨b, o, Ak, nk, ck, t, rfl, _, ht, c1, h1, h2, h3, h4⟩ := HH.out.at_ hlt
      have d1 := bkeep hbl c1
      have HT := Lib.hid ht
      have H4 := Lib.hid h4
      have hz : w.heap.size < wr.heap.size := by obtain ⟨cs, _, hb, _⟩ := HF.out; exact hb.lt
      have hnk : nk ≤ 1152921504606 := by have := h3.out; have := HS.out t (List.mem_of_getElem? ht); omega
      clear c1 ht h4
      go_wp2_with (go_at_call 37; refine (clone_any _ _ _ F t _ (H4.out.below hbl) h3.out hnk).mono ?_; rintro e w1 ⟨A', n', c', rfl, q1, q2, q3, q4, hb1⟩; obtain ⟨⟨u, hu⟩, hfz⟩ := filling_cell (filling_below HF.out hb1) k hlt; have hz1 := hb1.size)
      go_roundg (n - (k + 1))
      case measure => have := HG.out; omega
      case rel => exact ⟨k + 1, rfl, by omega, by go_num, filling_step (filling_below HF.out hb1) hlt HT.out ⟨A', n', c', rfl, q1, q2, q3, q4.weak (Soft.weak (fun b hb => by simp only [From] at hb ⊢; omega))⟩, (hbl.trans (hb1.mono (by omega))).setCell (Nat.le_refl _) _⟩
    · have HD := Lib.hid (filling_done (show Filling w ts n n wr from (show k = n by omega) ▸ HF.out) HL.out (by simp only [maxLen]; omega))
      go_wp2
      go_ret
      exact ⟨_, _, _, rfl, HD.out, hbl⟩

/-- the row that is being gathered -/
def Gath (w0 : World) (ts : List (List UInt8)) (k : Nat) (v : Value) (w : World) : Prop :=
  ∃ cs : List Value, w.ownsRow w0.heap.size 41 1 v k cs ∧ ∀ (j : Nat) (t : List UInt8), j < k → ts[j]? = some t → ∃ u, cs[j]? = some u ∧ SB w (fun b => w0.heap.size ≤ b ∧ v.ownBlock ≠ some b) u t

theorem gath_start (w : World) (ts : List (List UInt8)) : Gath w ts 0 (.slice none 0 0) w := ⟨[], World.ownsRow_nil _ _ _ _, fun j t hj => absurd hj (by omega)⟩
theorem gath_below {w0 w w' : World} {ts : List (List UInt8)} {k : Nat} {v : Value} (h : Gath w0 ts k v w) (hb : Below w.heap.size w w') : Gath w0 ts k v w' := by
  obtain ⟨cs, ho, hx⟩ := h
  exact ⟨cs, own_below ho hb, fun j t hj ht => let ⟨u, a, b⟩ := hx j t hj ht; ⟨u, a, b.below hb⟩⟩
theorem gath_step {w0 w w2 w3 : World} {ts : List (List UInt8)} {k : Nat} {t : List UInt8} {v v' u : Value} (h : Gath w0 ts k v w) (ht : ts[k]? = some t)
    (hu : SB w (fun b => w0.heap.size ≤ b ∧ v.ownBlock ≠ some b) u t) (h2 : Below w.heap.size w w2) (h0 : w0.heap.size ≤ w2.heap.size)
    (cs : List Value) (hcs : w.ownsRow w0.heap.size 41 1 v k cs)
    (h3 : w3.ownsRow w0.heap.size 41 1 v' (k + 1) (cs ++ [u])) (hg : w2.grownBy w3 v.ownBlock) (hat : v'.ownBlock = v.ownBlock ∨ v'.ownBlock = some w2.heap.size)
    (hall : ∀ (j : Nat) (t : List UInt8), j < k → ts[j]? = some t → ∃ u, cs[j]? = some u ∧ SB w (fun b => w0.heap.size ≤ b ∧ v.ownBlock ≠ some b) u t) : Gath w0 ts (k + 1) v' w3 := by
  have hlen : cs.length = k := by have := hcs.1; omega
  have hc : Chg (fun b => v.ownBlock = some b) w2 w3 := (Chg.refl _ _).grown hg (fun b hb _ => hb)
  have conv : ∀ {x : Value} {s : List UInt8}, SB w (fun b => w0.heap.size ≤ b ∧ v.ownBlock ≠ some b) x s → SB w3 (fun b => w0.heap.size ≤ b ∧ v'.ownBlock ≠ some b) x s := by
    intro x s hx
    have hx2 : SB w (fun b => (w0.heap.size ≤ b ∧ v.ownBlock ≠ some b) ∧ b < w.heap.size) x s := hx.lt
    have hx3 := (hx2.below h2).chg hc (fun b hb e => hb.1.2 e)
    refine hx3.weak (fun b hb => ⟨hb.1.1, fun e => ?_⟩)
    rcases hat with hat | hat
    · rw [hat] at e; exact hb.1.2 e
    · rw [hat] at e; injection e with e; have := h2.size; omega
  refine ⟨cs ++ [u], h3, fun j s hj hs => ?_⟩
  rcases Nat.lt_or_ge j k with hjk | hjk
  · obtain ⟨x, e1, e2⟩ := hall j s hjk hs
    exact ⟨x, by rw [List.getElem?_append_left (by omega)]; exact e1, conv e2⟩
  · obtain rfl : j = k := by omega
    rw [ht] at hs
    injection hs with hs
    subst hs
    exact ⟨u, by rw [List.getElem?_append_right (by omega)]; simp [hlen], conv hu⟩
theorem gath_done {w0 w : World} {ts : List (List UInt8)} {n : Nat} {v : Value} (h : Gath w0 ts n v w) (hn : n = ts.length) : ∃ A c, v = .slice A n c ∧ Tx w (From w0.heap.size) A n c ts := by
  obtain ⟨cs, ho, hx⟩ := h
  obtain ⟨A, c, rfl, h1, h2⟩ := own_val ho
  exact ⟨A, c, rfl, h1, h2, hn, cs, Rd.of_own ho, fun i t ht => by
    have hi : i < ts.length := (List.getElem?_eq_some_iff.1 ht).1
    obtain ⟨u, e1, e2⟩ := hx i t (by omega) ht
    exact ⟨u, e1, e2.weak (fun b hb => hb.1)⟩⟩

set_option maxRecDepth 100000 in
theorem rtexts_any (A : Option Addr) (n c : Nat) (F : Nat → Prop) (ts : List (List UInt8)) (w : World) (h : Tx w F A n c ts) (hn2 : n ≤ 1152921504606) (hs : ∀ t ∈ ts, t.length ≤ 1152921504606) :
    Calls Try.prog 73 #[.slice A n c] w (NewTexts w ts) := by
  obtain ⟨i0, hi0, iz0, iz1, iz2⟩ := info_parts bytes_info
  have HH := Lib.hid h
  have HL := Lib.hid h.len
  have HS := Lib.hid hs
  clear h hs
  go_enter Try.func73, Try.ntmps73
  go_wp2
  go_loopg [3, 4] n (fun g vs i wr => ∃ (k : Nat) (v : Value), g = n - k ∧ k ≤ n ∧ i = .int .i64 k ∧ v = vs ∧ Gath w ts k v wr ∧ Below w.heap.size w wr)
  case atStart => exact ⟨0, _, by omega, by omega, rfl, rfl, gath_start w ts, Below.refl _ _⟩
  case round =>
    obtain ⟨k, v, hg, hk, rfl, rfl, hf, hbl⟩ := hrel
    have HG := Lib.hid hg
    obtain ⟨cs, hown, hall⟩ := hf
    have HA := Lib.hid hall
    have HO := Lib.hid hown
    clear hg hall hown
    by_cases hlt : k < n
    · obtain ⟨b, o, Ak, nk, ck, t, rfl, _, ht, c1, h1, h2, h3, h4⟩ := HH.out.at_ hlt
      have d1 := bkeep hbl c1
      have HT := Lib.hid ht
      have H4 := Lib.hid h4
      have hnk : nk ≤ 1152921504606 := by have := h3.out; have := HS.out t (List.mem_of_getElem? ht); omega
      clear c1 ht h4
      have hz := hbl.size
      go_wp2_with (first | (go_at_call 72; refine (rbytes_any _ _ _ F t _ (H4.out.below hbl) h3.out hnk).mono ?_; rintro e w1 ⟨A', n', c', rfl, q1, q2, q3, q4, hb1⟩; have hz1 := hb1.size; have HO1 := Lib.hid (own_below HO.out hb1)) | (at_builtin; go_loud (refine wpList_append_any _ rfl (.tmp 11) (.tmp 17) _ rfl w.heap.size 41 i0 _ 1 24 Try.underlying89 hi0 iz0 iz1 iz2 rfl (by omega) v k cs rfl (HO1.out.alloc _) (From w1.heap.size) (some ⟨w1.heap.size, 0, none⟩) 1 1 [.slice A' n' c'] rfl (Rd.one w1 _ _) (by intro u hu; simp at hu; subst hu; rfl) (by simp only [maxLen]; omega) (by omega) (by simp; omega) ?_); intro v2 w2 hown2 hg2 hat2))
      have HX := Lib.hid hown2
      have HY := Lib.hid hat2
      clear hown2 hat2
      go_roundg (n - (k + 1))
      case measure => have := HG.out; omega
      case rel =>
        have hb2 : Below wr.heap.size wr (w1.alloc (.cells #[.slice A' n' c'] 41)) := hb1.alloc hz1 _
        have hlt2 := own_lt HO.out
        refine ⟨k + 1, v2, rfl, by omega, by go_num, rfl, gath_step (w := w1) (u := .slice A' n' c') (gath_below ⟨cs, HO.out, HA.out⟩ hb1) HT.out ?_ ((Below.refl _ _).alloc (Nat.le_refl _) _) (by simp; omega) cs (own_below HO.out hb1) HX.out hg2 HY.out (fun j t hj ht => let ⟨u, a, b⟩ := HA.out j t hj ht; ⟨u, a, b.below hb1⟩), ?_⟩
        · exact ⟨A', n', c', rfl, q1, q2, q3, q4.weak (fun b hb => by
            have hb : wr.heap.size ≤ b := hb.1
            exact ⟨by omega, fun e => by have := (hlt2 b e).2; omega⟩)⟩
        · exact (hbl.trans (hb2.mono hz)).grown hg2 (by simp; omega) (fun j hj => (hlt2 j hj).1)
    · have HD := Lib.hid (gath_done (show Gath w ts n v wr from (show k = n by omega) ▸ ⟨cs, HO.out, HA.out⟩) HL.out)
      go_wp2
      go_ret
      obtain ⟨A', c', hv, hd⟩ := HD.out
      exact ⟨A', n, c', by rw [hv]; rfl, hd, hbl⟩
end Go.Proofs.Ytgjphmlmndcaeaa

namespace Go.Proofs.Ytgjphmlmndcaeaa
open Go.RowKit

/-- small enough: no text of more than so many bytes, no list of more than so many parts -/
def Small (nd : Nd) : Prop := nd.high.length ≤ 1152921504606 ∧ nd.keys.length ≤ 1152921504606 ∧ nd.vals.length ≤ 1152921504606 ∧ nd.kids.length ≤ 1152921504606 ∧ (∀ t ∈ nd.keys, t.length ≤ 1152921504606) ∧ (∀ t ∈ nd.vals, t.length ≤ 1152921504606)

theorem s4_keep {w0 w1 : World} {B : Nat} {v1 v2 v3 v4 : Value} (hb : Below w0.heap.size w0 w1)
    (h : w0.cell? ⟨B, 1, none⟩ = some v1 ∧ w0.cell? ⟨B, 3, none⟩ = some v2 ∧ w0.cell? ⟨B, 4, none⟩ = some v3 ∧ w0.cell? ⟨B, 5, none⟩ = some v4) :
    w1.cell? ⟨B, 1, none⟩ = some v1 ∧ w1.cell? ⟨B, 3, none⟩ = some v2 ∧ w1.cell? ⟨B, 4, none⟩ = some v3 ∧ w1.cell? ⟨B, 5, none⟩ = some v4 :=
  ⟨bkeep hb h.1, bkeep hb h.2.1, bkeep hb h.2.2.1, bkeep hb h.2.2.2⟩

/-- the answer is a node in new memory -/
def NewNode (w : World) (nd : Nd) (e : Ending) (w' : World) : Prop :=
  ∃ hA hn hc kA kn kc vA vn vc dA dn dc, e = .returned (.agg #[.int .i64 nd.lev, .slice hA hn hc, .int .i64 nd.right, .slice kA kn kc, .slice vA vn vc, .slice dA dn dc]) ∧
    Bt w' (From w.heap.size) hA hn hc nd.high ∧ Tx w' (From w.heap.size) kA kn kc nd.keys ∧ Tx w' (From w.heap.size) vA vn vc nd.vals ∧ It w' (From w.heap.size) dA dn dc nd.kids ∧ Below w.heap.size w w'

/-- the same, with more of where it lies: texts in a row of their own, numbers behind them, nothing frozen -/
def NewNodeS (w : World) (nd : Nd) (e : Ending) (w' : World) : Prop :=
  ∃ hA hn hc kA kn kc vA vn vc dA dn dc g hi, e = .returned (.agg #[.int .i64 nd.lev, .slice hA hn hc, .int .i64 nd.right, .slice kA kn kc, .slice vA vn vc, .slice dA dn dc]) ∧ w.heap.size ≤ g ∧
    Bt w' (Soft (From w.heap.size) w') hA hn hc nd.high ∧ TxS w' g hi kA kn kc nd.keys ∧ Tx w' (From w.heap.size) vA vn vc nd.vals ∧ It w' (Soft (From hi) w') dA dn dc nd.kids ∧ Below w.heap.size w w'
theorem NewNodeS.new {w w' : World} {nd : Nd} {e : Ending} (h : NewNodeS w nd e w') : NewNode w nd e w' := by
  obtain ⟨hA, hn, hc, kA, kn, kc, vA, vn, vc, dA, dn, dc, g, hi, h0, hg, h1, h2, h3, h4, h5⟩ := h
  exact ⟨hA, hn, hc, kA, kn, kc, vA, vn, vc, dA, dn, dc, h0, h1.weak (fun b hb => hb.1), h2.tx hg, h3, h4.weak (fun b hb => by have hb := hb.1; have := h2.2.2.2.2.1; simp only [From] at hb ⊢; omega), h5⟩

set_option maxRecDepth 100000 in
set_option maxHeartbeats 4000000 in
theorem nclone_S (nd : Nd) (F : Nat → Prop) (hA kA vA dA : Option Addr) (hn hc kn kc vn vc dn dc : Nat) (w : World)
    (h1 : Bt w F hA hn hc nd.high) (h2 : Tx w F kA kn kc nd.keys) (h3 : Tx w F vA vn vc nd.vals) (h4 : It w F dA dn dc nd.kids) (hs : Small nd) :
    Calls Try.prog 99 #[.agg #[.int .i64 nd.lev, .slice hA hn hc, .int .i64 nd.right, .slice kA kn kc, .slice vA vn vc, .slice dA dn dc]] w (NewNodeS w nd) := by
  have H1 := Lib.hid h1
  have H2 := Lib.hid h2
  have H3 := Lib.hid h3
  have H4 := Lib.hid h4
  have HS := Lib.hid hs
  have l1 : hn ≤ 1152921504606 := by have := h1.len; have := hs.1; omega
  have l2 : kn ≤ 1152921504606 := by have := h2.len; have := hs.2.1; omega
  have l3 : vn ≤ 1152921504606 := by have := h3.len; have := hs.2.2.1; omega
  have l4 : dn ≤ 1152921504606 := by have := h4.len; have := hs.2.2.2.1; omega
  clear h1 h2 h3 h4 hs
  go_enter Try.func99, Try.ntmps99
  go_wp2_with fail
  refine wp_region_U (fun w' => w'.cell? ⟨w.heap.size, 1, none⟩ = some (.slice hA hn hc) ∧ w'.cell? ⟨w.heap.size, 3, none⟩ = some (.slice kA kn kc) ∧ w'.cell? ⟨w.heap.size, 4, none⟩ = some (.slice vA vn vc) ∧ w'.cell? ⟨w.heap.size, 5, none⟩ = some (.slice dA dn dc)) 18 (by kernel_rfl) ?_
  obtain ⟨w0, hw0⟩ : ∃ w0, w0 = ((w.alloc (.cells #[.int .i64 nd.lev, .slice hA hn hc, .int .i64 nd.right, .slice kA kn kc, .slice vA vn vc, .slice dA dn dc] 93)).alloc (.cells #[.int .i64 0, .slice none 0 0, .int .i64 0, .slice none 0 0, .slice none 0 0, .slice none 0 0] 93)).drew := ⟨_, rfl⟩
  rw [← hw0]
  have S0 : w0.cell? ⟨w.heap.size, 1, none⟩ = some (.slice hA hn hc) ∧ w0.cell? ⟨w.heap.size, 3, none⟩ = some (.slice kA kn kc) ∧ w0.cell? ⟨w.heap.size, 4, none⟩ = some (.slice vA vn vc) ∧ w0.cell? ⟨w.heap.size, 5, none⟩ = some (.slice dA dn dc) := by
    subst hw0; simp
  have hb0 : Below w.heap.size w w0 := by subst hw0; exact (((Below.refl _ _).alloc (Nat.le_refl _) _).alloc (by simp) _).drew
  have kb0 : Blk w0 w.heap.size 93 #[.int .i64 nd.lev, .slice hA hn hc, .int .i64 nd.right, .slice kA kn kc, .slice vA vn vc, .slice dA dn dc] := by subst hw0; exact ((Blk.new _ _ _).alloc _).drew
  have kb1 : Blk w0 (w.heap.size + 1) 93 #[.int .i64 0, .slice none 0 0, .int .i64 0, .slice none 0 0, .slice none 0 0, .slice none 0 0] := by subst hw0; simpa using (Blk.new (w.alloc (.cells #[.int .i64 nd.lev, .slice hA hn hc, .int .i64 nd.right, .slice kA kn kc, .slice vA vn vc, .slice dA dn dc] 93)) 93 #[.int .i64 0, .slice none 0 0, .int .i64 0, .slice none 0 0, .slice none 0 0, .slice none 0 0]).drew
  clear hw0
  refine wpU_free (i := 0) (v := ?_) rfl (by kernel_rfl) (by kernel_rfl) (by kernel_rfl) (by kernel_rfl) (fun _ _ _ h => h) (fun _ => S0) (Or.inl ⟨by rfl, ?_⟩) ?_
  rotate_left
  · intro w hSw
    go_simp
    try with_reducible rfl
  try simp only [Act.put, List.setIfInBounds_toArray, List.set_cons_zero, List.set_cons_succ]
  refine wpU_free (i := 1) (v := ?_) rfl (by kernel_rfl) (by kernel_rfl) (by kernel_rfl) (by kernel_rfl) (fun _ _ _ h => h) (fun _ => S0) (Or.inl ⟨by rfl, ?_⟩) ?_
  rotate_left
  · intro w hSw
    go_simp
    try with_reducible rfl
  try simp only [Act.put, List.setIfInBounds_toArray, List.set_cons_zero, List.set_cons_succ]
  refine wpU_free (i := 4) (v := ?_) rfl (by kernel_rfl) (by kernel_rfl) (by kernel_rfl) (by kernel_rfl) (fun _ _ _ h => h) (fun _ => S0) (Or.inl ⟨by rfl, ?_⟩) ?_
  rotate_left
  · intro w hSw
    go_simp
    try with_reducible rfl
  try simp only [Act.put, List.setIfInBounds_toArray, List.set_cons_zero, List.set_cons_succ]
  refine wpU_free (i := 5) (v := ?_) rfl (by kernel_rfl) (by kernel_rfl) (by kernel_rfl) (by kernel_rfl) (fun _ _ _ h => h) (fun _ => S0) (Or.inl ⟨by rfl, ?_⟩) ?_
  rotate_left
  · intro w hSw
    go_simp
    try with_reducible rfl
  try simp only [Act.put, List.setIfInBounds_toArray, List.set_cons_zero, List.set_cons_succ]
  refine wpU_free (i := 8) (v := ?_) rfl (by kernel_rfl) (by kernel_rfl) (by kernel_rfl) (by kernel_rfl) (fun _ _ _ h => h) (fun _ => S0) (Or.inl ⟨by rfl, ?_⟩) ?_
  rotate_left
  · intro w hSw
    go_simp
    try with_reducible rfl
  try simp only [Act.put, List.setIfInBounds_toArray, List.set_cons_zero, List.set_cons_succ]
  refine wpU_free (i := 9) (v := ?_) rfl (by kernel_rfl) (by kernel_rfl) (by kernel_rfl) (by kernel_rfl) (fun _ _ _ h => h) (fun _ => S0) (Or.inl ⟨by rfl, ?_⟩) ?_
  rotate_left
  · intro w hSw
    go_simp
    try with_reducible rfl
  try simp only [Act.put, List.setIfInBounds_toArray, List.set_cons_zero, List.set_cons_succ]
  refine wpU_free (i := 12) (v := ?_) rfl (by kernel_rfl) (by kernel_rfl) (by kernel_rfl) (by kernel_rfl) (fun _ _ _ h => h) (fun _ => S0) (Or.inl ⟨by rfl, ?_⟩) ?_
  rotate_left
  · intro w hSw
    go_simp
    try with_reducible rfl
  try simp only [Act.put, List.setIfInBounds_toArray, List.set_cons_zero, List.set_cons_succ]
  refine wpU_free (i := 13) (v := ?_) rfl (by kernel_rfl) (by kernel_rfl) (by kernel_rfl) (by kernel_rfl) (fun _ _ _ h => h) (fun _ => S0) (Or.inl ⟨by rfl, ?_⟩) ?_
  rotate_left
  · intro w hSw
    go_simp
    try with_reducible rfl
  try simp only [Act.put, List.setIfInBounds_toArray, List.set_cons_zero, List.set_cons_succ]
  refine wpU_take (i := 2) (v := ?_) rfl (by kernel_rfl) (by kernel_rfl) (by kernel_rfl) (by kernel_rfl) (fun _ _ _ h => h) S0 (Or.inl ⟨by rfl, ?_⟩) ?_
  rotate_left
  · intro w hSw
    obtain ⟨s1, s3, s4, s5⟩ := hSw
    go_simp
    try with_reducible rfl
  try simp only [Act.put, List.setIfInBounds_toArray, List.set_cons_zero, List.set_cons_succ]
  refine wpU_take (i := 6) (v := ?_) rfl (by kernel_rfl) (by kernel_rfl) (by kernel_rfl) (by kernel_rfl) (fun _ _ _ h => h) S0 (Or.inl ⟨by rfl, ?_⟩) ?_
  rotate_left
  · intro w hSw
    obtain ⟨s1, s3, s4, s5⟩ := hSw
    go_simp
    try with_reducible rfl
  try simp only [Act.put, List.setIfInBounds_toArray, List.set_cons_zero, List.set_cons_succ]
  refine wpU_take (i := 10) (v := ?_) rfl (by kernel_rfl) (by kernel_rfl) (by kernel_rfl) (by kernel_rfl) (fun _ _ _ h => h) S0 (Or.inl ⟨by rfl, ?_⟩) ?_
  rotate_left
  · intro w hSw
    obtain ⟨s1, s3, s4, s5⟩ := hSw
    go_simp
    try with_reducible rfl
  try simp only [Act.put, List.setIfInBounds_toArray, List.set_cons_zero, List.set_cons_succ]
  refine wpU_take (i := 14) (v := ?_) rfl (by kernel_rfl) (by kernel_rfl) (by kernel_rfl) (by kernel_rfl) (fun _ _ _ h => h) S0 (Or.inl ⟨by rfl, ?_⟩) ?_
  rotate_left
  · intro w hSw
    obtain ⟨s1, s3, s4, s5⟩ := hSw
    go_simp
    try with_reducible rfl
  try simp only [Act.put, List.setIfInBounds_toArray, List.set_cons_zero, List.set_cons_succ]
  refine wpU_one (i := 3) (by kernel_rfl) rfl (fun K hK => ?_)
  go_simp
  refine (clone_any _ _ _ F nd.high _ (H1.out.2.2.2.below hb0) H1.out.2.2.1 l1).mono ?_
  rintro e w1 ⟨A1, n1, c1, rfl, p1, p2, p3, p4, hb1⟩
  have S1 := s4_keep hb1 S0
  have hB1 := hb0.trans (hb1.mono hb0.size)
  refine hK.out _ _ (fun _ => S1) ?_
  clear hK K
  try simp only [Act.put, List.setIfInBounds_toArray, List.set_cons_zero, List.set_cons_succ]
  refine wpU_free (i := 16) (v := ?_) rfl (by kernel_rfl) (by kernel_rfl) (by kernel_rfl) (by kernel_rfl) (fun _ _ _ h => h) (fun _ => S1) (Or.inl ⟨by rfl, ?_⟩) ?_
  rotate_left
  · intro w hSw
    go_simp
    try with_reducible rfl
  try simp only [Act.put, List.setIfInBounds_toArray, List.set_cons_zero, List.set_cons_succ]
  refine wpU_free (i := 17) (v := ?_) rfl (by kernel_rfl) (by kernel_rfl) (by kernel_rfl) (by kernel_rfl) (fun _ _ _ h => h) (fun _ => S1) (Or.inl ⟨by rfl, ?_⟩) ?_
  rotate_left
  · intro w hSw
    go_simp
    try with_reducible rfl
  try simp only [Act.put, List.setIfInBounds_toArray, List.set_cons_zero, List.set_cons_succ]
  refine wpU_one (i := 7) (by kernel_rfl) rfl (fun K hK => ?_)
  go_simp
  refine (texts_any _ _ _ F nd.keys _ (H2.out.below hB1) l2 HS.out.2.2.2.2.1).mono ?_
  rintro e w2 ⟨A2, n2, c2, rfl, q2, hb2⟩
  have S2 := s4_keep hb2 S1
  have hB2 := hB1.trans (hb2.mono hB1.size)
  refine hK.out _ _ (fun _ => S2) ?_
  clear hK K
  try simp only [Act.put, List.setIfInBounds_toArray, List.set_cons_zero, List.set_cons_succ]
  refine wpU_one (i := 11) (by kernel_rfl) rfl (fun K hK => ?_)
  go_simp
  refine (texts_any _ _ _ F nd.vals _ (H3.out.below hB2) l3 HS.out.2.2.2.2.2).mono ?_
  rintro e w3 ⟨A3, n3, c3, rfl, q3, hb3⟩
  have S3 := s4_keep hb3 S2
  have hB3 := hB2.trans (hb3.mono hB2.size)
  refine hK.out _ _ (fun _ => S3) ?_
  clear hK K
  try simp only [Act.put, List.setIfInBounds_toArray, List.set_cons_zero, List.set_cons_succ]
  refine wpU_one (i := 15) (by kernel_rfl) rfl (fun K hK => ?_)
  go_simp
  refine (cloneInts_any _ _ _ F (nd.kids.map (Value.int .i64)) _ (H4.out.2.2.2.below hB3) (ints_one _) l4).mono ?_
  rintro e w4 ⟨A4, c4, rfl, r1, r2, r3, hb4⟩
  have S4 := s4_keep hb4 S3
  have hB4 := hB3.trans (hb4.mono hB3.size)
  refine hK.out _ _ (fun _ => S4) ?_
  clear hK K
  try simp only [Act.put, List.setIfInBounds_toArray, List.set_cons_zero, List.set_cons_succ]
  have k0 := ((((kb0.below hb1).below hb2).below hb3).below hb4)
  have k1 := ((((kb1.below hb1).below hb2).below hb3).below hb4)
  have z0 : w4.cell? ⟨w.heap.size, 0, none⟩ = some (.int .i64 nd.lev) := by rw [k0.cell]; rfl
  have z2 : w4.cell? ⟨w.heap.size, 2, none⟩ = some (.int .i64 nd.right) := by rw [k0.cell]; rfl
  obtain ⟨z1, z3, z4, z5⟩ := S4
  have f0 : ∀ o, w4.frozen? ⟨w.heap.size, o, none⟩ = false := k0.frozen
  have f1 : ∀ o, w4.frozen? ⟨w.heap.size + 1, o, none⟩ = false := k1.frozen
  have y0 : w4.cell? ⟨w.heap.size + 1, 0, none⟩ = some (.int .i64 0) := by rw [k1.cell]; rfl
  have y1 : w4.cell? ⟨w.heap.size + 1, 1, none⟩ = some (.slice none 0 0) := by rw [k1.cell]; rfl
  have y2 : w4.cell? ⟨w.heap.size + 1, 2, none⟩ = some (.int .i64 0) := by rw [k1.cell]; rfl
  have y3 : w4.cell? ⟨w.heap.size + 1, 3, none⟩ = some (.slice none 0 0) := by rw [k1.cell]; rfl
  have y4 : w4.cell? ⟨w.heap.size + 1, 4, none⟩ = some (.slice none 0 0) := by rw [k1.cell]; rfl
  have y5 : w4.cell? ⟨w.heap.size + 1, 5, none⟩ = some (.slice none 0 0) := by rw [k1.cell]; rfl
  refine wpU_one (i := 18) (by kernel_rfl) rfl (fun K hK => ?_)
  go_simp
  refine hK.out _ _ (fun h => absurd h (by decide)) ?_
  clear hK K
  try simp only [Act.put, List.setIfInBounds_toArray, List.set_cons_zero, List.set_cons_succ]
  refine wpU_free (i := 19) (v := ?_) rfl (by kernel_rfl) (by kernel_rfl) (by kernel_rfl) (by kernel_rfl) (fun _ _ _ h => h) (fun h => absurd h (by decide)) (Or.inl ⟨by rfl, ?_⟩) ?_
  rotate_left
  · intro w hSw
    go_simp
    try with_reducible rfl
  try simp only [Act.put, List.setIfInBounds_toArray, List.set_cons_zero, List.set_cons_succ]
  refine wpU_free (i := 20) (v := ?_) rfl (by kernel_rfl) (by kernel_rfl) (by kernel_rfl) (by kernel_rfl) (fun _ _ _ h => h) (fun h => absurd h (by decide)) (Or.inl ⟨by rfl, ?_⟩) ?_
  rotate_left
  · intro w hSw
    go_simp
    try with_reducible rfl
  try simp only [Act.put, List.setIfInBounds_toArray, List.set_cons_zero, List.set_cons_succ]
  refine wpU_one (i := 21) (by kernel_rfl) rfl (fun K hK => ?_)
  go_simp
  refine hK.out _ _ (fun h => absurd h (by decide)) ?_
  clear hK K
  try simp only [Act.put, List.setIfInBounds_toArray, List.set_cons_zero, List.set_cons_succ]
  refine wpU_free (i := 22) (v := ?_) rfl (by kernel_rfl) (by kernel_rfl) (by kernel_rfl) (by kernel_rfl) (fun _ _ _ h => h) (fun h => absurd h (by decide)) (Or.inl ⟨by rfl, ?_⟩) ?_
  rotate_left
  · intro w hSw
    go_simp
    try with_reducible rfl
  try simp only [Act.put, List.setIfInBounds_toArray, List.set_cons_zero, List.set_cons_succ]
  refine wpU_free (i := 23) (v := ?_) rfl (by kernel_rfl) (by kernel_rfl) (by kernel_rfl) (by kernel_rfl) (fun _ _ _ h => h) (fun h => absurd h (by decide)) (Or.inl ⟨by rfl, ?_⟩) ?_
  rotate_left
  · intro w hSw
    go_simp
    try with_reducible rfl
  try simp only [Act.put, List.setIfInBounds_toArray, List.set_cons_zero, List.set_cons_succ]
  refine wpU_one (i := 24) (by kernel_rfl) rfl (fun K hK => ?_)
  go_simp
  refine hK.out _ _ (fun h => absurd h (by decide)) ?_
  clear hK K
  try simp only [Act.put, List.setIfInBounds_toArray, List.set_cons_zero, List.set_cons_succ]
  refine wpU_free (i := 25) (v := ?_) rfl (by kernel_rfl) (by kernel_rfl) (by kernel_rfl) (by kernel_rfl) (fun _ _ _ h => h) (fun h => absurd h (by decide)) (Or.inl ⟨by rfl, ?_⟩) ?_
  rotate_left
  · intro w hSw
    go_simp
    try with_reducible rfl
  try simp only [Act.put, List.setIfInBounds_toArray, List.set_cons_zero, List.set_cons_succ]
  refine wpU_free (i := 26) (v := ?_) rfl (by kernel_rfl) (by kernel_rfl) (by kernel_rfl) (by kernel_rfl) (fun _ _ _ h => h) (fun h => absurd h (by decide)) (Or.inl ⟨by rfl, ?_⟩) ?_
  rotate_left
  · intro w hSw
    go_simp
    try with_reducible rfl
  try simp only [Act.put, List.setIfInBounds_toArray, List.set_cons_zero, List.set_cons_succ]
  refine wpU_one (i := 27) (by kernel_rfl) rfl (fun K hK => ?_)
  go_simp
  refine hK.out _ _ (fun h => absurd h (by decide)) ?_
  clear hK K
  try simp only [Act.put, List.setIfInBounds_toArray, List.set_cons_zero, List.set_cons_succ]
  refine wpU_done (by kernel_rfl) ?_ _
  go_wp2
  refine bodyPost_ret (v := .agg #[.int .i64 nd.lev, .slice A1 n1 c1, .int .i64 nd.right, .slice A2 n2 c2, .slice A3 n3 c3, .slice A4 dn c4]) (by simp [results, Try.results99, go_sem, *]) rfl ?_
  have hch : Chg (fun b => w.heap.size ≤ b ∧ b ≤ w.heap.size + 1) w4 ((((((((((w4.setCell ⟨w.heap.size, 1, none⟩ (.slice A1 n1 c1)).setCell ⟨w.heap.size, 3, none⟩ (.slice A2 n2 c2)).setCell ⟨w.heap.size, 4, none⟩ (.slice A3 n3 c3)).setCell ⟨w.heap.size, 5, none⟩ (.slice A4 dn c4)).setCell ⟨w.heap.size + 1, 0, none⟩ (.int .i64 nd.lev)).setCell ⟨w.heap.size + 1, 1, none⟩ (.slice A1 n1 c1)).setCell ⟨w.heap.size + 1, 2, none⟩ (.int .i64 nd.right)).setCell ⟨w.heap.size + 1, 3, none⟩ (.slice A2 n2 c2)).setCell ⟨w.heap.size + 1, 4, none⟩ (.slice A3 n3 c3)).setCell ⟨w.heap.size + 1, 5, none⟩ (.slice A4 dn c4)) := by
    repeat (refine Chg.setCell ?_ (p := ⟨_, _, none⟩) (fun _ => by simp) _)
    exact Chg.refl _ _
  have hn : ∀ b, From (w.heap.size + 2) b → ¬ (w.heap.size ≤ b ∧ b ≤ w.heap.size + 1) := fun b hb h => by have hb : w.heap.size + 2 ≤ b := hb; omega
  have z0 : w.heap.size + 2 ≤ w0.heap.size := by have := kb1.lt; omega
  have z1 := hb1.size
  have z2 := hb2.size
  have z3 := hb3.size
  have g1 : Bt w4 (Soft (From (w.heap.size + 2)) w4) A1 n1 c1 nd.high := ((((show Bt w1 (Soft (From w0.heap.size) w1) A1 n1 c1 nd.high from ⟨p1, p2, p3, p4⟩).soft_below hb2).soft_below hb3).soft_below hb4).weak (Soft.weak (fun b hb => by have hb : w0.heap.size ≤ b := hb; show w.heap.size + 2 ≤ b; omega))
  have g2 : TxS w4 w1.heap.size w2.heap.size A2 n2 c2 nd.keys := (q2.below hb3).below hb4
  have g3 : Tx w4 (From (w.heap.size + 2)) A3 n3 c3 nd.vals := ((q3.tx (Nat.le_refl _)).below hb4).weak (fun b hb => by have hb : w2.heap.size ≤ b := hb; show w.heap.size + 2 ≤ b; omega)
  have g4 : It w4 (Soft (From w2.heap.size) w4) A4 dn c4 nd.kids := ⟨r1, r2, H4.out.2.2.1, r3.weak (Soft.weak (fun b hb => by have hb : w3.heap.size ≤ b := hb; show w2.heap.size ≤ b; omega))⟩
  have up : ∀ b, From (w.heap.size + 2) b → From w.heap.size b := fun b hb => by have hb : w.heap.size + 2 ≤ b := hb; show w.heap.size ≤ b; omega
  exact ⟨_, _, _, _, _, _, _, _, _, _, _, _, w1.heap.size, w2.heap.size, rfl, by omega, (g1.soft_chg hch hn).weak (Soft.weak up), g2.chg hch (fun b h1 _ h => by omega), (g3.chg hch hn).weak up, g4.soft_chg hch (fun b hb h => by simp only [From] at hb; omega), hB4.trans (hch.below_of hB4.size (fun b hb h => by omega))⟩
theorem nclone_any (nd : Nd) (F : Nat → Prop) (hA kA vA dA : Option Addr) (hn hc kn kc vn vc dn dc : Nat) (w : World)
    (h1 : Bt w F hA hn hc nd.high) (h2 : Tx w F kA kn kc nd.keys) (h3 : Tx w F vA vn vc nd.vals) (h4 : It w F dA dn dc nd.kids) (hs : Small nd) :
    Calls Try.prog 99 #[.agg #[.int .i64 nd.lev, .slice hA hn hc, .int .i64 nd.right, .slice kA kn kc, .slice vA vn vc, .slice dA dn dc]] w (NewNode w nd) :=
  (nclone_S nd F hA kA vA dA hn hc kn kc vn vc dn dc w h1 h2 h3 h4 hs).mono fun _ _ h => h.new
end Go.Proofs.Ytgjphmlmndcaeaa
