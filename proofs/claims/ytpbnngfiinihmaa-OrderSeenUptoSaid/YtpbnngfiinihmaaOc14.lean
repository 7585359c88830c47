/- Sorting by blocks (what slices.stableCmpFunc does), as a plain law. No program in sight. WALKS: a stable sort (slices.stableCmpFunc, slices.SortStableFunc). WALKS: the closure of order.Line: the points of two calls compared. WALKS: order.Line. -/
import Derived.Test.YtpbnngfiinihmaaOc02
import Derived.Test.YtpbnngfiinihmaaOc13
import Derived.Test.YtpbnngfiinihmaaOc05
import Derived.Test.YtpbnngfiinihmaaOc03
import Derived.Test.YtpbnngfiinihmaaOc09
import Derived.Deep.Cut
set_option linter.unusedVariables false
set_option linter.unusedSimpArgs false
namespace Go.Proofs.Ytpbnngfiinihmaa
/-- block k of size bs, in a row of n -/
def BkOk (κ : Int → Int) (n : Nat) (xs ys : Nat → Int) (lo hi : Nat) : Prop := Srt κ lo (min hi n) ys ∧ SameS lo (min hi n) xs ys
section
variable {κ : Int → Int} {n bs k0 : Nat} {xs ys zs : Nat → Int} {lo hi : Nat}
theorem BkOk.congr (h : BkOk κ n xs ys lo hi) (he : ∀ i, lo ≤ i → i < hi → zs i = ys i) : BkOk κ n xs zs lo hi :=
  ⟨h.1.congr (fun i h1 h2 => he i h1 (by omega)), h.2.trans (SameS.of_eq fun i h1 h2 => he i h1 (by omega))⟩
/-- the first k0 blocks are sorted, the rest is as it was -/
def Bk1 (κ : Int → Int) (n : Nat) (xs ys : Nat → Int) (k0 : Nat) : Prop := (∀ k, k < k0 → BkOk κ n xs ys (k * 20) (k * 20 + 20)) ∧ ∀ i, k0 * 20 ≤ i → ys i = xs i
/-- all blocks are sorted -/
def Bks (κ : Int → Int) (n : Nat) (xs ys : Nat → Int) (bs : Nat) : Prop := ∀ k, k * bs < n → BkOk κ n xs ys (k * bs) (k * bs + bs)
theorem Bk1.zero (κ : Int → Int) (n : Nat) (xs : Nat → Int) : Bk1 κ n xs xs 0 := ⟨fun k h => absurd h (by omega), fun _ _ => rfl⟩
theorem Bk1.step (h : Bk1 κ n xs ys k0) (hn : k0 * 20 + 20 ≤ n) (hm : Mrgd κ (k0 * 20) (k0 * 20 + 20) ys zs) : Bk1 κ n xs zs (k0 + 1) := by
  refine ⟨fun k hk => ?_, fun i hi => by rw [hm.out i (by omega)]; exact h.2 i (by omega)⟩
  by_cases c : k = k0
  · subst c
    have hmin : min (k * 20 + 20) n = k * 20 + 20 := by omega
    exact ⟨by rw [hmin]; exact hm.srt, by rw [hmin]; exact (SameS.of_eq fun i h1 _ => h.2 i h1).trans hm.same⟩
  · exact (h.1 k (by omega)).congr (fun i h1 h2 => hm.out i (by omega))
theorem Bk1.fin (h : Bk1 κ n xs ys k0) (hn : k0 * 20 ≤ n) (hn2 : n < k0 * 20 + 20) (hm : Mrgd κ (k0 * 20) n ys zs) : Bks κ n xs zs 20 := by
  intro k hk
  by_cases c : k = k0
  · subst c
    have hmin : min (k * 20 + 20) n = n := by omega
    exact ⟨by rw [hmin]; exact hm.srt, by rw [hmin]; exact (SameS.of_eq fun i h1 _ => h.2 i h1).trans hm.same⟩
  · exact (h.1 k (by omega)).congr (fun i h1 h2 => hm.out i (by omega))
/-- the first k0 double blocks are merged, the rest stands in blocks -/
structure Bk2 (κ : Int → Int) (n : Nat) (xs ys : Nat → Int) (bs k0 : Nat) : Prop where
  lo : ∀ k, k < k0 → BkOk κ n xs ys (k * (2 * bs)) (k * (2 * bs) + 2 * bs)
  hi : ∀ k, 2 * k0 ≤ k → k * bs < n → BkOk κ n xs ys (k * bs) (k * bs + bs)
theorem Bk2.zero (h : Bks κ n xs ys bs) : Bk2 κ n xs ys bs 0 := ⟨fun k h => absurd h (by omega), fun k _ hk => h k hk⟩
theorem two_mul_bs (k0 bs : Nat) : (2 * k0) * bs = k0 * (2 * bs) := by rw [Nat.mul_comm 2 k0, Nat.mul_assoc]
/-- what the merge of the next double block is given -/
theorem Bk2.mrg (h : Bk2 κ n xs ys bs k0) (hup : ∀ i j, i < j → j < n → xs i < xs j) (hb : 0 < bs) (hn : k0 * (2 * bs) + bs < n) : Mrg κ (k0 * (2 * bs)) (k0 * (2 * bs) + bs) (min (k0 * (2 * bs) + 2 * bs) n) ys := by
  obtain ⟨A, hA⟩ : ∃ A, A = k0 * (2 * bs) := ⟨_, rfl⟩
  have e1 := two_mul_bs k0 bs
  have e2 : (2 * k0 + 1) * bs = A + bs := by rw [Nat.add_mul, e1, hA, Nat.one_mul]
  rw [← hA] at e1 hn ⊢
  obtain ⟨s1, m1⟩ := h.hi (2 * k0) (Nat.le_refl _) (by omega)
  obtain ⟨s2, m2⟩ := h.hi (2 * k0 + 1) (by omega) (by omega)
  rw [e1] at s1 m1
  rw [e2] at s2 m2
  have q1 : min (A + bs) n = A + bs := by omega
  have q2 : min (A + bs + bs) n = min (A + 2 * bs) n := by omega
  rw [q1] at s1 m1
  rw [q2] at s2 m2
  refine ⟨by omega, by omega, s1, s2, fun i j h1 h2 h3 h4 => ?_⟩
  obtain ⟨i', a1, a2, a3⟩ := (m1 (ys i)).2 ⟨i, h1, h2, rfl⟩
  obtain ⟨j', b1, b2, b3⟩ := (m2 (ys j)).2 ⟨j, h3, h4, rfl⟩
  rw [← a3, ← b3]
  exact hup i' j' (by omega) (by omega)
theorem Bk2.block (h : Bk2 κ n xs ys bs k0) (hb : 0 < bs) (hn : k0 * (2 * bs) + bs < n) (hm : Mrgd κ (k0 * (2 * bs)) (min (k0 * (2 * bs) + 2 * bs) n) ys zs) : BkOk κ n xs zs (k0 * (2 * bs)) (k0 * (2 * bs) + 2 * bs) := by
  obtain ⟨A, hA⟩ : ∃ A, A = k0 * (2 * bs) := ⟨_, rfl⟩
  have e1 := two_mul_bs k0 bs
  have e2 : (2 * k0 + 1) * bs = A + bs := by rw [Nat.add_mul, e1, hA, Nat.one_mul]
  rw [← hA] at e1 hn hm ⊢
  obtain ⟨s1, m1⟩ := h.hi (2 * k0) (Nat.le_refl _) (by omega)
  obtain ⟨s2, m2⟩ := h.hi (2 * k0 + 1) (by omega) (by omega)
  rw [e1] at s1 m1
  rw [e2] at s2 m2
  have q1 : min (A + bs) n = A + bs := by omega
  have q2 : min (A + bs + bs) n = min (A + 2 * bs) n := by omega
  rw [q1] at s1 m1
  rw [q2] at s2 m2
  exact ⟨hm.srt, (SameS.join (m := A + bs) (by omega) (by omega) m1 m2).trans hm.same⟩
theorem Bk2.step (h : Bk2 κ n xs ys bs k0) (hb : 0 < bs) (hn : k0 * (2 * bs) + 2 * bs ≤ n) (hm : Mrgd κ (k0 * (2 * bs)) (k0 * (2 * bs) + 2 * bs) ys zs) : Bk2 κ n xs zs bs (k0 + 1) := by
  have hbk := h.block hb (by omega) (zs := zs) (by rw [Nat.min_eq_left hn]; exact hm)
  refine ⟨fun k hk => ?_, fun k hk hkn => ?_⟩
  · by_cases c : k = k0
    · subst c; exact hbk
    · refine (h.lo k (by omega)).congr (fun i h1 h2 => hm.out i (fun hx => ?_))
      have : (k + 1) * (2 * bs) ≤ k0 * (2 * bs) := Nat.mul_le_mul_right _ (by omega)
      rw [Nat.add_mul, Nat.one_mul] at this
      omega
  · refine (h.hi k (by omega) hkn).congr (fun i h1 h2 => hm.out i (fun hx => ?_))
    have e3 : (2 * k0 + 2) * bs ≤ k * bs := Nat.mul_le_mul_right _ (by omega)
    rw [Nat.add_mul, two_mul_bs] at e3
    omega
/-- behind the last double block -/
theorem Bk2.fin (h : Bk2 κ n xs ys bs k0) (hb : 0 < bs) (hn : k0 * (2 * bs) ≤ n) (hn2 : n < k0 * (2 * bs) + 2 * bs) (hn3 : n ≤ k0 * (2 * bs) + bs) : Bks κ n xs ys (2 * bs) := by
  intro k hk
  by_cases c : k < k0
  · exact h.lo k c
  · have hk0 : k = k0 := by
      rcases Nat.lt_or_ge k0 k with h' | h'
      · have : (k0 + 1) * (2 * bs) ≤ k * (2 * bs) := Nat.mul_le_mul_right _ (by omega)
        rw [Nat.add_mul, Nat.one_mul] at this
        omega
      · omega
    subst hk0
    have e1 := two_mul_bs k bs
    obtain ⟨s1, m1⟩ := h.hi (2 * k) (Nat.le_refl _) (by omega)
    rw [e1] at s1 m1
    have q1 : min (k * (2 * bs) + bs) n = min (k * (2 * bs) + 2 * bs) n := by omega
    rw [q1] at s1 m1
    exact ⟨s1, m1⟩
theorem Bk2.fin2 (h : Bk2 κ n xs ys bs k0) (hb : 0 < bs) (hn2 : n < k0 * (2 * bs) + 2 * bs) (hn3 : k0 * (2 * bs) + bs < n) (hm : Mrgd κ (k0 * (2 * bs)) n ys zs) : Bks κ n xs zs (2 * bs) := by
  have hbk := h.block hb hn3 (zs := zs) (by rw [Nat.min_eq_right (by omega)]; exact hm)
  intro k hk
  by_cases c : k < k0
  · refine (h.lo k c).congr (fun i h1 h2 => hm.out i (fun hx => ?_))
    have : (k + 1) * (2 * bs) ≤ k0 * (2 * bs) := Nat.mul_le_mul_right _ (by omega)
    rw [Nat.add_mul, Nat.one_mul] at this
    omega
  · have hk0 : k = k0 := by
      rcases Nat.lt_or_ge k0 k with h' | h'
      · have : (k0 + 1) * (2 * bs) ≤ k * (2 * bs) := Nat.mul_le_mul_right _ (by omega)
        rw [Nat.add_mul, Nat.one_mul] at this
        omega
      · omega
    subst hk0
    exact hbk
theorem Bks.whole (h : Bks κ n xs ys bs) (hn : 0 < n) (hb : n ≤ bs) : Srt κ 0 n ys ∧ SameS 0 n xs ys := by
  obtain ⟨s1, m1⟩ := h 0 (by omega)
  rw [Nat.zero_mul, Nat.min_eq_right (by omega)] at s1 m1
  exact ⟨s1, m1⟩
theorem Bk2.vs {V : Int → Prop} (h : Bk2 κ n xs ys bs k0) (hb : 0 < bs) (hk : k0 * (2 * bs) ≤ n) (hv : ∀ i, i < n → V (xs i)) : ∀ i, i < n → V (ys i) := by
  intro i hi
  by_cases c : i < k0 * (2 * bs)
  · have hq := Nat.div_add_mod i (2 * bs)
    have hr := Nat.mod_lt i (show 0 < 2 * bs by omega)
    rw [Nat.mul_comm] at hq
    have hlt : i / (2 * bs) < k0 := (Nat.div_lt_iff_lt_mul (by omega)).2 c
    obtain ⟨_, m⟩ := h.lo _ hlt
    obtain ⟨j, h1, h2, h3⟩ := (m (ys i)).2 ⟨i, by omega, by omega, rfl⟩
    rw [← h3]; exact hv j (by omega)
  · have hq := Nat.div_add_mod i bs
    have hr := Nat.mod_lt i hb
    rw [Nat.mul_comm] at hq
    have hge : 2 * k0 ≤ i / bs := (Nat.le_div_iff_mul_le hb).2 (by rw [two_mul_bs]; omega)
    obtain ⟨_, m⟩ := h.hi _ hge (by omega)
    obtain ⟨j, h1, h2, h3⟩ := (m (ys i)).2 ⟨i, by omega, by omega, rfl⟩
    rw [← h3]; exact hv j (by omega)
theorem Bk1.vs {V : Int → Prop} (h : Bk1 κ n xs ys k0) (hv : ∀ i, i < n → V (xs i)) : ∀ i, i < n → V (ys i) := by
  intro i hi
  by_cases c : i < k0 * 20
  · obtain ⟨_, m⟩ := h.1 (i / 20) (by omega)
    obtain ⟨j, h1, h2, h3⟩ := (m (ys i)).2 ⟨i, by omega, by omega, rfl⟩
    rw [← h3]; exact hv j (by omega)
  · rw [h.2 i (by omega)]; exact hv i hi
end
end Go.Proofs.Ytpbnngfiinihmaa

namespace Go.Proofs.Ytpbnngfiinihmaa
open Go.RowKit
noncomputable def stInC : Code := codeOr (Try.f41.body.bind (blockIn 4))
set_option maxRecDepth 100000 in
set_option maxHeartbeats 4000000 in
theorem st_in (g o n c bs b2 : Nat) (pl : Addr) (κ : Int → Int) (V : Int → Prop) (xs ys : Nat → Int) (w : World) {u3 u4 u5 u9 u10 u11 u12 u13 u14 u15 u16 u17 u18 u19 u20 u21 u22 u23 u24 u25 u26 u27 u28 u29 u30 u31 u32 u33 u34 u35 u36 u37 u38 u39 u40 u41 u42 u43 u44 u45 u46 u47 u48 u49 u50 u51 u52 u53 u54 u55 u56 u57 u58 u59 u60 u61 u62 : Value} (Q : Exit → Act → World → Prop)
    (hb2 : b2 = 2 * bs) (hbs : 0 < bs) (hbn : bs < n) (hn : n ≤ 1152921504606) (HC : Hid (Cmp w g pl κ V)) (HR : Hid (RowI w g o n ys)) (HV : Hid (Vs V n xs)) (HUP : Hid (∀ i j, i < j → j < n → xs i < xs j)) (HB : Hid (Bks κ n xs ys bs))
    (hexit : ∀ (v33 v34 v35 v36 v37 v38 v39 v40 v41 v42 v43 v44 v45 v46 v47 v48 : Value) (a b k0 : Nat) (zs : Nat → Int) (w' : World), a = k0 * (2 * bs) → b = a + b2 → a ≤ n → n < b → RowI w' g o n zs → Bk2 κ n xs zs bs k0 → Chg (One g) w w' → Q (.exit 4) ⟨(.slice (some ⟨g, o, none⟩) n c :: .int .i64 n :: .func (.func 18) #[] #[.pointer (some pl)] :: u3 :: u4 :: u5 :: .int .i64 bs :: .int .i64 a :: .int .i64 b :: u9 :: u10 :: u11 :: u12 :: u13 :: u14 :: u15 :: u16 :: u17 :: u18 :: u19 :: u20 :: u21 :: u22 :: u23 :: u24 :: u25 :: u26 :: u27 :: u28 :: u29 :: u30 :: u31 :: u32 :: v33 :: v34 :: v35 :: v36 :: v37 :: v38 :: v39 :: v40 :: v41 :: v42 :: v43 :: v44 :: v45 :: v46 :: v47 :: v48 :: u49 :: u50 :: u51 :: u52 :: u53 :: u54 :: u55 :: u56 :: u57 :: u58 :: u59 :: u60 :: u61 :: u62 :: []).toArray, []⟩ w') :
    Code.wp Try.prog stInC Q ⟨(.slice (some ⟨g, o, none⟩) n c :: .int .i64 n :: .func (.func 18) #[] #[.pointer (some pl)] :: u3 :: u4 :: u5 :: .int .i64 bs :: .int .i64 0 :: .int .i64 b2 :: u9 :: u10 :: u11 :: u12 :: u13 :: u14 :: u15 :: u16 :: u17 :: u18 :: u19 :: u20 :: u21 :: u22 :: u23 :: u24 :: u25 :: u26 :: u27 :: u28 :: u29 :: u30 :: u31 :: u32 :: u33 :: u34 :: u35 :: u36 :: u37 :: u38 :: u39 :: u40 :: u41 :: u42 :: u43 :: u44 :: u45 :: u46 :: u47 :: u48 :: u49 :: u50 :: u51 :: u52 :: u53 :: u54 :: u55 :: u56 :: u57 :: u58 :: u59 :: u60 :: u61 :: u62 :: []).toArray, []⟩ w := by
  have HEX := Lib.hid hexit
  have HB2 := Lib.hid hb2
  clear hexit
  have hw4 := IntWalk.i64_in ((2 : Int) * (bs : Int)) (by omega)
  have hw6 : (2 : Int) * (bs : Int) = (b2 : Int) := by omega
  have hb3 : b2 ≤ 2305843009212 := by omega
  have hb4 : bs ≤ b2 := by omega
  clear hb2
  conv => arg 2; whnf
  go_loopg [7, 8] n (fun g' av bv wz => ∃ (a b k0 : Nat) (zs : Nat → Int), g' = n - a ∧ a = k0 * (2 * bs) ∧ b = a + b2 ∧ a ≤ n ∧ av = .int .i64 a ∧ bv = .int .i64 b ∧ RowI wz g o n zs ∧ Bk2 κ n xs zs bs k0 ∧ Chg (One g) w wz)
  case atStart => exact ⟨0, b2, 0, ys, by omega, by simp, by simp, by omega, rfl, rfl, HR.out, Bk2.zero HB.out, Chg.refl _ _⟩
  case round =>
    obtain ⟨a, b, k0, zs, hg, ha, hb, han, rfl, rfl, hr, hk, hc⟩ := hrel
    have HG := Lib.hid hg
    have HA := Lib.hid ha
    have HBB := Lib.hid hb
    have HRZ := Lib.hid hr
    have HK := Lib.hid hk
    have HCH := Lib.hid hc
    have hab : a ≤ b := by omega
    clear hg ha hr hk hc
    by_cases hlt : b ≤ n
    · have hlt' : (b : Int) ≤ (n : Int) := by omega
      have hw1 := IntWalk.i64_in ((a : Int) + (bs : Int)) (by omega)
      obtain ⟨md, hmd⟩ : ∃ md, md = a + bs := ⟨_, rfl⟩
      have hw2 : (a : Int) + (bs : Int) = (md : Int) := by omega
      have hw5 := IntWalk.i64_in ((b : Int) + (b2 : Int)) (by omega)
      have HMG : Hid (Mrg κ a md b zs) := Lib.hid (by
        rw [hmd]
        have := HK.out.mrg HUP.out hbs (by rw [← HA.out]; have := HB2.out; omega)
        rw [← HA.out, ← HB2.out, ← HBB.out, Nat.min_eq_left hlt] at this; exact this)
      have HVZ : Hid (Vs V n zs) := Lib.hid (HK.out.vs hbs (by rw [← HA.out]; omega) HV.out)
      have HCC := Lib.hid (HC.out.next HCH.out)
      have hab2 : md < b := by have := HB2.out; have := HBB.out; omega
      have hab3 : a < md := by omega
      clear hb hmd
      go_wp2_with (go_at_call 57; go_loud (refine (symMerge_any g o n c pl κ V hn (b - a) a md b zs wr (Nat.le_refl _) (by omega) (by omega) hlt HCC.out HRZ.out HVZ.out HMG.out).mono ?_); rintro r w9 ⟨rfl, ⟨us, q1, q2⟩, q3⟩; have HR4 := Lib.hid q1; have HD4 := Lib.hid q2; have HC4 := Lib.hid (HCH.out.trans q3 (fun _ _ h => h)); clear q1 q2 q3)
      go_roundg (n - b)
      case measure => have := HG.out; omega
      case rel => exact ⟨b, b + b2, k0 + 1, us, rfl, by rw [Nat.add_mul, ← HA.out, Nat.one_mul, ← HB2.out, ← HBB.out], rfl, hlt, rfl, by go_num, HR4.out, HK.out.step hbs (by rw [← HA.out, ← HB2.out, ← HBB.out]; exact hlt) (by rw [← HA.out, ← HB2.out, ← HBB.out]; exact HD4.out), HC4.out⟩
    · have hlt' : ¬ (b : Int) ≤ (n : Int) := by omega
      clear hb
      go_wp2
      exact HEX.out _ _ _ _ _ _ _ _ _ _ _ _ _ _ _ _ a b k0 zs wr HA.out HBB.out han (by omega) HRZ.out HK.out HCH.out

set_option maxRecDepth 100000 in
set_option maxHeartbeats 8000000 in
theorem stable_any (g o n c : Nat) (pl : Addr) (κ : Int → Int) (V : Int → Prop) (xs : Nat → Int) (w : World) (hn0 : 0 < n) (hn : n ≤ 1152921504606) (hC : Cmp w g pl κ V) (hR : RowI w g o n xs) (hV : Vs V n xs) (hup : ∀ i j, i < j → j < n → xs i < xs j) :
    Calls Try.prog 41 #[.slice (some ⟨g, o, none⟩) n c, .int .i64 n, .func (.func 18) #[] #[.pointer (some pl)]] w fun r w' => r = .returned (.tuple #[]) ∧ (∃ ys, RowI w' g o n ys ∧ Srt κ 0 n ys ∧ SameS 0 n xs ys) ∧ Chg (One g) w w' := by
  have HC0 := Lib.hid hC
  have HR0 := Lib.hid hR
  have HV0 := Lib.hid hV
  have HUP := Lib.hid hup
  clear hC hR hV hup
  go_enter Try.func41, Try.ntmps41
  go_wp2
  go_loopg [7, 8] n (fun g' av bv wz => ∃ (a b k0 : Nat) (zs : Nat → Int), g' = n - a ∧ a = k0 * 20 ∧ b = a + 20 ∧ a ≤ n ∧ av = .int .i64 a ∧ bv = .int .i64 b ∧ RowI wz g o n zs ∧ Bk1 κ n xs zs k0 ∧ Chg (One g) w wz)
  case atStart => exact ⟨0, 20, 0, xs, by omega, by omega, by omega, by omega, rfl, rfl, HR0.out, Bk1.zero _ _ _, Chg.refl _ _⟩
  case round =>
    obtain ⟨a, b, k0, zs, hg, ha, hb, han, rfl, rfl, hr, hk, hc⟩ := hrel
    have HG := Lib.hid hg
    have HA := Lib.hid ha
    have HBB := Lib.hid hb
    have HRZ := Lib.hid hr
    have HK := Lib.hid hk
    have HCH := Lib.hid hc
    have HCC := Lib.hid (HC0.out.next hc)
    have HVZ : Hid (Vs V n zs) := Lib.hid (hk.vs HV0.out)
    have hab : a ≤ b := by omega
    have HUZ : Hid (∀ i j, a ≤ i → i < j → j < n → zs i < zs j) := Lib.hid (fun i j h1 h2 h3 => by rw [hk.2 i (by omega), hk.2 j (by omega)]; exact HUP.out i j h2 h3)
    clear hg ha hr hk hc
    by_cases hlt : b ≤ n
    · have hlt' : (b : Int) ≤ (n : Int) := by omega
      have hw5 := IntWalk.i64_in ((b : Int) + 20) (by omega)
      clear hb
      go_wp2_with (go_at_call 56; go_loud (refine (insertion_any g o n c a b pl κ V zs wr hn hab hlt HCC.out HRZ.out HVZ.out (fun i j h1 h2 h3 => HUZ.out i j h1 h2 (by omega))).mono ?_); rintro r w9 ⟨rfl, ⟨us, q1, q2⟩, q3⟩; have HR4 := Lib.hid q1; have HD4 := Lib.hid q2; have HC4 := Lib.hid (HCH.out.trans q3 (fun _ _ h => h)); clear q1 q2 q3)
      go_roundg (n - b)
      case measure => have := HG.out; have := HBB.out; omega
      case rel => exact ⟨b, b + 20, k0 + 1, us, rfl, by have := HA.out; have := HBB.out; omega, rfl, hlt, rfl, by go_num, HR4.out, HK.out.step (by have := HA.out; have := HBB.out; omega) (by rw [← HA.out, ← HBB.out]; exact HD4.out), HC4.out⟩
    · have hlt' : ¬ (b : Int) ≤ (n : Int) := by omega
      clear hb
      go_upto_region 7 with (go_at_call 56; go_loud (refine (insertion_any g o n c a n pl κ V zs wr hn han (Nat.le_refl _) HCC.out HRZ.out HVZ.out HUZ.out).mono ?_); rintro r w9 ⟨rfl, ⟨us, q1, q2⟩, q3⟩; have HR4 := Lib.hid q1; have HBK4 := Lib.hid (HK.out.fin (by rw [← HA.out]; exact han) (by rw [← HA.out, ← HBB.out]; omega) (by rw [← HA.out]; exact q2)); have HC4 := Lib.hid (HCH.out.trans q3 (fun _ _ h => h)); clear q1 q2 q3)
      clear HG HA HBB HRZ HK HCH HCC HVZ HUZ hlt'
      go_loopg [6] (n - 20) (fun g' bv wz => ∃ (bs : Nat) (ts : Nat → Int), g' = n - bs ∧ 0 < bs ∧ bs ≤ 2305843009212 ∧ bv = .int .i64 bs ∧ RowI wz g o n ts ∧ Bks κ n xs ts bs ∧ Chg (One g) w wz)
      case atStart => exact ⟨20, us, by omega, by omega, by omega, rfl, HR4.out, HBK4.out, HC4.out⟩
      case round =>
        obtain ⟨bs, ts, hg, hb0, hb1, rfl, hr, hk, hc⟩ := hrel
        have HG := Lib.hid hg
        have HRT := Lib.hid hr
        have HK := Lib.hid hk
        have HCH := Lib.hid hc
        have HCC := Lib.hid (HC0.out.next hc)
        clear hg hr hk hc
        by_cases hbn : bs < n
        · have hbn' : (bs : Int) < (n : Int) := by omega
          obtain ⟨b2, hb2⟩ : ∃ b2, b2 = 2 * bs := ⟨_, rfl⟩
          have HB2 := Lib.hid hb2
          have hw4 := IntWalk.i64_in ((2 : Int) * (bs : Int)) (by omega)
          have hw6 : (2 : Int) * (bs : Int) = (b2 : Int) := by omega
          have hw7 := IntWalk.i64_in ((bs : Int) * 2) (by omega)
          have hw8 : (bs : Int) * 2 = (b2 : Int) := by omega
          have hb3 : b2 ≤ 2305843009212 := by omega
          have hb4 : n - b2 < n - bs := by omega
          have hb5 : 0 < b2 := by omega
          clear hb2
          go_upto_region 9 with fail
          refine st_in g o n c bs b2 pl κ V xs ts wr _ HB2.out hb0 hbn hn HCC HRT HV0 HUP HK ?_
          intro v33 v34 v35 v36 v37 v38 v39 v40 v41 v42 v43 v44 v45 v46 v47 v48 a b k0 zs w1 ha hb han hnb hr1 hk1 hc1
          have HR1 := Lib.hid hr1
          have HK1 := Lib.hid hk1
          have HA := Lib.hid ha
          have HC1 := Lib.hid (HCH.out.trans hc1 (fun _ _ h => h))
          have HB9 : Hid (n < k0 * (2 * bs) + 2 * bs) := Lib.hid (by rw [← ha, ← HB2.out, ← hb]; exact hnb)
          have hw1 := IntWalk.i64_in ((a : Int) + (bs : Int)) (by omega)
          obtain ⟨md, hmd⟩ : ∃ md, md = a + bs := ⟨_, rfl⟩
          have hw2 : (a : Int) + (bs : Int) = (md : Int) := by omega
          have HMD := Lib.hid hmd
          have ham : a < md := by omega
          clear hr1 hk1 hc1 ha hb hnb hmd
          by_cases hmn : md < n
          · have hmn' : (md : Int) < (n : Int) := by omega
            have HMG : Hid (Mrg κ a md n zs) := Lib.hid (by
              have := HK1.out.mrg HUP.out hb0 (by rw [← HA.out, ← HMD.out]; exact hmn)
              rw [← HA.out, ← HMD.out, Nat.min_eq_right (by have := HB9.out; have := HA.out; omega)] at this; exact this)
            have HVZ : Hid (Vs V n zs) := Lib.hid (HK1.out.vs hb0 (by rw [← HA.out]; exact han) HV0.out)
            have HCC1 := Lib.hid (HC0.out.next HC1.out)
            go_wp2_with (go_at_call 57; go_loud (refine (symMerge_any g o n c pl κ V hn (n - a) a md n zs w1 (Nat.le_refl _) ham hmn (Nat.le_refl _) HCC1.out HR1.out HVZ.out HMG.out).mono ?_); rintro r w8 ⟨rfl, ⟨us2, q1, q2⟩, q3⟩; have HR5 := Lib.hid q1; have HD5 := Lib.hid q2; have HC5 := Lib.hid (HC1.out.trans q3 (fun _ _ h => h)); clear q1 q2 q3)
            go_roundg (n - b2)
            case measure => have := HG.out; omega
            case rel => exact ⟨b2, us2, rfl, hb5, hb3, rfl, HR5.out, by rw [HB2.out]; exact HK1.out.fin2 hb0 HB9.out (by rw [← HA.out, ← HMD.out]; exact hmn) (by rw [← HA.out]; exact HD5.out), HC5.out⟩
          · have hmn' : ¬ (md : Int) < (n : Int) := by omega
            go_wp2
            go_roundg (n - b2)
            case measure => have := HG.out; omega
            case rel => exact ⟨b2, zs, rfl, hb5, hb3, rfl, HR1.out, by rw [HB2.out]; exact HK1.out.fin hb0 (by rw [← HA.out]; exact han) HB9.out (by rw [← HA.out, ← HMD.out]; omega), HC1.out⟩
        · have hbn' : ¬ (bs : Int) < (n : Int) := by omega
          have HW := Lib.hid (HK.out.whole hn0 (by omega))
          go_wp2
          go_end0
          exact ⟨rfl, ⟨ts, HRT.out, HW.out.1, HW.out.2⟩, HCH.out⟩
set_option maxRecDepth 100000 in
theorem sortStable_any (g o n c : Nat) (pl : Addr) (κ : Int → Int) (V : Int → Prop) (xs : Nat → Int) (w : World) (hn0 : 0 < n) (hn : n ≤ 1152921504606) (hC : Cmp w g pl κ V) (hR : RowI w g o n xs) (hV : Vs V n xs) (hup : ∀ i j, i < j → j < n → xs i < xs j) :
    Calls Try.prog 17 #[.slice (some ⟨g, o, none⟩) n c, .func (.func 18) #[] #[.pointer (some pl)]] w fun r w' => r = .returned (.tuple #[]) ∧ (∃ ys, RowI w' g o n ys ∧ Srt κ 0 n ys ∧ SameS 0 n xs ys) ∧ Chg (One g) w w' := by
  have HH := Lib.hid (stable_any g o n c pl κ V xs w hn0 hn hC hR hV hup)
  clear hC hR hV hup
  go_enter Try.func17, Try.ntmps17
  go_wp2_with (go_at_call 41; go_loud (refine HH.out.mono ?_); rintro r w9 ⟨rfl, q2, q3⟩)
  go_end0
  exact ⟨rfl, q2, q3⟩
set_option maxRecDepth 100000 in
theorem sortStable_none (A : Option Addr) (c : Nat) (fv : Value) (w : World) :
    Calls Try.prog 17 #[.slice A 0 c, fv] w fun r w' => r = .returned (.tuple #[]) ∧ w = w' := by
  have h1 : Calls Try.prog 56 #[.slice A 0 c, .int .i64 0, .int .i64 0, fv] w fun r w' => r = .returned (.tuple #[]) ∧ w = w' := by
    go_enter Try.func56, Try.ntmps56
    go_wp2
    go_loopg [8] 1 (fun g' bv wz => g' = 1 ∧ bv = .int .i64 1 ∧ w = wz)
    case atStart => exact ⟨rfl, rfl, rfl⟩
    case round =>
      obtain ⟨hg, rfl, rfl⟩ := hrel
      go_wp2
      go_end0
      exact ⟨rfl, rfl⟩
  have H1 := Lib.hid h1
  have h2 : Calls Try.prog 41 #[.slice A 0 c, .int .i64 0, fv] w fun r w' => r = .returned (.tuple #[]) ∧ w = w' := by
    clear h1
    go_enter Try.func41, Try.ntmps41
    go_wp2
    go_loopg [7, 8] 1 (fun g' av bv wz => g' = 1 ∧ av = .int .i64 0 ∧ bv = .int .i64 20 ∧ w = wz)
    case atStart => exact ⟨rfl, rfl, rfl, rfl⟩
    case round =>
      obtain ⟨hg, rfl, rfl, rfl⟩ := hrel
      go_wp2_with (go_at_call 56; refine H1.out.mono ?_; rintro r w9 ⟨rfl, rfl⟩)
      go_loopg [6] 1 (fun g' bv wz => g' = 1 ∧ bv = .int .i64 20 ∧ w = wz)
      case atStart => exact ⟨rfl, rfl, rfl⟩
      case round =>
        obtain ⟨hg, rfl, rfl⟩ := hrel
        go_wp2
        go_end0
        exact ⟨rfl, rfl⟩
  have H2 := Lib.hid h2
  clear h1 h2 H1
  go_enter Try.func17, Try.ntmps17
  go_wp2_with (go_at_call 41; go_loud (refine H2.out.mono ?_); rintro r w9 ⟨rfl, rfl⟩)
  go_end0
  exact ⟨rfl, rfl⟩
end Go.Proofs.Ytpbnngfiinihmaa

namespace Go.Proofs.Ytpbnngfiinihmaa
open Go.RowKit
set_option maxRecDepth 100000 in
set_option maxHeartbeats 2000000 in
theorem lineC_any (q b o n c i j : Nat) (pi pj : Int) (w : World) (hi : i < n) (hj : j < n) (hn : n ≤ 1152921504606) (hq : w.cell? ⟨q, 0, none⟩ = some (.slice (some ⟨b, o, none⟩) n c))
    (h1 : w.cell? ⟨b, o + i * 17 + 11, none⟩ = some (.int .i64 pi)) (h2 : w.cell? ⟨b, o + j * 17 + 11, none⟩ = some (.int .i64 pj)) :
    Calls Try.prog 18 #[.int .i64 i, .int .i64 j, .pointer (some ⟨q, 0, none⟩)] w fun e w' => (∃ z : Int, e = .returned (.int .i64 z) ∧ (z < 0 ↔ pi < pj)) ∧ Chg Nil w w' := by
  have S0 : w.drew.cell? ⟨q, 0, none⟩ = some (.slice (some ⟨b, o, none⟩) n c) ∧ w.drew.cell? ⟨b, o + i * 17 + 11, none⟩ = some (.int .i64 pi) ∧ w.drew.cell? ⟨b, o + j * 17 + 11, none⟩ = some (.int .i64 pj) := ⟨hq, h1, h2⟩
  clear hq h1 h2
  go_enter Try.func18, Try.ntmps18
  go_wp2
  refine wp_region_V (fun w' => w'.cell? ⟨q, 0, none⟩ = some (.slice (some ⟨b, o, none⟩) n c) ∧ w'.cell? ⟨b, o + i * 17 + 11, none⟩ = some (.int .i64 pi) ∧ w'.cell? ⟨b, o + j * 17 + 11, none⟩ = some (.int .i64 pj)) (by kernel_rfl) ?_
  refine wpV_take (i := 1) (v := ?_) rfl (by kernel_rfl) (by kernel_rfl) (by kernel_rfl) (by first | exact fun _ _ _ h => h | exact fun c a w h => HQP.out c _ a w h) S0 (Or.inl ⟨by kernel_rfl, ?_⟩) ?_
  rotate_left
  · intro w hSw
    go_simp
    try with_reducible rfl
  try simp only [Act.put, List.setIfInBounds_toArray, List.set_cons_zero, List.set_cons_succ]
  refine wpV_take (i := 6) (v := ?_) rfl (by kernel_rfl) (by kernel_rfl) (by kernel_rfl) (by first | exact fun _ _ _ h => h | exact fun c a w h => HQP.out c _ a w h) S0 (Or.inl ⟨by kernel_rfl, ?_⟩) ?_
  rotate_left
  · intro w hSw
    go_simp
    try with_reducible rfl
  try simp only [Act.put, List.setIfInBounds_toArray, List.set_cons_zero, List.set_cons_succ]
  refine wpV_take (i := 0) (v := ?_) rfl (by kernel_rfl) (by kernel_rfl) (by kernel_rfl) (by first | exact fun _ _ _ h => h | exact fun c a w h => HQP.out c _ a w h) S0 (Or.inl ⟨by kernel_rfl, ?_⟩) ?_
  rotate_left
  · intro w hSw
    obtain ⟨s0, s1, s2⟩ := hSw
    go_simp
    try with_reducible rfl
  try simp only [Act.put, List.setIfInBounds_toArray, List.set_cons_zero, List.set_cons_succ]
  refine wpV_take (i := 2) (v := ?_) rfl (by kernel_rfl) (by kernel_rfl) (by kernel_rfl) (by first | exact fun _ _ _ h => h | exact fun c a w h => HQP.out c _ a w h) S0 (Or.inl ⟨by kernel_rfl, ?_⟩) ?_
  rotate_left
  · intro w hSw
    go_simp
    try with_reducible rfl
  try simp only [Act.put, List.setIfInBounds_toArray, List.set_cons_zero, List.set_cons_succ]
  refine wpV_take (i := 3) (v := ?_) rfl (by kernel_rfl) (by kernel_rfl) (by kernel_rfl) (by first | exact fun _ _ _ h => h | exact fun c a w h => HQP.out c _ a w h) S0 (Or.inl ⟨by kernel_rfl, ?_⟩) ?_
  rotate_left
  · intro w hSw
    go_simp
    try with_reducible rfl
  try simp only [Act.put, List.setIfInBounds_toArray, List.set_cons_zero, List.set_cons_succ]
  refine wpV_take (i := 4) (v := ?_) rfl (by kernel_rfl) (by kernel_rfl) (by kernel_rfl) (by first | exact fun _ _ _ h => h | exact fun c a w h => HQP.out c _ a w h) S0 (Or.inl ⟨by kernel_rfl, ?_⟩) ?_
  rotate_left
  · intro w hSw
    obtain ⟨s0, s1, s2⟩ := hSw
    go_simp
    try with_reducible rfl
  try simp only [Act.put, List.setIfInBounds_toArray, List.set_cons_zero, List.set_cons_succ]
  refine wpV_take (i := 5) (v := ?_) rfl (by kernel_rfl) (by kernel_rfl) (by kernel_rfl) (by first | exact fun _ _ _ h => h | exact fun c a w h => HQP.out c _ a w h) S0 (Or.inl ⟨by kernel_rfl, ?_⟩) ?_
  rotate_left
  · intro w hSw
    obtain ⟨s0, s1, s2⟩ := hSw
    go_simp
    try with_reducible rfl
  try simp only [Act.put, List.setIfInBounds_toArray, List.set_cons_zero, List.set_cons_succ]
  refine wpV_take (i := 7) (v := ?_) rfl (by kernel_rfl) (by kernel_rfl) (by kernel_rfl) (by first | exact fun _ _ _ h => h | exact fun c a w h => HQP.out c _ a w h) S0 (Or.inl ⟨by kernel_rfl, ?_⟩) ?_
  rotate_left
  · intro w hSw
    go_simp
    try with_reducible rfl
  try simp only [Act.put, List.setIfInBounds_toArray, List.set_cons_zero, List.set_cons_succ]
  refine wpV_take (i := 8) (v := ?_) rfl (by kernel_rfl) (by kernel_rfl) (by kernel_rfl) (by first | exact fun _ _ _ h => h | exact fun c a w h => HQP.out c _ a w h) S0 (Or.inl ⟨by kernel_rfl, ?_⟩) ?_
  rotate_left
  · intro w hSw
    go_simp
    try with_reducible rfl
  try simp only [Act.put, List.setIfInBounds_toArray, List.set_cons_zero, List.set_cons_succ]
  refine wpV_take (i := 9) (v := ?_) rfl (by kernel_rfl) (by kernel_rfl) (by kernel_rfl) (by first | exact fun _ _ _ h => h | exact fun c a w h => HQP.out c _ a w h) S0 (Or.inl ⟨by kernel_rfl, ?_⟩) ?_
  rotate_left
  · intro w hSw
    obtain ⟨s0, s1, s2⟩ := hSw
    go_simp
    try with_reducible rfl
  try simp only [Act.put, List.setIfInBounds_toArray, List.set_cons_zero, List.set_cons_succ]
  refine wpV_one (i := 10) (by kernel_rfl) rfl (fun K hK => ?_)
  go_simp
  refine (cmp_any _ _ _).mono ?_; rintro e w1 ⟨⟨z, rfl, hz⟩, rfl⟩; have HZ := Lib.hid hz; clear hz
  refine hK.out _ _ S0 ?_
  clear hK K
  try simp only [Act.put, List.setIfInBounds_toArray, List.set_cons_zero, List.set_cons_succ]
  refine wpV_take (i := 11) (v := ?_) rfl (by kernel_rfl) (by kernel_rfl) (by kernel_rfl) (by first | exact fun _ _ _ h => h | exact fun c a w h => HQP.out c _ a w h) S0 (Or.inl ⟨by kernel_rfl, ?_⟩) ?_
  rotate_left
  · intro w hSw
    go_simp
    try with_reducible rfl
  try simp only [Act.put, List.setIfInBounds_toArray, List.set_cons_zero, List.set_cons_succ]
  refine wpV_done (by kernel_rfl) ?_ _
  go_simp
  go_wp2
  go_ret
  exact ⟨⟨z, rfl, HZ.out⟩, (Chg.refl _ _).drew⟩
/-- the closure over a list of calls tells their points -/
theorem lineCmp (F : Nat → Prop) (q g b o n c : Nat) (l : List CallD) (w : World) (hn : n ≤ 1152921504606) (hL : CallsM w F (some ⟨b, o, none⟩) n l) (hg : ¬ F g) (hq : w.cell? ⟨q, 0, none⟩ = some (.slice (some ⟨b, o, none⟩) n c)) (hqg : q ≠ g) :
    Cmp w g ⟨q, 0, none⟩ (fun x => match l[x.toNat]? with | some c => c.pt | none => 0) (fun x => ∃ k : Nat, k < n ∧ x = k) := by
  refine ⟨fun W x y hc hx hy => ?_⟩
  obtain ⟨i, hi, rfl⟩ := hx
  obtain ⟨j, hj, rfl⟩ := hy
  obtain ⟨b1, o1, c1, x1, e1, f1, l1, _, a1⟩ := hL.at_ hi
  obtain ⟨b2, o2, c2, x2, e2, f2, l2, _, a2⟩ := hL.at_ hj
  injection e1 with e1; injection e1 with e3 e4; subst e3; subst e4
  injection e2 with e2; injection e2 with e3 e4; subst e3; subst e4
  have hs : ¬ One g b := fun e => hg (by have e : b = g := e; rw [← e]; exact f1)
  have := lineC_any q b o n c i j c1.pt c2.pt W hi hj hn (hc.cell (fun e => hqg e) hq) (hc.cell hs a1.c11) (hc.cell hs a2.c11)
  simpa only [Int.toNat_natCast, l1, l2] using this
end Go.Proofs.Ytpbnngfiinihmaa

namespace Go.Proofs.Ytpbnngfiinihmaa
open Go.RowKit
theorem ints_info : (Try.prog.info? 3).map (fun i => (i.zero, i.size, i.bytes)) = some (some (.int .i64 0), 1, 8) := by kernel_rfl
/-- a row that holds places, as numbers -/
theorem rowI_of_own {w : World} {base g n c : Nat} {o : List Nat} {e : TypeId} (h : w.ownsRow base e 1 (.slice (some ⟨g, 0, none⟩) n c) n (pvs o)) (hn : 0 < n) : RowI w g 0 n (seqI o) := fun i hi => by
  obtain ⟨g', cap, hv, _, _⟩ := h.form hn
  have hlen : o.length = n := by have := h.1; rw [pvs_len] at this; omega
  have ho : o[i]? = some (o[i]'(by omega)) := List.getElem?_eq_getElem (by omega)
  have hc := h.cells (g := g) rfl i _ (pvs_at ho)
  rw [add_eq] at hc
  refine ⟨by rw [hc]; unfold seqI; rw [ho]; rfl, ?_⟩
  rcases h.2 with ⟨h1, _⟩ | ⟨g2, cap2, cur, hv2, _, hb, _⟩
  · cases h1
  · injection hv2 with hv2
    injection hv2 with hv2
    injection hv2 with hv2
    subst hv2
    simp [World.frozen?, hb]
theorem chg_grown {w w2 : World} {v : Value} (hg : w.grownBy w2 v.ownBlock) : Chg (fun b => v.ownBlock = some b) w w2 := (Chg.refl _ _).grown hg (fun _ hk _ => hk)
/-- what order.Line answers -/
def LineAns (l : List CallD) (n : Nat) (w : World) (e : Ending) (w' : World) : Prop :=
  ∃ B m d, e = .returned (.slice B m d) ∧ m = (lineE l).length ∧ m ≤ n ∧ Rd w' (From w.heap.size) 1 B m (pvs (lineE l)) ∧ LineN l n (lineE l) ∧ Below w.heap.size w w'
set_option maxRecDepth 100000 in
set_option maxHeartbeats 4000000 in
theorem line_any (F : Nat → Prop) (A : Option Addr) (n c : Nat) (l : List CallD) (w : World) (hL : CallsM w F A n l) (hn : n ≤ 1048576) :
    Calls Try.prog 8 #[.slice A n c] w (LineAns l n w) := by
  have HL := Lib.hid hL.lt
  have HN := Lib.hid hL.len
  clear hL
  obtain ⟨i0, hi0, iz0, iz1, iz2⟩ := info_parts ints_info
  go_enter Try.func8, Try.ntmps8
  go_wp2
  go_loopg [8, 3] n (fun g' iv v wz => ∃ (k pn vc : Nat) (vA : Option Addr), g' = n - k ∧ k ≤ n ∧ iv = .int .i64 k ∧ v = .slice vA pn vc ∧ pn = (placesN l k).length ∧ wz.ownsRow (w.heap.size + 1) 3 1 (.slice vA pn vc) pn (pvs (placesN l k)) ∧ wz.cell? ⟨w.heap.size, 0, none⟩ = some (.slice A n c) ∧ Below w.heap.size w wz)
  case atStart => exact ⟨0, 0, 0, none, by omega, by omega, rfl, rfl, rfl, ⟨rfl, .inl ⟨rfl, rfl⟩⟩, by simp, (Below.refl _ _).alloc (Nat.le_refl _) _⟩
  case round =>
    obtain ⟨k, pn, vc, vA, hg, hk, rfl, rfl, hp, hown, hq, hb⟩ := hrel
    have HG := Lib.hid hg
    have HO := Lib.hid hown
    have HB := Lib.hid hb
    have HP := Lib.hid hp
    have hpk : pn ≤ k := by rw [hp]; exact placesN_len l k
    have hq0 : w.heap.size < wr.heap.size := cell_lt hq
    have hcap : pn ≤ vc ∧ vc ≤ maxLen := by obtain ⟨A', c', e, h1, h2⟩ := own_val hown; injection e with _ _ e; subst e; exact ⟨h1, h2⟩
    clear hg hown hb hp
    by_cases hlt : k < n
    · have hlt' : (k : Int) < (n : Int) := by omega
      obtain ⟨b, o, cl, x, rfl, hFb, hlk, hw, hat⟩ := (HL.out.below HB.out).at_ hlt
      have HAT := Lib.hid hat
      have HK := Lib.hid (ptOf_at hlk)
      clear hw hlk hFb hat
      go_upto_region 5 with (first | (refine wpList_load_call rfl (.tmp 11) rfl rfl HAT.out ?_) | (refine wpList_store_call _ rfl (.tmp 5) (.tmp 12) rfl rfl rfl rfl ?_))
      obtain ⟨w1, hw1⟩ : ∃ W, W = wr.alloc (.cells (callCs cl x) 48) := ⟨_, rfl⟩
      rw [← hw1]
      have z0 : w1.cell? ⟨wr.heap.size, 11, none⟩ = some (.int .i64 cl.pt) := by rw [hw1]; exact (Blk.new _ _ _).cell 11
      have hb1 : Below wr.heap.size wr w1 := by rw [hw1]; exact (Below.refl _ _).alloc (Nat.le_refl _) _
      have HO1 := Lib.hid (own_below HO.out hb1)
      have HB1 : Hid (Below w.heap.size w w1) := Lib.hid (HB.out.trans (hb1.mono HB.out.size))
      have HQ1 := Lib.hid (bkeep hb1 hq)
      have hz0 : w.heap.size + 1 ≤ w1.heap.size := by have := hb1.size; omega
      clear hw1 hb1 hq HO HAT
      by_cases hpt : 0 ≤ cl.pt
      · go_wp2_with (at_builtin; go_loud (refine wpList_append_any _ rfl (.tmp 16) (.tmp 18) _ rfl (w.heap.size + 1) 3 i0 _ 1 8 Try.underlying24 hi0 iz0 iz1 iz2 rfl (by omega) (.slice vA pn vc) pn (pvs (placesN l k)) rfl (own_below HO1.out ((Below.refl _ _).alloc (Nat.le_refl _) _)) (From w1.heap.size) (some ⟨w1.heap.size, 0, none⟩) 1 1 [.int .i64 k] rfl (Rd.one w1 (.int .i64 k) 3) (by simp [Value.oneCell']) (by simp only [maxLen]; omega) (by omega) (by simp; omega) ?_); intro v6 w6 hown6 hg6 hat6; obtain ⟨g6, gc6, hv6, _, _⟩ := hown6.form (by omega); subst hv6; have HO6 := Lib.hid hown6; have HG6 := Lib.hid hg6; clear hown6 hg6 hat6)
        go_roundg (n - (k + 1))
        case measure => have := HG.out; omega
        case rel =>
          have hz1 := HB1.out.size
          have hba : Below w1.heap.size w1 (w1.alloc (.cells #[.int .i64 k] 3)) := (Below.refl _ _).alloc (Nat.le_refl _) _
          have hgr := chg_grown HG6.out
          have hob : ∀ g, (Value.slice vA pn vc).ownBlock = some g → w.heap.size + 1 ≤ g := fun g hg => (own_lt HO1.out g hg).1
          refine ⟨k + 1, pn + 1, gc6, some ⟨g6, 0, none⟩, rfl, by omega, by go_num, rfl, by rw [placesN_put (by rw [HK.out]; exact hpt)]; simp [HP.out], by rw [placesN_put (by rw [HK.out]; exact hpt), pvs_put]; exact HO6.out, ?_, ?_⟩
          · exact hgr.cell (fun e => by have := hob _ e; omega) (bkeep hba HQ1.out)
          · exact (HB1.out.trans (hba.mono hz1)).trans (hgr.below_of (Nat.le_trans hz1 hba.size) (fun b hb e => by have := hob _ e; omega))
      · go_wp2
        go_roundg (n - (k + 1))
        case measure => have := HG.out; omega
        case rel =>
          refine ⟨k + 1, pn, vc, vA, rfl, by omega, by go_num, rfl, by rw [placesN_skip (by rw [HK.out]; omega)]; exact HP.out, by rw [placesN_skip (by rw [HK.out]; omega)]; exact HO1.out, HQ1.out, HB1.out⟩
    · have hlt' : ¬ (k : Int) < (n : Int) := by omega
      have hkn : k = n := by omega
      subst hkn
      clear HG hlt hlt'
      by_cases h0 : pn = 0
      · have HE : Hid (placesN l k = []) := Lib.hid (List.eq_nil_of_length_eq_zero (by rw [← HP.out]; exact h0))
        subst h0
        clear HO
        go_wp2_with (go_at_call 17; go_loud (refine (sortStable_none vA vc _ wr).mono ?_); rintro r w9 ⟨rfl, rfl⟩)
        go_ret
        have hl : LineN l k [] := ⟨List.Pairwise.nil, fun i => by rw [← placesN_mem, HE.out]⟩
        have hn := HN.out
        have hl2 : LineN l l.length [] := by rw [← hn]; exact hl
        have he : lineE l = [] := hl2.eq.symm
        exact ⟨vA, 0, vc, rfl, by rw [he]; rfl, by omega, by rw [he]; exact Rd.none_ _ _ _ _, by rw [he]; exact hl, HB.out⟩
      · obtain ⟨g, cap, hv, hbg, hlg⟩ := HO.out.form (by omega)
        injection hv with hv hv3 hv4
        subst hv
        subst hv4
        obtain ⟨b, o, cl, x, hA, hFb, _, _, _⟩ := HL.out.at_ (show 0 < k by omega)
        subst hA
        have HC := Lib.hid (lineCmp _ w.heap.size g b o k c l wr (by omega) (HL.out.below HB.out) (fun hf => by omega) hq (by omega))
        have HR := Lib.hid (rowI_of_own HO.out (by omega))
        have HV : Hid (Vs (fun x => ∃ p : Nat, p < k ∧ x = p) pn (seqI (placesN l k))) := Lib.hid (fun i hi => by
          have hi2 : i < (placesN l k).length := by rw [← HP.out]; exact hi
          refine ⟨(placesN l k)[i], ((placesN_mem l k _).1 (List.getElem_mem hi2)).1, ?_⟩
          unfold seqI; rw [List.getElem?_eq_getElem hi2]; rfl)
        have hp0 : 0 < pn := by omega
        have hpm : pn ≤ 1152921504606 := by omega
        clear h0 hFb HO
        go_wp2_with (go_at_call 17; go_loud (refine (sortStable_any g 0 pn vc _ _ _ _ wr hp0 hpm HC.out HR.out HV.out (seqI_rise HP.out)).mono ?_); rintro r w9 ⟨rfl, ⟨ys, q1, q2, q3⟩, q4⟩; have H1 := Lib.hid q1; have H2 := Lib.hid q2; have H3 := Lib.hid q3; have H4 := Lib.hid q4; clear q1 q2 q3 q4)
        go_ret
        obtain ⟨idx, hi1, hi2, hi3⟩ := line_sorted (l := l) (n := k) HP.out H2.out H3.out
        have hn := HN.out
        have hl2 : LineN l l.length idx := by rw [← hn]; exact hi2
        have he := hl2.eq
        refine ⟨some ⟨g, 0, none⟩, pn, vc, rfl, by rw [← he, hi1], hpk, by
          rw [← he]
          refine ⟨by rw [pvs_len, hi1, Nat.mul_one], fun _ => ⟨g, 0, rfl, by show w.heap.size ≤ g; omega, fun j u hu => ?_⟩⟩
          have hj : j < pn := by have := (List.getElem?_eq_some_iff.1 hu).1; rw [pvs_len, hi1] at this; exact this
          have hij : idx[j]? = some (idx[j]'(by omega)) := List.getElem?_eq_getElem (by omega)
          have hc := (H1.out j hj).1
          rw [hi3 j hj] at hc
          rw [pvs_at hij] at hu
          injection hu with hu
          rw [hc, ← hu]; unfold seqI; rw [hij]; rfl, by rw [← he]; exact hi2, HB.out.trans (H4.out.below_of HB.out.size (fun b hb e => by have e : b = g := e; omega))⟩
end Go.Proofs.Ytpbnngfiinihmaa
