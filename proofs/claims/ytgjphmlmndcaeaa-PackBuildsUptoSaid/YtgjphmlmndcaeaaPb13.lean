/- The document's arena in memory, and WALKS: reading it. The document's levels in memory: a row of nodes, of which the last one is being filled. WALKS: parts of the document's leaves. -/
import Derived.Test.YtgjphmlmndcaeaaPb12
set_option linter.unusedVariables false
set_option linter.unusedSimpArgs false
namespace Go.Proofs.Ytgjphmlmndcaeaa
open Go.RowKit

/-- one slot's seven cells -/
def SlotV (w : World) (F : Nat → Prop) (vs : List Value) (s : Slt) : Prop :=
  ∃ hA hn hc kA kn kc vA vn vc dA dn dc, vs = [.int .u64 s.1, .int .i64 s.2.lev, .slice hA hn hc, .int .i64 s.2.right, .slice kA kn kc, .slice vA vn vc, .slice dA dn dc] ∧
    Bt w F hA hn hc s.2.high ∧ Tx w F kA kn kc s.2.keys ∧ Tx w F vA vn vc s.2.vals ∧ It w F dA dn dc s.2.kids
/-- a list of slots in the slice of n at A -/
def Slots (w : World) (F : Nat → Prop) (A : Option Addr) (n : Nat) (sl : List Slt) : Prop :=
  Hid (n = sl.length) ∧ ∃ vs, Rd w F 7 A n vs ∧ ∀ (i : Nat) (s : Slt), sl[i]? = some s → SlotV w F ((vs.drop (i * 7)).take 7) s
/-- the document's arena at block p -/
def ArR (w : World) (F : Nat → Prop) (p : Nat) (nodes : Int) (sl : List Slt) (top : Int) : Prop :=
  ∃ A n c, F p ∧ Blk w p 83 #[.int .i64 nodes, .slice A n c, .int .i64 top] ∧ Slots w F A n sl

section
variable {S F G : Nat → Prop} {w w' : World} {A : Option Addr} {n : Nat} {sl : List Slt} {p : Nat} {nodes top : Int}
theorem SlotV.weak {vs : List Value} {s : Slt} (h : SlotV w F vs s) (hF : ∀ b, F b → G b) : SlotV w G vs s := by
  obtain ⟨hA, hn, hc, kA, kn, kc, vA, vn, vc, dA, dn, dc, h1, h2, h3, h4, h5⟩ := h
  exact ⟨hA, hn, hc, kA, kn, kc, vA, vn, vc, dA, dn, dc, h1, h2.weak hF, h3.weak hF, h4.weak hF, h5.weak hF⟩
theorem SlotV.chg {vs : List Value} {s : Slt} (h : SlotV w F vs s) (hc : Chg S w w') (hs : ∀ b, F b → ¬ S b) : SlotV w' F vs s := by
  obtain ⟨hA, hn, hc', kA, kn, kc, vA, vn, vc, dA, dn, dc, h1, h2, h3, h4, h5⟩ := h
  exact ⟨hA, hn, hc', kA, kn, kc, vA, vn, vc, dA, dn, dc, h1, h2.chg hc hs, h3.chg hc hs, h4.chg hc hs, h5.chg hc hs⟩
theorem SlotV.lt {vs : List Value} {s : Slt} (h : SlotV w F vs s) : SlotV w (fun b => F b ∧ b < w.heap.size) vs s := by
  obtain ⟨hA, hn, hc', kA, kn, kc, vA, vn, vc, dA, dn, dc, h1, h2, h3, h4, h5⟩ := h
  exact ⟨hA, hn, hc', kA, kn, kc, vA, vn, vc, dA, dn, dc, h1, h2.lt, h3.lt, h4.lt, h5.lt⟩
theorem Slots.weak (h : Slots w F A n sl) (hF : ∀ b, F b → G b) : Slots w G A n sl := let ⟨h1, vs, h2, h3⟩ := h; ⟨h1, vs, h2.weak hF, fun i s hs => (h3 i s hs).weak hF⟩
theorem Slots.chg (h : Slots w F A n sl) (hc : Chg S w w') (hs : ∀ b, F b → ¬ S b) : Slots w' F A n sl := let ⟨h1, vs, h2, h3⟩ := h; ⟨h1, vs, h2.chg hc hs, fun i s hsl => (h3 i s hsl).chg hc hs⟩
theorem ArR.weak (h : ArR w F p nodes sl top) (hF : ∀ b, F b → G b) : ArR w G p nodes sl top := let ⟨A, n, c, h1, h2, h3⟩ := h; ⟨A, n, c, hF _ h1, h2, h3.weak hF⟩
theorem ArR.chg (h : ArR w F p nodes sl top) (hc : Chg S w w') (hs : ∀ b, F b → ¬ S b) : ArR w' F p nodes sl top := let ⟨A, n, c, h1, h2, h3⟩ := h; ⟨A, n, c, h1, h2.chg hc (hs _ h1), h3.chg hc hs⟩
theorem ArR.below (h : ArR w F p nodes sl top) (hb : Below w.heap.size w w') : ArR w' F p nodes sl top := h.chg (Chg.of_below (S := Nil) hb) (fun _ _ hf => hf)
theorem Slots.at_ {k : Nat} (h : Slots w F A n sl) (hk : k < n) : ∃ b o s hA hn hc kA kn kc vA vn vc dA dn dc, A = some ⟨b, o, none⟩ ∧ sl[k]? = some s ∧
    w.cell? ⟨b, o + k * 7, none⟩ = some (.int .u64 s.1) ∧ w.cell? ⟨b, o + k * 7 + 1, none⟩ = some (.int .i64 s.2.lev) ∧ w.cell? ⟨b, o + k * 7 + 1 + 1, none⟩ = some (.slice hA hn hc) ∧ w.cell? ⟨b, o + k * 7 + 1 + 2, none⟩ = some (.int .i64 s.2.right) ∧
    w.cell? ⟨b, o + k * 7 + 1 + 3, none⟩ = some (.slice kA kn kc) ∧ w.cell? ⟨b, o + k * 7 + 1 + 4, none⟩ = some (.slice vA vn vc) ∧ w.cell? ⟨b, o + k * 7 + 1 + 5, none⟩ = some (.slice dA dn dc) ∧
    Bt w F hA hn hc s.2.high ∧ Tx w F kA kn kc s.2.keys ∧ Tx w F vA vn vc s.2.vals ∧ It w F dA dn dc s.2.kids := by
  obtain ⟨h1, vs, h2, h3⟩ := h
  have hl : k < sl.length := by have : n = sl.length := h1; omega
  obtain ⟨b, o, hA', _, hcell⟩ := h2.2 (by omega)
  obtain ⟨hA, hn, hc, kA, kn, kc, vA, vn, vc, dA, dn, dc, e, q1, q2, q3, q4⟩ := h3 k sl[k] (List.getElem?_eq_getElem hl)
  have hg : ∀ (j : Nat) (u : Value), j < 7 → ((vs.drop (k * 7)).take 7)[j]? = some u → w.cell? ⟨b, o + k * 7 + j, none⟩ = some u := by
    intro j u hj hu
    rw [List.getElem?_take, if_pos hj, List.getElem?_drop] at hu
    rw [Nat.add_assoc]
    exact hcell _ u hu
  rw [e] at hg
  exact ⟨b, o, sl[k], hA, hn, hc, kA, kn, kc, vA, vn, vc, dA, dn, dc, hA', List.getElem?_eq_getElem hl, hg 0 _ (by omega) rfl, hg 1 _ (by omega) rfl, hg 2 _ (by omega) rfl, hg 3 _ (by omega) rfl, hg 4 _ (by omega) rfl, hg 5 _ (by omega) rfl, hg 6 _ (by omega) rfl, q1, q2, q3, q4⟩
end

theorem ret_bool {x y : Bool} (h : y = x) : Ending.returned (.bool x) = .returned (.bool y) := by rw [h]
theorem there_any (F : Nat → Prop) (p : Nat) (nodes top : Int) (sl : List Slt) (id : Int) (w : World) (h : ArR w F p nodes sl top) (x : Bool) (hx : x = decide (1 ≤ id ∧ id ≤ sl.length)) :
    Calls Try.prog 100 #[.pointer (some ⟨p, 0, none⟩), .int .i64 id] w fun e w' => e = .returned (.bool x) ∧ w = w' := by
  obtain ⟨A, n, c, _, hb, hs⟩ := h
  have e1 : n = sl.length := hs.1
  obtain ⟨c0, c1, c2, cf⟩ := blk3 hb
  have HX : Hid (x = decide (1 ≤ id ∧ id ≤ (n : Int))) := Lib.hid (by rw [hx, e1])
  clear hx e1 hb hs
  by_cases h0 : 1 ≤ id
  · by_cases h2 : id ≤ (n : Int)
    · have h3 : decide (id ≤ (n : Int)) = true := by simpa using h2
      go_enter Try.func100, Try.ntmps100
      go_wp2
      go_ret
      exact ⟨ret_bool (by rw [HX.out]; exact decide_eq_true (by omega)), rfl⟩
    · have h3 : decide (id ≤ (n : Int)) = false := by simpa using h2
      go_enter Try.func100, Try.ntmps100
      go_wp2
      go_ret
      exact ⟨ret_bool (by rw [HX.out]; exact decide_eq_false (by omega)), rfl⟩
  · have h3 : decide (1 ≤ id) = false := by simpa using h0
    go_enter Try.func100, Try.ntmps100
    go_wp2
    go_ret
    exact ⟨ret_bool (by rw [HX.out]; exact decide_eq_false (by omega)), rfl⟩
theorem rword_in (F : Nat → Prop) (p : Nat) (nodes top : Int) (sl : List Slt) (id : Int) (s : Slt) (w : World) (h : ArR w F p nodes sl top) (h1 : 1 ≤ id) (h2 : id ≤ sl.length) (hn : sl.length ≤ 65536) (hs : sl[id.toNat - 1]? = some s) :
    Calls Try.prog 84 #[.pointer (some ⟨p, 0, none⟩), .int .i64 id] w fun e w' => e = .returned (.tuple #[.int .u64 s.1, .int .i64 0]) ∧ w = w' := by
  have HA := Lib.hid h
  obtain ⟨A, n, c, _, hb, hsl⟩ := h
  have e1 : n = sl.length := hsl.1
  obtain ⟨b, o, s', hA, hn', hc, kA, kn, kc, vA, vn, vc, dA, dn, dc, rfl, hs', z0, z1, z2, z3, z4, z5, z6, _⟩ := hsl.at_ (k := id.toNat - 1) (by omega)
  rw [hs] at hs'
  injection hs' with hs'
  subst hs'
  obtain ⟨c0, c1, c2, cf⟩ := blk3 hb
  have h3 : id ≤ n := by omega
  have h4 : n ≤ 65536 := by omega
  have HT : Hid (true = decide (1 ≤ id ∧ id ≤ (sl.length : Int))) := Lib.hid (by simp [h1, h2])
  clear hs h2 hn e1 hb hsl
  go_enter Try.func84, Try.ntmps84
  go_wp2_with (first | (go_at_call 100; refine (there_any F p nodes top sl id _ HA.out true HT.out).mono ?_; rintro e w' ⟨rfl, rfl⟩))
  go_ret2
  exact ⟨rfl, rfl⟩
theorem rword_out (F : Nat → Prop) (p : Nat) (nodes top : Int) (sl : List Slt) (id : Int) (w : World) (h : ArR w F p nodes sl top) (h1 : id < 1 ∨ (sl.length : Int) < id) :
    Calls Try.prog 84 #[.pointer (some ⟨p, 0, none⟩), .int .i64 id] w fun e w' => e = .returned (.tuple #[.int .u64 0, .int .i64 101]) ∧ w = w' := by
  have HA := Lib.hid h
  have HT : Hid (false = decide (1 ≤ id ∧ id ≤ (sl.length : Int))) := Lib.hid (by symm; rw [decide_eq_false_iff_not]; omega)
  clear h h1
  go_enter Try.func84, Try.ntmps84
  go_wp2_with (first | (go_at_call 100; refine (there_any F p nodes top sl id _ HA.out false HT.out).mono ?_; rintro e w' ⟨rfl, rfl⟩))
  go_ret2
  exact ⟨rfl, rfl⟩
set_option maxRecDepth 100000 in
theorem rhead_in (F : Nat → Prop) (p : Nat) (nodes top : Int) (sl : List Slt) (id : Int) (s : Slt) (w : World) (h : ArR w F p nodes sl top) (h1 : 1 ≤ id) (h2 : id ≤ sl.length) (hn : sl.length ≤ 65536) (hs : sl[id.toNat - 1]? = some s) (hsm : Small s.2) :
    Calls Try.prog 85 #[.pointer (some ⟨p, 0, none⟩), .int .i64 id] w (NewHead w s.2.lev s.2.high s.2.right 0) := by
  have b1 : Below w.heap.size w (w.alloc (.cells #[.int .i64 0, .slice none 0 0, .int .i64 0] 88)) := (Below.refl _ _).alloc (Nat.le_refl _) _
  have HA := Lib.hid (h.below b1)
  obtain ⟨A, n, c, _, hb, hsl⟩ := h.below b1
  have e1 : n = sl.length := hsl.1
  obtain ⟨b, o, s', hA, hn', hc, kA, kn, kc, vA, vn, vc, dA, dn, dc, rfl, hs', z0, z1, z2, z3, z4, z5, z6, q1, q2, q3, q4⟩ := hsl.at_ (k := id.toNat - 1) (by omega)
  rw [hs] at hs'
  injection hs' with hs'
  subst hs'
  obtain ⟨c0, c1, c2, cf⟩ := blk3 hb
  have h3 : id ≤ n := by omega
  have h4 : n ≤ 65536 := by omega
  have HT : Hid (true = decide (1 ≤ id ∧ id ≤ (sl.length : Int))) := Lib.hid (by simp [h1, h2])
  have HSM := Lib.hid hsm
  clear hs h2 hn e1 hb hsl h hsm
  go_enter Try.func85, Try.ntmps85
  go_wp2_with (first | (go_at_call 100; refine (there_any F p nodes top sl id _ HA.out true HT.out).mono ?_; rintro e w' ⟨rfl, rfl⟩))
  refine (rnclone_any s.2 F hA kA vA dA hn' hc kn kc vn vc dn dc _ q1 q2 q3 q4 HSM.out).mono ?_
  rintro e w1 ⟨A1, n1, c1', A2, n2, c2', A3, n3, c3, A4, n4, c4, rfl, r1, r2, r3, r4, hb1⟩
  have y0 := bkeep (b := w.heap.size) (o := 0) (v := .int .i64 0) hb1 (by simp)
  have y1 := bkeep (b := w.heap.size) (o := 1) (v := .slice none 0 0) hb1 (by simp)
  have y2 := bkeep (b := w.heap.size) (o := 2) (v := .int .i64 0) hb1 (by simp)
  have yf : ∀ o, w1.frozen? ⟨w.heap.size, o, none⟩ = false := ((Blk.new w 88 #[.int .i64 0, .slice none 0 0, .int .i64 0]).below hb1).frozen
  have hws : w.heap.size < w1.heap.size := cell_lt y0
  go_wp2
  refine bodyPost_ret (v := .tuple #[.agg #[.int .i64 s.2.lev, .slice A1 n1 c1', .int .i64 s.2.right], .int .i64 0]) (by simp [results, Try.results85, go_sem, *]) rfl ?_
  have hch : Chg (One w.heap.size) w1 (((w1.setCell ⟨w.heap.size, 0, none⟩ (.int .i64 s.2.lev)).setCell ⟨w.heap.size, 1, none⟩ (.slice A1 n1 c1')).setCell ⟨w.heap.size, 2, none⟩ (.int .i64 s.2.right)) := (chg2 w1 w.heap.size 0 1 _ _).setCell (p := ⟨w.heap.size, 2, none⟩) (fun _ => rfl) _
  have hB1 := b1.trans (hb1.mono b1.size)
  have up : ∀ b, From (w.heap.size + 1) b → From w.heap.size b := fun b hb => by simp only [From] at hb ⊢; omega
  have no : ∀ b, From (w.heap.size + 1) b → ¬ One w.heap.size b := fun b hb e => by simp only [From, One] at hb e; omega
  have hB2 := hB1.trans (hch.below_of hB1.size (fun b hb e => by simp only [One] at e; omega))
  have r1' := ((r1.weak (G := From (w.heap.size + 1)) (fun b hb => by simpa [From] using hb)).chg hch no).weak up
  exact ⟨A1, n1, c1', rfl, r1'.below ((Below.refl _ _).alloc (Nat.le_refl _) _), hB2.alloc hB2.size _⟩
set_option maxRecDepth 100000 in
theorem rbody_in (F : Nat → Prop) (p : Nat) (nodes top : Int) (sl : List Slt) (id : Int) (s : Slt) (w : World) (h : ArR w F p nodes sl top) (h1 : 1 ≤ id) (h2 : id ≤ sl.length) (hn : sl.length ≤ 65536) (hs : sl[id.toNat - 1]? = some s) (hsm : Small s.2) :
    Calls Try.prog 86 #[.pointer (some ⟨p, 0, none⟩), .int .i64 id] w (NewBody w s.2.keys s.2.vals s.2.kids 0) := by
  have b1 : Below w.heap.size w (w.alloc (.cells #[.slice none 0 0, .slice none 0 0, .slice none 0 0] 91)) := (Below.refl _ _).alloc (Nat.le_refl _) _
  have HA := Lib.hid (h.below b1)
  obtain ⟨A, n, c, _, hb, hsl⟩ := h.below b1
  have e1 : n = sl.length := hsl.1
  obtain ⟨b, o, s', hA, hn', hc, kA, kn, kc, vA, vn, vc, dA, dn, dc, rfl, hs', z0, z1, z2, z3, z4, z5, z6, q1, q2, q3, q4⟩ := hsl.at_ (k := id.toNat - 1) (by omega)
  rw [hs] at hs'
  injection hs' with hs'
  subst hs'
  obtain ⟨c0, c1, c2, cf⟩ := blk3 hb
  have h3 : id ≤ n := by omega
  have h4 : n ≤ 65536 := by omega
  have HT : Hid (true = decide (1 ≤ id ∧ id ≤ (sl.length : Int))) := Lib.hid (by simp [h1, h2])
  have HSM := Lib.hid hsm
  clear hs h2 hn e1 hb hsl h hsm
  go_enter Try.func86, Try.ntmps86
  go_wp2_with (first | (go_at_call 100; refine (there_any F p nodes top sl id _ HA.out true HT.out).mono ?_; rintro e w' ⟨rfl, rfl⟩))
  refine (rnclone_any s.2 F hA kA vA dA hn' hc kn kc vn vc dn dc _ q1 q2 q3 q4 HSM.out).mono ?_
  rintro e w1 ⟨A1, n1, c1', A2, n2, c2', A3, n3, c3, A4, n4, c4, rfl, r1, r2, r3, r4, hb1⟩
  have y0 := bkeep (b := w.heap.size) (o := 0) (v := .slice none 0 0) hb1 (by simp)
  have y1 := bkeep (b := w.heap.size) (o := 1) (v := .slice none 0 0) hb1 (by simp)
  have y2 := bkeep (b := w.heap.size) (o := 2) (v := .slice none 0 0) hb1 (by simp)
  have yf : ∀ o, w1.frozen? ⟨w.heap.size, o, none⟩ = false := ((Blk.new w 91 #[.slice none 0 0, .slice none 0 0, .slice none 0 0]).below hb1).frozen
  have hws : w.heap.size < w1.heap.size := cell_lt y0
  go_wp2
  refine bodyPost_ret (v := .tuple #[.agg #[.slice A2 n2 c2', .slice A3 n3 c3, .slice A4 n4 c4], .int .i64 0]) (by simp [results, Try.results86, go_sem, *]) rfl ?_
  have hch : Chg (One w.heap.size) w1 (((w1.setCell ⟨w.heap.size, 0, none⟩ (.slice A2 n2 c2')).setCell ⟨w.heap.size, 1, none⟩ (.slice A3 n3 c3)).setCell ⟨w.heap.size, 2, none⟩ (.slice A4 n4 c4)) := (chg2 w1 w.heap.size 0 1 _ _).setCell (p := ⟨w.heap.size, 2, none⟩) (fun _ => rfl) _
  have hB1 := b1.trans (hb1.mono b1.size)
  have up : ∀ b, From (w.heap.size + 1) b → From w.heap.size b := fun b hb => by simp only [From] at hb ⊢; omega
  have no : ∀ b, From (w.heap.size + 1) b → ¬ One w.heap.size b := fun b hb e => by simp only [From, One] at hb e; omega
  have hB2 := hB1.trans (hch.below_of hB1.size (fun b hb e => by simp only [One] at e; omega))
  have r2' := ((r2.weak (G := From (w.heap.size + 1)) (fun b hb => by simpa [From] using hb)).chg hch no).weak up
  have r3' := ((r3.weak (G := From (w.heap.size + 1)) (fun b hb => by simpa [From] using hb)).chg hch no).weak up
  have r4' := ((r4.weak (G := From (w.heap.size + 1)) (fun b hb => by simpa [From] using hb)).chg hch no).weak up
  exact ⟨A2, n2, c2', A3, n3, c3, A4, n4, c4, rfl, r2'.below ((Below.refl _ _).alloc (Nat.le_refl _) _), r3'.below ((Below.refl _ _).alloc (Nat.le_refl _) _), r4'.below ((Below.refl _ _).alloc (Nat.le_refl _) _), hB2.alloc hB2.size _⟩

set_option maxRecDepth 100000 in
theorem rhead_out (F : Nat → Prop) (p : Nat) (nodes top : Int) (sl : List Slt) (id : Int) (w : World) (h : ArR w F p nodes sl top) (h1 : id < 1 ∨ (sl.length : Int) < id) :
    Calls Try.prog 85 #[.pointer (some ⟨p, 0, none⟩), .int .i64 id] w (NewHead w 0 [] 0 101) := by
  have b1 : Below w.heap.size w (w.alloc (.cells #[.int .i64 0, .slice none 0 0, .int .i64 0] 88)) := (Below.refl _ _).alloc (Nat.le_refl _) _
  have HA := Lib.hid (h.below b1)
  have HT : Hid (false = decide (1 ≤ id ∧ id ≤ (sl.length : Int))) := Lib.hid (by symm; rw [decide_eq_false_iff_not]; omega)
  clear h h1
  go_enter Try.func85, Try.ntmps85
  go_wp2_with (first | (go_at_call 100; refine (there_any F p nodes top sl id _ HA.out false HT.out).mono ?_; rintro e w' ⟨rfl, rfl⟩))
  refine bodyPost_ret (v := .tuple #[.agg #[.int .i64 0, .slice none 0 0, .int .i64 0], .int .i64 101]) (by simp [results, Try.results85, go_sem]) rfl ?_
  exact ⟨none, 0, 0, rfl, Bt.nil _ _, b1⟩
set_option maxRecDepth 100000 in
theorem rbody_out (F : Nat → Prop) (p : Nat) (nodes top : Int) (sl : List Slt) (id : Int) (w : World) (h : ArR w F p nodes sl top) (h1 : id < 1 ∨ (sl.length : Int) < id) :
    Calls Try.prog 86 #[.pointer (some ⟨p, 0, none⟩), .int .i64 id] w (NewBody w [] [] [] 101) := by
  have b1 : Below w.heap.size w (w.alloc (.cells #[.slice none 0 0, .slice none 0 0, .slice none 0 0] 91)) := (Below.refl _ _).alloc (Nat.le_refl _) _
  have HA := Lib.hid (h.below b1)
  have HT : Hid (false = decide (1 ≤ id ∧ id ≤ (sl.length : Int))) := Lib.hid (by symm; rw [decide_eq_false_iff_not]; omega)
  clear h h1
  go_enter Try.func86, Try.ntmps86
  go_wp2_with (first | (go_at_call 100; refine (there_any F p nodes top sl id _ HA.out false HT.out).mono ?_; rintro e w' ⟨rfl, rfl⟩))
  refine bodyPost_ret (v := .tuple #[.agg #[.slice none 0 0, .slice none 0 0, .slice none 0 0], .int .i64 101]) (by simp [results, Try.results86, go_sem]) rfl ?_
  exact ⟨none, 0, 0, none, 0, 0, none, 0, 0, rfl, Tx.nil _ _, Tx.nil _ _, It.nil _ _, b1⟩

theorem rused_any (F : Nat → Prop) (p : Nat) (nodes top : Int) (sl : List Slt) (w : World) (h : ArR w F p nodes sl top) :
    Calls Try.prog 54 #[.pointer (some ⟨p, 0, none⟩)] w fun e w' => e = .returned (.int .i64 sl.length) ∧ w = w' := by
  obtain ⟨A, n, c, _, hb, hs⟩ := h
  have HL := Lib.hid hs.1
  obtain ⟨c0, c1, c2, cf⟩ := blk3 hb
  clear hs hb
  go_enter Try.func54, Try.ntmps54
  go_wp2
  go_ret
  exact ⟨ret_int (by have : n = sl.length := HL.out.out; omega), rfl⟩
theorem rleft_any (F : Nat → Prop) (p : Nat) (nodes top : Int) (sl : List Slt) (w : World) (h : ArR w F p nodes sl top) (h1 : sl.length ≤ 65536) (h2 : 0 ≤ nodes) (h3 : nodes ≤ 65536) :
    Calls Try.prog 57 #[.pointer (some ⟨p, 0, none⟩)] w fun e w' => e = .returned (.int .i64 (nodes - sl.length)) ∧ ∃ q, w' = w.drewN q := by
  obtain ⟨A, n, c, _, hb, hs⟩ := h
  have HL := Lib.hid hs.1
  have h4 : n ≤ 65536 := by have : n = sl.length := hs.1; omega
  obtain ⟨c0, c1, c2, cf⟩ := blk3 hb
  clear hs hb h1
  go_enter Try.func57, Try.ntmps57
  have e1 := IntWalk.i64_in (nodes - (n : Int)) (by omega)
  go_wp2
  go_quiet (fail)
  go_wp2
  go_ret
  exact ⟨ret_int (by have : n = sl.length := HL.out.out; omega), _, rfl⟩
theorem rroot_any (F : Nat → Prop) (p : Nat) (nodes top : Int) (sl : List Slt) (w : World) (h : ArR w F p nodes sl top) :
    Calls Try.prog 58 #[.pointer (some ⟨p, 0, none⟩)] w fun e w' => e = .returned (.int .i64 top) ∧ w = w' := by
  obtain ⟨A, n, c, _, hb, hs⟩ := h
  obtain ⟨c0, c1, c2, cf⟩ := blk3 hb
  clear hs hb
  go_enter Try.func58, Try.ntmps58
  go_wp2
  go_ret
  exact ⟨rfl, rfl⟩
end Go.Proofs.Ytgjphmlmndcaeaa

namespace Go.Proofs.Ytgjphmlmndcaeaa
open Go.RowKit

/-- the six cells of node j of a row -/
def nb (us : List Value) (j : Nat) : List Value := (us.drop (j * 6)).take 6
theorem nb_set_self {us : List Value} {k c : Nat} (u : Value) (hc : c < 6) : nb (us.set (k * 6 + c) u) k = (nb us k).set c u := by
  unfold nb
  rw [List.drop_set, if_neg (by omega), show k * 6 + c - k * 6 = c by omega, List.take_set]
theorem nb_set_ne {us : List Value} {k c j : Nat} (u : Value) (hc : c < 6) (h : j ≠ k) : nb (us.set (k * 6 + c) u) j = nb us j := by
  unfold nb
  rw [List.drop_set]
  split
  · rfl
  · rename_i h1
    rw [List.take_set]
    apply List.set_eq_of_length_le
    rw [List.length_take]
    have : j * 6 + 6 ≤ k * 6 ∨ k * 6 + 6 ≤ j * 6 := by omega
    omega
theorem nb_app_lt {us xs : List Value} {n j : Nat} (hl : us.length = n * 6) (hj : j < n) : nb (us ++ xs) j = nb us j := by
  unfold nb
  rw [List.drop_append_of_le_length (by omega), List.take_append_of_le_length (by rw [List.length_drop]; omega)]
theorem nb_app_eq {us xs : List Value} {n : Nat} (hl : us.length = n * 6) (hx : xs.length = 6) : nb (us ++ xs) n = xs := by
  unfold nb
  rw [List.drop_append, List.drop_of_length_le (by omega), hl, Nat.sub_self, List.nil_append, List.drop_zero, List.take_of_length_le (by omega)]
theorem nb_at {us : List Value} {k c : Nat} {u : Value} (hc : c < 6) (h : (nb us k)[c]? = some u) : us[k * 6 + c]? = some u := by
  unfold nb at h
  rwa [List.getElem?_take, if_pos hc, List.getElem?_drop] at h

/-- one node's six cells -/
def NodeV (w : World) (F : Nat → Prop) (vs : List Value) (s : Nd) : Prop :=
  ∃ hA hn hc kA kn kc vA vn vc dA dn dc, vs = [.int .i64 s.lev, .slice hA hn hc, .int .i64 s.right, .slice kA kn kc, .slice vA vn vc, .slice dA dn dc] ∧
    Bt w F hA hn hc s.high ∧ Tx w F kA kn kc s.keys ∧ Tx w F vA vn vc s.vals ∧ It w F dA dn dc s.kids
section
variable {S F G D D' : Nat → Prop} {w w' : World} {vs : List Value} {s : Nd}
theorem NodeV.weak (h : NodeV w F vs s) (hF : ∀ b, F b → G b) : NodeV w G vs s := by
  obtain ⟨hA, hn, hc, kA, kn, kc, vA, vn, vc, dA, dn, dc, h1, h2, h3, h4, h5⟩ := h
  exact ⟨hA, hn, hc, kA, kn, kc, vA, vn, vc, dA, dn, dc, h1, h2.weak hF, h3.weak hF, h4.weak hF, h5.weak hF⟩
theorem NodeV.next (h : NodeV w D vs s) (hc : Chg S w w') (hs : ∀ b, b < w.heap.size → D b → ¬ S b) (hD : ∀ b, b < w.heap.size → D b → D' b) : NodeV w' D' vs s := by
  obtain ⟨hA, hn, hc', kA, kn, kc, vA, vn, vc, dA, dn, dc, h1, h2, h3, h4, h5⟩ := h
  exact ⟨hA, hn, hc', kA, kn, kc, vA, vn, vc, dA, dn, dc, h1, (h2.lt.chg hc (fun b hb => hs b hb.2 hb.1)).weak (fun b hb => hD b hb.2 hb.1), (h3.lt.chg hc (fun b hb => hs b hb.2 hb.1)).weak (fun b hb => hD b hb.2 hb.1), (h4.lt.chg hc (fun b hb => hs b hb.2 hb.1)).weak (fun b hb => hD b hb.2 hb.1), (h5.lt.chg hc (fun b hb => hs b hb.2 hb.1)).weak (fun b hb => hD b hb.2 hb.1)⟩
end

/-- a level: a row of nodes, all that hangs on it in blocks of D -/
def Level (w : World) (D : Nat → Prop) (base : Nat) (v : Value) (nds : List Nd) : Prop :=
  ∃ us, w.ownsRow base 93 6 v nds.length us ∧ (∀ g, v.ownBlock = some g → D g) ∧ ∀ (i : Nat) (s : Nd), nds[i]? = some s → NodeV w D (nb us i) s

/-- a level being made: k nodes are done, the last one has these cells; nothing that is written is used twice -/
structure Mk (w : World) (base : Nat) (E : Nat → Prop) (out : Value) (k : Nat) (f : Nat → Nd) (lev : Int) (h kv vv dv : Value) (us : List Value) : Prop where
  own : w.ownsRow base 93 6 out (k + 1) us
  last : nb us k = [.int .i64 lev, h, .int .i64 0, kv, vv, dv]
  d1 : ∀ g, out.ownBlock = some g → kv.ownBlock ≠ some g ∧ vv.ownBlock ≠ some g ∧ dv.ownBlock ≠ some g
  full : ∀ j, j < k → NodeV w (fun b => (E b ∨ base ≤ b) ∧ ¬ (out.ownBlock = some b ∨ kv.ownBlock = some b ∨ vv.ownBlock = some b ∨ dv.ownBlock = some b)) (nb us j) (f j)
section
variable {S E : Nat → Prop} {w w' : World} {base k : Nat} {out : Value} {f : Nat → Nd} {lev : Int} {h kv vv dv : Value} {us : List Value}
theorem Mk.below (m : Mk w base E out k f lev h kv vv dv us) (hb : Below w.heap.size w w') : Mk w' base E out k f lev h kv vv dv us :=
  ⟨own_below m.own hb, m.last, m.d1, fun j hj => (m.full j hj).next (Chg.of_below (S := Nil) hb) (fun _ _ _ h => h) (fun _ _ h => h)⟩
/-- the block of the row, and where the last node's cells lie in it -/
theorem Mk.form (m : Mk w base E out k f lev h kv vv dv us) : ∃ g c, out = .slice (some ⟨g, 0, none⟩) (k + 1) c ∧ k + 1 ≤ c ∧ c ≤ maxLen ∧ base ≤ g ∧ g < w.heap.size ∧ (∀ o, w.frozen? ⟨g, o, none⟩ = false) ∧ w.cell? ⟨g, k * 6, none⟩ = some (.int .i64 lev) ∧ w.cell? ⟨g, k * 6 + 1, none⟩ = some h ∧ w.cell? ⟨g, k * 6 + 2, none⟩ = some (.int .i64 0) ∧ w.cell? ⟨g, k * 6 + 3, none⟩ = some kv ∧ w.cell? ⟨g, k * 6 + 4, none⟩ = some vv ∧ w.cell? ⟨g, k * 6 + 5, none⟩ = some dv := by
  obtain ⟨g, c, hv, hb, hl⟩ := m.own.form (by omega)
  have ho := m.own
  rw [hv] at ho
  have hc : ∀ (j : Nat) (u : Value), j < 6 → (nb us k)[j]? = some u → w.cell? ⟨g, k * 6 + j, none⟩ = some u := fun j u hj hu => by
    rw [ho.cellAt (k * 6 + j) (by omega)]; exact nb_at hj hu
  rw [m.last] at hc
  obtain ⟨_, _, e, q1, q2⟩ := own_val ho
  injection e with _ _ e
  subst e
  have hl' := (own_lt ho g rfl).2
  exact ⟨g, _, hv, q1, q2, hb, hl', ho.frozenAt, hc 0 _ (by omega) rfl, hc 1 _ (by omega) rfl, hc 2 _ (by omega) rfl, hc 3 _ (by omega) rfl, hc 4 _ (by omega) rfl, hc 5 _ (by omega) rfl⟩
/-- a cell of the last node is written: the high -/
theorem Mk.setHigh {g c : Nat} (m : Mk w base E (.slice (some ⟨g, 0, none⟩) (k + 1) c) k f lev h kv vv dv us) (u : Value) : Mk (w.setCell ⟨g, k * 6 + 1, none⟩ u) base E (.slice (some ⟨g, 0, none⟩) (k + 1) c) k f lev u kv vv dv (us.set (k * 6 + 1) u) :=
  ⟨(m.own.stored _ u).1, by rw [nb_set_self u (by omega), m.last]; rfl, m.d1, fun j hj => by rw [nb_set_ne u (by omega) (by omega)]; exact (m.full j hj).next (Chg.set1 w g _ u) (fun b _ hb e => hb.2 (.inl (by rw [show b = g from e]; rfl))) (fun _ _ h => h)⟩
/-- a row of the last node has grown: the keys -/
theorem Mk.setKeys {g c : Nat} {wa w2 : World} {v2 : Value} (m : Mk w base E (.slice (some ⟨g, 0, none⟩) (k + 1) c) k f lev h kv vv dv us) (hb : Below w.heap.size w wa) (hg : wa.grownBy w2 kv.ownBlock) (hat : v2.ownBlock = kv.ownBlock ∨ v2.ownBlock = some wa.heap.size) :
    Mk (w2.setCell ⟨g, k * 6 + 3, none⟩ v2) base E (.slice (some ⟨g, 0, none⟩) (k + 1) c) k f lev h v2 vv dv (us.set (k * 6 + 3) v2) := by
  have hgw := (own_lt m.own g rfl).2
  have hc2 : Chg (fun b => kv.ownBlock = some b) wa w2 := Chg.of_grown hg
  have own2 := own_chg (own_below m.own hb) hc2 (fun g' hg' e => (m.d1 g' hg').1 e)
  have hws := hb.size
  have hnew : ∀ b, b < w.heap.size → v2.ownBlock = some b → kv.ownBlock = some b := fun b hb' e => hat.elim (fun e' => e' ▸ e) (fun e' => by rw [e'] at e; injection e with e; omega)
  refine ⟨(own2.stored _ v2).1, by rw [nb_set_self v2 (by omega), m.last]; rfl, fun g' hg' => ⟨fun e => ?_, (m.d1 g' hg').2⟩, fun j hj => ?_⟩
  · have hg' : some g = some g' := hg'
    injection hg' with hg'
    subst hg'
    exact (m.d1 g rfl).1 (hnew g hgw e)
  · rw [nb_set_ne v2 (by omega) (by omega)]
    have s1 := (m.full j hj).next (Chg.of_below (S := Nil) hb) (fun _ _ _ h => h) (D' := fun b => ((E b ∨ base ≤ b) ∧ ¬ ((Value.slice (some ⟨g, 0, none⟩) (k + 1) c).ownBlock = some b ∨ kv.ownBlock = some b ∨ vv.ownBlock = some b ∨ dv.ownBlock = some b)) ∧ b < w.heap.size) (fun b hb h => ⟨h, hb⟩)
    have s2 := s1.next hc2 (fun b _ hb e => hb.1.2 (.inr (.inl e))) (fun b _ h => h)
    exact s2.next (Chg.set1 w2 g _ v2) (fun b _ hb e => hb.1.2 (.inl (by rw [show b = g from e]; rfl))) (fun b _ hb => ⟨hb.1.1, fun h => hb.1.2 (h.imp id (fun h => h.imp (hnew b hb.2) id))⟩)
theorem Mk.setVals {g c : Nat} {wa w2 : World} {v2 : Value} (m : Mk w base E (.slice (some ⟨g, 0, none⟩) (k + 1) c) k f lev h kv vv dv us) (hb : Below w.heap.size w wa) (hg : wa.grownBy w2 vv.ownBlock) (hat : v2.ownBlock = vv.ownBlock ∨ v2.ownBlock = some wa.heap.size) :
    Mk (w2.setCell ⟨g, k * 6 + 4, none⟩ v2) base E (.slice (some ⟨g, 0, none⟩) (k + 1) c) k f lev h kv v2 dv (us.set (k * 6 + 4) v2) := by
  have hgw := (own_lt m.own g rfl).2
  have hc2 : Chg (fun b => vv.ownBlock = some b) wa w2 := Chg.of_grown hg
  have own2 := own_chg (own_below m.own hb) hc2 (fun g' hg' e => (m.d1 g' hg').2.1 e)
  have hws := hb.size
  have hnew : ∀ b, b < w.heap.size → v2.ownBlock = some b → vv.ownBlock = some b := fun b hb' e => hat.elim (fun e' => e' ▸ e) (fun e' => by rw [e'] at e; injection e with e; omega)
  refine ⟨(own2.stored _ v2).1, by rw [nb_set_self v2 (by omega), m.last]; rfl, fun g' hg' => ⟨(m.d1 g' hg').1, fun e => ?_, (m.d1 g' hg').2.2⟩, fun j hj => ?_⟩
  · have hg' : some g = some g' := hg'
    injection hg' with hg'
    subst hg'
    exact (m.d1 g rfl).2.1 (hnew g hgw e)
  · rw [nb_set_ne v2 (by omega) (by omega)]
    have s1 := (m.full j hj).next (Chg.of_below (S := Nil) hb) (fun _ _ _ h => h) (D' := fun b => ((E b ∨ base ≤ b) ∧ ¬ ((Value.slice (some ⟨g, 0, none⟩) (k + 1) c).ownBlock = some b ∨ kv.ownBlock = some b ∨ vv.ownBlock = some b ∨ dv.ownBlock = some b)) ∧ b < w.heap.size) (fun b hb h => ⟨h, hb⟩)
    have s2 := s1.next hc2 (fun b _ hb e => hb.1.2 (.inr (.inr (.inl e)))) (fun b _ h => h)
    exact s2.next (Chg.set1 w2 g _ v2) (fun b _ hb e => hb.1.2 (.inl (by rw [show b = g from e]; rfl))) (fun b _ hb => ⟨hb.1.1, fun h => hb.1.2 (h.imp id (fun h => h.imp id (fun h => h.imp (hnew b hb.2) id)))⟩)
theorem Mk.setKids {g c : Nat} {wa w2 : World} {v2 : Value} (m : Mk w base E (.slice (some ⟨g, 0, none⟩) (k + 1) c) k f lev h kv vv dv us) (hb : Below w.heap.size w wa) (hg : wa.grownBy w2 dv.ownBlock) (hat : v2.ownBlock = dv.ownBlock ∨ v2.ownBlock = some wa.heap.size) :
    Mk (w2.setCell ⟨g, k * 6 + 5, none⟩ v2) base E (.slice (some ⟨g, 0, none⟩) (k + 1) c) k f lev h kv vv v2 (us.set (k * 6 + 5) v2) := by
  have hgw := (own_lt m.own g rfl).2
  have hc2 : Chg (fun b => dv.ownBlock = some b) wa w2 := Chg.of_grown hg
  have own2 := own_chg (own_below m.own hb) hc2 (fun g' hg' e => (m.d1 g' hg').2.2 e)
  have hws := hb.size
  have hnew : ∀ b, b < w.heap.size → v2.ownBlock = some b → dv.ownBlock = some b := fun b hb' e => hat.elim (fun e' => e' ▸ e) (fun e' => by rw [e'] at e; injection e with e; omega)
  refine ⟨(own2.stored _ v2).1, by rw [nb_set_self v2 (by omega), m.last]; rfl, fun g' hg' => ⟨(m.d1 g' hg').1, (m.d1 g' hg').2.1, fun e => ?_⟩, fun j hj => ?_⟩
  · have hg' : some g = some g' := hg'
    injection hg' with hg'
    subst hg'
    exact (m.d1 g rfl).2.2 (hnew g hgw e)
  · rw [nb_set_ne v2 (by omega) (by omega)]
    have s1 := (m.full j hj).next (Chg.of_below (S := Nil) hb) (fun _ _ _ h => h) (D' := fun b => ((E b ∨ base ≤ b) ∧ ¬ ((Value.slice (some ⟨g, 0, none⟩) (k + 1) c).ownBlock = some b ∨ kv.ownBlock = some b ∨ vv.ownBlock = some b ∨ dv.ownBlock = some b)) ∧ b < w.heap.size) (fun b hb h => ⟨h, hb⟩)
    have s2 := s1.next hc2 (fun b _ hb e => hb.1.2 (.inr (.inr (.inr e)))) (fun b _ h => h)
    exact s2.next (Chg.set1 w2 g _ v2) (fun b _ hb e => hb.1.2 (.inl (by rw [show b = g from e]; rfl))) (fun b _ hb => ⟨hb.1.1, fun h => hb.1.2 (h.imp id (fun h => h.imp id (fun h => h.imp id (hnew b hb.2))))⟩)
/-- the last node is done; another one begins -/
theorem Mk.more {wa w2 : World} {v2 : Value} {lev2 : Int} (m : Mk w base E out k f lev h kv vv dv us) (hb : Below w.heap.size w wa) (hg : wa.grownBy w2 out.ownBlock) (hat : v2.ownBlock = out.ownBlock ∨ v2.ownBlock = some wa.heap.size)
    (ho : w2.ownsRow base 93 6 v2 (k + 1 + 1) (us ++ [.int .i64 lev2, .slice none 0 0, .int .i64 0, .slice none 0 0, .slice none 0 0, .slice none 0 0]))
    (hn : NodeV w (fun b => (E b ∨ base ≤ b) ∧ out.ownBlock ≠ some b) [.int .i64 lev, h, .int .i64 0, kv, vv, dv] (f k)) : Mk w2 base E v2 (k + 1) f lev2 (.slice none 0 0) (.slice none 0 0) (.slice none 0 0) (.slice none 0 0) (us ++ [.int .i64 lev2, .slice none 0 0, .int .i64 0, .slice none 0 0, .slice none 0 0, .slice none 0 0]) := by
  have hl := m.own.1
  have hws := hb.size
  have hnil : ∀ b, (Value.slice none 0 0).ownBlock ≠ some b := fun b e => by simp [Value.ownBlock] at e
  have hnew : ∀ b, b < w.heap.size → v2.ownBlock = some b → out.ownBlock = some b := fun b hb' e => hat.elim (fun e' => e' ▸ e) (fun e' => by rw [e'] at e; injection e with e; omega)
  refine ⟨ho, nb_app_eq hl rfl, fun g _ => ⟨hnil g, hnil g, hnil g⟩, fun j hj => ?_⟩
  rw [nb_app_lt hl hj]
  have key : NodeV w (fun b => (E b ∨ base ≤ b) ∧ out.ownBlock ≠ some b) (nb us j) (f j) := by
    rcases Nat.lt_or_ge j k with hk | hk
    · exact (m.full j hk).weak (fun b hb => ⟨hb.1, fun e => hb.2 (.inl e)⟩)
    · obtain rfl : j = k := by omega
      rw [m.last]; exact hn
  have s1 := key.next (Chg.of_below (S := Nil) hb) (fun _ _ _ h => h) (D' := fun b => ((E b ∨ base ≤ b) ∧ out.ownBlock ≠ some b) ∧ b < w.heap.size) (fun b hb h => ⟨h, hb⟩)
  exact s1.next (Chg.of_grown hg) (fun b _ hb e => hb.1.2 e) (fun b _ hb => ⟨hb.1.1, fun h => h.elim (fun h => hb.1.2 (hnew b hb.2 h)) (fun h => h.elim (hnil b) (fun h => h.elim (hnil b) (hnil b)))⟩)
/-- all is done -/
theorem Mk.level (m : Mk w base E out k f lev h kv vv dv us) (hn : NodeV w (fun b => (E b ∨ base ≤ b) ∧ out.ownBlock ≠ some b) [.int .i64 lev, h, .int .i64 0, kv, vv, dv] (f k)) : Level w (fun b => E b ∨ base ≤ b) base out ((List.range (k + 1)).map f) := by
  refine ⟨us, by simpa using m.own, fun g hg => .inr (own_lt m.own g hg).1, fun i s hs => ?_⟩
  have hi : i < k + 1 := by have := (List.getElem?_eq_some_iff.1 hs).1; simpa using this
  have hs' : s = f i := by rw [List.getElem?_map, List.getElem?_range hi] at hs; simpa using hs.symm
  subst hs'
  rcases Nat.lt_or_ge i k with hk | hk
  · exact (m.full i hk).weak (fun b hb => hb.1)
  · obtain rfl : i = k := by omega
    rw [m.last]; exact hn.weak (fun b hb => hb.1)
end
end Go.Proofs.Ytgjphmlmndcaeaa

namespace Go.Proofs.Ytgjphmlmndcaeaa
open Go.RowKit
noncomputable def rlBetwC : Code := codeOr (Try.f43.body.bind (regionAt 6))
set_option maxRecDepth 100000 in
set_option maxHeartbeats 4000000 in
theorem rl_betw (b o n c i : Nat) (Ak Bk : Option Addr) (nk nk3 ck ck3 : Nat) (D : Nat → Prop) (xs ys : List UInt8) (w : World) {u0 u2 u3 u4 u5 u7 u8 u9 u10 u11 u12 u13 u14 u15 u16 u17 u18 u19 u20 u21 u22 u23 u24 u25 u26 u27 u28 u29 u30 u31 u32 u33 u34 u35 u36 u37 u38 u39 u40 u41 u42 u43 u44 u45 u46 u47 u48 u49 u50 u51 u52 u53 u54 u55 u56 u57 u58 u59 u60 u61 u62 u63 u64 u65 u66 u67 u68 u69 u70 u71 u72 u73 u74 u75 u76 u77 u78 u79 u80 u81 u82 u83 u84 u85 u86 u87 u88 u89 u90 u91 : Value} (Q : Exit → Act → World → Prop) (HQP : Hid (∀ c t (a : Act) w, Q (.panic c) ⟨t, a.defers⟩ w → Q (.panic c) a w))
    (hi : 1 ≤ i) (hin : i < n) (hn : n ≤ 1152921504606)
    (c1 : w.cell? ⟨b, o + (i - 1) * 2, none⟩ = some (.slice Ak nk ck)) (c2 : w.cell? ⟨b, o + i * 2, none⟩ = some (.slice Bk nk3 ck3))
    (HSA : Hid (Bt w D Ak nk ck xs)) (HSB : Hid (Bt w D Bk nk3 ck3 ys)) (lx : xs.length ≤ 1152921504606) (ly : ys.length ≤ 1152921504606)
    (hexit : ∀ (v27 v28 v29 v30 v31 v32 v33 v34 v35 v36 v37 v38 v39 v40 v41 : Value) (K5 : Option Addr) (n5 c5 : Nat) (e5 : Int) (w5 : World), Bt w5 (From w.heap.size) K5 n5 c5 (betw xs ys).1 → Below w.heap.size w w5 → Q .normal ⟨(u0 :: .slice (some ⟨b, o, none⟩) n c :: u2 :: u3 :: u4 :: u5 :: .int .i64 i :: .slice K5 n5 c5 :: .int .i64 e5 :: u9 :: u10 :: u11 :: u12 :: u13 :: u14 :: u15 :: u16 :: u17 :: u18 :: u19 :: u20 :: u21 :: u22 :: u23 :: u24 :: u25 :: u26 :: v27 :: v28 :: v29 :: v30 :: v31 :: v32 :: v33 :: v34 :: v35 :: v36 :: v37 :: v38 :: v39 :: v40 :: v41 :: u42 :: u43 :: u44 :: u45 :: u46 :: u47 :: u48 :: u49 :: u50 :: u51 :: u52 :: u53 :: u54 :: u55 :: u56 :: u57 :: u58 :: u59 :: u60 :: u61 :: u62 :: u63 :: u64 :: u65 :: u66 :: u67 :: u68 :: u69 :: u70 :: u71 :: u72 :: u73 :: u74 :: u75 :: u76 :: u77 :: u78 :: u79 :: u80 :: u81 :: u82 :: u83 :: u84 :: u85 :: u86 :: u87 :: u88 :: u89 :: u90 :: u91 :: []).toArray, []⟩ w5) :
    Code.wp Try.prog rlBetwC Q ⟨(u0 :: .slice (some ⟨b, o, none⟩) n c :: u2 :: u3 :: u4 :: u5 :: .int .i64 i :: u7 :: u8 :: u9 :: u10 :: u11 :: u12 :: u13 :: u14 :: u15 :: u16 :: u17 :: u18 :: u19 :: u20 :: u21 :: u22 :: u23 :: u24 :: u25 :: u26 :: u27 :: u28 :: u29 :: u30 :: u31 :: u32 :: u33 :: u34 :: u35 :: u36 :: u37 :: u38 :: u39 :: u40 :: u41 :: u42 :: u43 :: u44 :: u45 :: u46 :: u47 :: u48 :: u49 :: u50 :: u51 :: u52 :: u53 :: u54 :: u55 :: u56 :: u57 :: u58 :: u59 :: u60 :: u61 :: u62 :: u63 :: u64 :: u65 :: u66 :: u67 :: u68 :: u69 :: u70 :: u71 :: u72 :: u73 :: u74 :: u75 :: u76 :: u77 :: u78 :: u79 :: u80 :: u81 :: u82 :: u83 :: u84 :: u85 :: u86 :: u87 :: u88 :: u89 :: u90 :: u91 :: []).toArray, []⟩ w := by
  have HEX := Lib.hid hexit
  have w1 := IntWalk.i64_in ((i : Int) - 1) (by omega)
  have w2 : (0 : Int) ≤ (i : Int) - 1 := by omega
  have w3 : ((i : Int) - 1) < n := by omega
  have w4 : ((i : Int) - 1).toNat = i - 1 := by omega
  have w8 : (1 : Int) ≤ (i : Int) := by omega
  have lna : nk ≤ 1152921504606 := by have := HSA.out.len; omega
  have lnb : nk3 ≤ 1152921504606 := by have := HSB.out.len; omega
  clear hexit lx ly
  conv => arg 2; whnf
  refine wp_region_V (fun w' => w'.cell? ⟨b, o + (i - 1) * 2, none⟩ = some (.slice Ak nk ck) ∧ w'.cell? ⟨b, o + i * 2, none⟩ = some (.slice Bk nk3 ck3)) (by kernel_rfl) ?_
  have S0 : w.drew.cell? ⟨b, o + (i - 1) * 2, none⟩ = some (.slice Ak nk ck) ∧ w.drew.cell? ⟨b, o + i * 2, none⟩ = some (.slice Bk nk3 ck3) := ⟨c1, c2⟩
  refine wpV_take (i := 0) (v := ?_) rfl (by kernel_rfl) (by kernel_rfl) (by kernel_rfl) (by first | exact fun _ _ _ h => h | exact fun c a w h => HQP.out c _ a w h) S0 (Or.inl ⟨by rfl, ?_⟩) ?_
  rotate_left
  · intro w hSw
    go_simp
    try with_reducible rfl
  try simp only [Act.put, List.setIfInBounds_toArray, List.set_cons_zero, List.set_cons_succ]
  refine wpV_take (i := 1) (v := ?_) rfl (by kernel_rfl) (by kernel_rfl) (by kernel_rfl) (by first | exact fun _ _ _ h => h | exact fun c a w h => HQP.out c _ a w h) S0 (Or.inl ⟨by rfl, ?_⟩) ?_
  rotate_left
  · intro w hSw
    go_simp
    try with_reducible rfl
  try simp only [Act.put, List.setIfInBounds_toArray, List.set_cons_zero, List.set_cons_succ]
  refine wpV_take (i := 2) (v := ?_) rfl (by kernel_rfl) (by kernel_rfl) (by kernel_rfl) (by first | exact fun _ _ _ h => h | exact fun c a w h => HQP.out c _ a w h) S0 (Or.inl ⟨by rfl, ?_⟩) ?_
  rotate_left
  · intro w hSw
    go_simp
    try with_reducible rfl
  try simp only [Act.put, List.setIfInBounds_toArray, List.set_cons_zero, List.set_cons_succ]
  refine wpV_take (i := 3) (v := ?_) rfl (by kernel_rfl) (by kernel_rfl) (by kernel_rfl) (by first | exact fun _ _ _ h => h | exact fun c a w h => HQP.out c _ a w h) S0 (Or.inl ⟨by rfl, ?_⟩) ?_
  rotate_left
  · intro w hSw
    go_simp
    try with_reducible rfl
  try simp only [Act.put, List.setIfInBounds_toArray, List.set_cons_zero, List.set_cons_succ]
  refine wpV_take (i := 4) (v := ?_) rfl (by kernel_rfl) (by kernel_rfl) (by kernel_rfl) (by first | exact fun _ _ _ h => h | exact fun c a w h => HQP.out c _ a w h) S0 (Or.inl ⟨by rfl, ?_⟩) ?_
  rotate_left
  · intro w hSw
    go_simp
    try with_reducible rfl
  try simp only [Act.put, List.setIfInBounds_toArray, List.set_cons_zero, List.set_cons_succ]
  refine wpV_take (i := 6) (v := ?_) rfl (by kernel_rfl) (by kernel_rfl) (by kernel_rfl) (by first | exact fun _ _ _ h => h | exact fun c a w h => HQP.out c _ a w h) S0 (Or.inl ⟨by rfl, ?_⟩) ?_
  rotate_left
  · intro w hSw
    go_simp
    try with_reducible rfl
  try simp only [Act.put, List.setIfInBounds_toArray, List.set_cons_zero, List.set_cons_succ]
  refine wpV_take (i := 7) (v := ?_) rfl (by kernel_rfl) (by kernel_rfl) (by kernel_rfl) (by first | exact fun _ _ _ h => h | exact fun c a w h => HQP.out c _ a w h) S0 (Or.inl ⟨by rfl, ?_⟩) ?_
  rotate_left
  · intro w hSw
    go_simp
    try with_reducible rfl
  try simp only [Act.put, List.setIfInBounds_toArray, List.set_cons_zero, List.set_cons_succ]
  refine wpV_take (i := 8) (v := ?_) rfl (by kernel_rfl) (by kernel_rfl) (by kernel_rfl) (by first | exact fun _ _ _ h => h | exact fun c a w h => HQP.out c _ a w h) S0 (Or.inl ⟨by rfl, ?_⟩) ?_
  rotate_left
  · intro w hSw
    go_simp
    try with_reducible rfl
  try simp only [Act.put, List.setIfInBounds_toArray, List.set_cons_zero, List.set_cons_succ]
  refine wpV_take (i := 9) (v := ?_) rfl (by kernel_rfl) (by kernel_rfl) (by kernel_rfl) (by first | exact fun _ _ _ h => h | exact fun c a w h => HQP.out c _ a w h) S0 (Or.inl ⟨by rfl, ?_⟩) ?_
  rotate_left
  · intro w hSw
    go_simp
    try with_reducible rfl
  try simp only [Act.put, List.setIfInBounds_toArray, List.set_cons_zero, List.set_cons_succ]
  refine wpV_take (i := 5) (v := ?_) rfl (by kernel_rfl) (by kernel_rfl) (by kernel_rfl) (by first | exact fun _ _ _ h => h | exact fun c a w h => HQP.out c _ a w h) S0 (Or.inl ⟨by rfl, ?_⟩) ?_
  rotate_left
  · intro w hSw
    obtain ⟨s0, s1⟩ := hSw
    go_simp
    try with_reducible rfl
  try simp only [Act.put, List.setIfInBounds_toArray, List.set_cons_zero, List.set_cons_succ]
  refine wpV_take (i := 10) (v := ?_) rfl (by kernel_rfl) (by kernel_rfl) (by kernel_rfl) (by first | exact fun _ _ _ h => h | exact fun c a w h => HQP.out c _ a w h) S0 (Or.inl ⟨by rfl, ?_⟩) ?_
  rotate_left
  · intro w hSw
    obtain ⟨s0, s1⟩ := hSw
    go_simp
    try with_reducible rfl
  try simp only [Act.put, List.setIfInBounds_toArray, List.set_cons_zero, List.set_cons_succ]
  refine wpV_one (i := 11) (by kernel_rfl) rfl (fun K hK => ?_)
  go_simp
  refine (rbetween_any Ak Bk nk nk3 ck ck3 _ _ xs ys _ HSA.out.2.2.2.drew HSA.out.2.2.1 HSB.out.2.2.2.drew HSB.out.2.2.1 HSB.out.1 lna lnb HSB.out.2.1).mono ?_; rintro e w5 ⟨K5, n5, c5, rfl, p1, p2, p3, p4, hb5⟩; have S5 : w5.cell? ⟨b, o + (i - 1) * 2, none⟩ = some (.slice Ak nk ck) ∧ w5.cell? ⟨b, o + i * 2, none⟩ = some (.slice Bk nk3 ck3) := ⟨bkeep hb5 S0.1, bkeep hb5 S0.2⟩
  refine hK.out _ _ S5 ?_
  clear hK K
  try simp only [Act.put, List.setIfInBounds_toArray, List.set_cons_zero, List.set_cons_succ]
  refine wpV_take (i := 12) (v := ?_) rfl (by kernel_rfl) (by kernel_rfl) (by kernel_rfl) (by first | exact fun _ _ _ h => h | exact fun c a w h => HQP.out c _ a w h) S5 (Or.inl ⟨by rfl, ?_⟩) ?_
  rotate_left
  · intro w hSw
    go_simp
    try with_reducible rfl
  try simp only [Act.put, List.setIfInBounds_toArray, List.set_cons_zero, List.set_cons_succ]
  refine wpV_take (i := 13) (v := ?_) rfl (by kernel_rfl) (by kernel_rfl) (by kernel_rfl) (by first | exact fun _ _ _ h => h | exact fun c a w h => HQP.out c _ a w h) S5 (Or.inl ⟨by rfl, ?_⟩) ?_
  rotate_left
  · intro w hSw
    go_simp
    try with_reducible rfl
  try simp only [Act.put, List.setIfInBounds_toArray, List.set_cons_zero, List.set_cons_succ]
  refine wpV_take (i := 14) (v := ?_) rfl (by kernel_rfl) (by kernel_rfl) (by kernel_rfl) (by first | exact fun _ _ _ h => h | exact fun c a w h => HQP.out c _ a w h) S5 (Or.inl ⟨by rfl, ?_⟩) ?_
  rotate_left
  · intro w hSw
    go_simp
    try with_reducible rfl
  try simp only [Act.put, List.setIfInBounds_toArray, List.set_cons_zero, List.set_cons_succ]
  refine wpV_take (i := 15) (v := ?_) rfl (by kernel_rfl) (by kernel_rfl) (by kernel_rfl) (by first | exact fun _ _ _ h => h | exact fun c a w h => HQP.out c _ a w h) S5 (Or.inl ⟨by rfl, ?_⟩) ?_
  rotate_left
  · intro w hSw
    go_simp
    try with_reducible rfl
  try simp only [Act.put, List.setIfInBounds_toArray, List.set_cons_zero, List.set_cons_succ]
  refine wpV_take (i := 16) (v := ?_) rfl (by kernel_rfl) (by kernel_rfl) (by kernel_rfl) (by first | exact fun _ _ _ h => h | exact fun c a w h => HQP.out c _ a w h) S5 (Or.inl ⟨by rfl, ?_⟩) ?_
  rotate_left
  · intro w hSw
    go_simp
    try with_reducible rfl
  try simp only [Act.put, List.setIfInBounds_toArray, List.set_cons_zero, List.set_cons_succ]
  refine wpV_done (by kernel_rfl) ?_ _
  exact HEX.out _ _ _ _ _ _ _ _ _ _ _ _ _ _ _ K5 n5 c5 _ w5 ⟨p1, p2, p3, p4.weak (fun b hb => hb.1)⟩ ((Below.refl _ _).drew.trans hb5)

noncomputable def rl_keyC : Code := codeOr (Try.f43.body.bind (regionAt 10))
set_option maxRecDepth 100000 in
set_option maxHeartbeats 4000000 in
theorem rl_key (b o n c i g q : Nat) (base : Nat) (kv : Value) (m : Nat) (kus : List Value) (Ah : Option Addr) (nh ch : Nat) (w : World) {u0 u2 u3 u4 u5 u7 u8 u10 u11 u12 u13 u14 u15 u16 u17 u18 u19 u20 u21 u22 u23 u24 u25 u26 u27 u28 u29 u30 u31 u32 u33 u34 u35 u36 u37 u38 u39 u40 u41 u42 u43 u44 u45 u46 u47 u48 u49 u50 u51 u52 u53 u54 u55 u56 u57 u58 u59 u60 u61 u62 u63 u64 u65 u66 u67 u68 u69 u70 u71 u72 u73 u74 u75 u76 u77 u78 u79 u80 u81 u82 u83 u84 u85 u86 u87 u88 u89 u90 u91 : Value} (Q : Exit → Act → World → Prop) (HQP : Hid (∀ c t (a : Act) w, Q (.panic c) ⟨t, a.defers⟩ w → Q (.panic c) a w))
    (hin : i < n) (hn : n ≤ 1152921504606) (hm : m ≤ 1152921504606) (hbase : base ≤ w.heap.size) (hbb : b < base)
    (c1 : w.cell? ⟨b, o + i * 2, none⟩ = some (.slice Ah nh ch)) (c2 : w.cell? ⟨g, q + 3, none⟩ = some kv) (cf : ∀ o, w.frozen? ⟨g, o, none⟩ = false) (hown : w.ownsRow base 41 1 kv m kus) (hgk : kv.ownBlock ≠ some g)
    (hexit : ∀ (v59 v60 v61 v62 v63 v64 v65 v66 v67 v68 v69 v70 v71 v72 v73 v74 : Value) (v2 : Value) (wa w2 : World), Below w.heap.size w wa → w2.ownsRow base 41 1 v2 (m + 1) (kus ++ [.slice Ah nh ch]) → wa.grownBy w2 kv.ownBlock → (v2.ownBlock = kv.ownBlock ∨ v2.ownBlock = some wa.heap.size) → Q .normal ⟨(u0 :: .slice (some ⟨b, o, none⟩) n c :: u2 :: u3 :: u4 :: u5 :: .int .i64 i :: u7 :: u8 :: .pointer (some ⟨g, q, none⟩) :: u10 :: u11 :: u12 :: u13 :: u14 :: u15 :: u16 :: u17 :: u18 :: u19 :: u20 :: u21 :: u22 :: u23 :: u24 :: u25 :: u26 :: u27 :: u28 :: u29 :: u30 :: u31 :: u32 :: u33 :: u34 :: u35 :: u36 :: u37 :: u38 :: u39 :: u40 :: u41 :: u42 :: u43 :: u44 :: u45 :: u46 :: u47 :: u48 :: u49 :: u50 :: u51 :: u52 :: u53 :: u54 :: u55 :: u56 :: u57 :: u58 :: v59 :: v60 :: v61 :: v62 :: v63 :: v64 :: v65 :: v66 :: v67 :: v68 :: v69 :: v70 :: v71 :: v72 :: v73 :: v74 :: u75 :: u76 :: u77 :: u78 :: u79 :: u80 :: u81 :: u82 :: u83 :: u84 :: u85 :: u86 :: u87 :: u88 :: u89 :: u90 :: u91 :: []).toArray, []⟩ (w2.setCell ⟨g, q + 3, none⟩ v2)) :
    Code.wp Try.prog rl_keyC Q ⟨(u0 :: .slice (some ⟨b, o, none⟩) n c :: u2 :: u3 :: u4 :: u5 :: .int .i64 i :: u7 :: u8 :: .pointer (some ⟨g, q, none⟩) :: u10 :: u11 :: u12 :: u13 :: u14 :: u15 :: u16 :: u17 :: u18 :: u19 :: u20 :: u21 :: u22 :: u23 :: u24 :: u25 :: u26 :: u27 :: u28 :: u29 :: u30 :: u31 :: u32 :: u33 :: u34 :: u35 :: u36 :: u37 :: u38 :: u39 :: u40 :: u41 :: u42 :: u43 :: u44 :: u45 :: u46 :: u47 :: u48 :: u49 :: u50 :: u51 :: u52 :: u53 :: u54 :: u55 :: u56 :: u57 :: u58 :: u59 :: u60 :: u61 :: u62 :: u63 :: u64 :: u65 :: u66 :: u67 :: u68 :: u69 :: u70 :: u71 :: u72 :: u73 :: u74 :: u75 :: u76 :: u77 :: u78 :: u79 :: u80 :: u81 :: u82 :: u83 :: u84 :: u85 :: u86 :: u87 :: u88 :: u89 :: u90 :: u91 :: []).toArray, []⟩ w := by
  obtain ⟨i0, hi0, iz0, iz1, iz2⟩ := info_parts bytes_info
  have HEX := Lib.hid hexit
  have HO := Lib.hid hown
  have HC := Lib.hid cf
  have hgw : g < w.heap.size := cell_lt c2
  clear hexit hown cf
  conv => arg 2; whnf
  refine wp_region_U (fun w' => w'.cell? ⟨b, o + i * 2, none⟩ = some (.slice Ah nh ch) ∧ w'.cell? ⟨g, q + 3, none⟩ = some kv) 16 (by kernel_rfl) ?_
  have S0 : w.drew.cell? ⟨b, o + i * 2, none⟩ = some (.slice Ah nh ch) ∧ w.drew.cell? ⟨g, q + 3, none⟩ = some kv := ⟨c1, c2⟩
  refine wpU_free (i := 0) (v := ?_) rfl (by kernel_rfl) (by kernel_rfl) (by kernel_rfl) (by kernel_rfl) (by first | exact fun _ _ _ h => h | exact fun c a w h => HQP.out c _ a w h) (fun _ => S0) (Or.inl ⟨by rfl, ?_⟩) ?_
  rotate_left
  · intro w hSw
    go_simp
    try with_reducible rfl
  try simp only [Act.put, List.setIfInBounds_toArray, List.set_cons_zero, List.set_cons_succ]
  refine wpU_free (i := 1) (v := ?_) rfl (by kernel_rfl) (by kernel_rfl) (by kernel_rfl) (by kernel_rfl) (by first | exact fun _ _ _ h => h | exact fun c a w h => HQP.out c _ a w h) (fun _ => S0) (Or.inl ⟨by rfl, ?_⟩) ?_
  rotate_left
  · intro w hSw
    go_simp
    try with_reducible rfl
  try simp only [Act.put, List.setIfInBounds_toArray, List.set_cons_zero, List.set_cons_succ]
  refine wpU_free (i := 2) (v := ?_) rfl (by kernel_rfl) (by kernel_rfl) (by kernel_rfl) (by kernel_rfl) (by first | exact fun _ _ _ h => h | exact fun c a w h => HQP.out c _ a w h) (fun _ => S0) (Or.inl ⟨by rfl, ?_⟩) ?_
  rotate_left
  · intro w hSw
    go_simp
    try with_reducible rfl
  try simp only [Act.put, List.setIfInBounds_toArray, List.set_cons_zero, List.set_cons_succ]
  refine wpU_free (i := 3) (v := ?_) rfl (by kernel_rfl) (by kernel_rfl) (by kernel_rfl) (by kernel_rfl) (by first | exact fun _ _ _ h => h | exact fun c a w h => HQP.out c _ a w h) (fun _ => S0) (Or.inl ⟨by rfl, ?_⟩) ?_
  rotate_left
  · intro w hSw
    go_simp
    try with_reducible rfl
  try simp only [Act.put, List.setIfInBounds_toArray, List.set_cons_zero, List.set_cons_succ]
  refine wpU_free (i := 4) (v := ?_) rfl (by kernel_rfl) (by kernel_rfl) (by kernel_rfl) (by kernel_rfl) (by first | exact fun _ _ _ h => h | exact fun c a w h => HQP.out c _ a w h) (fun _ => S0) (Or.inl ⟨by rfl, ?_⟩) ?_
  rotate_left
  · intro w hSw
    go_simp
    try with_reducible rfl
  try simp only [Act.put, List.setIfInBounds_toArray, List.set_cons_zero, List.set_cons_succ]
  refine wpU_free (i := 6) (v := ?_) rfl (by kernel_rfl) (by kernel_rfl) (by kernel_rfl) (by kernel_rfl) (by first | exact fun _ _ _ h => h | exact fun c a w h => HQP.out c _ a w h) (fun _ => S0) (Or.inl ⟨by rfl, ?_⟩) ?_
  rotate_left
  · intro w hSw
    go_simp
    try with_reducible rfl
  try simp only [Act.put, List.setIfInBounds_toArray, List.set_cons_zero, List.set_cons_succ]
  refine wpU_free (i := 7) (v := ?_) rfl (by kernel_rfl) (by kernel_rfl) (by kernel_rfl) (by kernel_rfl) (by first | exact fun _ _ _ h => h | exact fun c a w h => HQP.out c _ a w h) (fun _ => S0) (Or.inl ⟨by rfl, ?_⟩) ?_
  rotate_left
  · intro w hSw
    go_simp
    try with_reducible rfl
  try simp only [Act.put, List.setIfInBounds_toArray, List.set_cons_zero, List.set_cons_succ]
  refine wpU_free (i := 8) (v := ?_) rfl (by kernel_rfl) (by kernel_rfl) (by kernel_rfl) (by kernel_rfl) (by first | exact fun _ _ _ h => h | exact fun c a w h => HQP.out c _ a w h) (fun _ => S0) (Or.inl ⟨by rfl, ?_⟩) ?_
  rotate_left
  · intro w hSw
    go_simp
    try with_reducible rfl
  try simp only [Act.put, List.setIfInBounds_toArray, List.set_cons_zero, List.set_cons_succ]
  refine wpU_free (i := 9) (v := ?_) rfl (by kernel_rfl) (by kernel_rfl) (by kernel_rfl) (by kernel_rfl) (by first | exact fun _ _ _ h => h | exact fun c a w h => HQP.out c _ a w h) (fun _ => S0) (Or.inl ⟨by rfl, ?_⟩) ?_
  rotate_left
  · intro w hSw
    go_simp
    try with_reducible rfl
  try simp only [Act.put, List.setIfInBounds_toArray, List.set_cons_zero, List.set_cons_succ]
  refine wpU_take (i := 5) (v := ?_) rfl (by kernel_rfl) (by kernel_rfl) (by kernel_rfl) (by kernel_rfl) (by first | exact fun _ _ _ h => h | exact fun c a w h => HQP.out c _ a w h) S0 (Or.inl ⟨by rfl, ?_⟩) ?_
  rotate_left
  · intro w hSw
    obtain ⟨s0, s1⟩ := hSw
    go_simp
    try with_reducible rfl
  try simp only [Act.put, List.setIfInBounds_toArray, List.set_cons_zero, List.set_cons_succ]
  refine wpU_take (i := 10) (v := ?_) rfl (by kernel_rfl) (by kernel_rfl) (by kernel_rfl) (by kernel_rfl) (by first | exact fun _ _ _ h => h | exact fun c a w h => HQP.out c _ a w h) S0 (Or.inl ⟨by rfl, ?_⟩) ?_
  rotate_left
  · intro w hSw
    obtain ⟨s0, s1⟩ := hSw
    go_simp
    try with_reducible rfl
  try simp only [Act.put, List.setIfInBounds_toArray, List.set_cons_zero, List.set_cons_succ]
  refine wpU_one (i := 11) (by kernel_rfl) rfl (fun K hK => ?_)
  go_simp
  have hb2 : Below w.drew.heap.size w.drew (w.drew.alloc (.cells #[.slice Ah nh ch] 41)) := (Below.refl _ _).alloc (Nat.le_refl _) _; have S2 : (w.drew.alloc (.cells #[.slice Ah nh ch] 41)).cell? ⟨b, o + i * 2, none⟩ = some (.slice Ah nh ch) ∧ (w.drew.alloc (.cells #[.slice Ah nh ch] 41)).cell? ⟨g, q + 3, none⟩ = some kv := ⟨bkeep hb2 S0.1, bkeep hb2 S0.2⟩
  refine hK.out _ _ (fun _ => S2) ?_
  clear hK K
  try simp only [Act.put, List.setIfInBounds_toArray, List.set_cons_zero, List.set_cons_succ]
  refine wpU_one (i := 12) (by kernel_rfl) rfl (fun K hK => ?_)
  refine step_append_any _ rfl (.tmp 64) (.tmp 70) _ rfl base 41 i0 _ 1 24 Try.underlying89 hi0 iz0 iz1 iz2 rfl (by omega) kv m kus rfl (own_below HO.out ((Below.refl _ _).drew.alloc (Nat.le_refl _) _)) (From w.heap.size) (some ⟨w.heap.size, 0, none⟩) 1 1 [.slice Ah nh ch] rfl (Rd.one w.drew _ _) (by intro u hu; simp at hu; subst hu; rfl) (by simp only [maxLen]; omega) (by omega) (by simp; omega) ?_; intro v2 w2 hown2 hg2 hat2; obtain ⟨K2, kc2, hv2, _, _⟩ := own_val hown2; subst hv2; have HO2 := Lib.hid hown2; have HG2 := Lib.hid hg2; have HA2 := Lib.hid hat2; have hqf : w2.cell? ⟨g, q + 3, none⟩ = some kv := (Chg.of_grown hg2).cell hgk S2.2; have hf2 : ∀ o, w2.frozen? ⟨g, o, none⟩ = false := SoftAt.chg (w := w) HC.out (((Chg.refl (fun b => kv.ownBlock = some b) w).then ((Below.refl _ _).drew.alloc (Nat.le_refl _) _)).trans (Chg.of_grown hg2) (fun _ _ h => h)) hgw hgk; have S3 : w2.cell? ⟨b, o + i * 2, none⟩ = some (.slice Ah nh ch) ∧ w2.cell? ⟨g, q + 3, none⟩ = some kv := ⟨(Chg.of_grown hg2).cell (fun e => by have := (own_lt HO.out _ e).1; omega) S2.1, hqf⟩; clear hown2 hg2 hat2
  refine hK.out _ _ (fun _ => S3) ?_
  clear hK K
  try simp only [Act.put, List.setIfInBounds_toArray, List.set_cons_zero, List.set_cons_succ]
  refine wpU_free (i := 13) (v := ?_) rfl (by kernel_rfl) (by kernel_rfl) (by kernel_rfl) (by kernel_rfl) (by first | exact fun _ _ _ h => h | exact fun c a w h => HQP.out c _ a w h) (fun _ => S3) (Or.inl ⟨by rfl, ?_⟩) ?_
  rotate_left
  · intro w hSw
    go_simp
    try with_reducible rfl
  try simp only [Act.put, List.setIfInBounds_toArray, List.set_cons_zero, List.set_cons_succ]
  refine wpU_free (i := 14) (v := ?_) rfl (by kernel_rfl) (by kernel_rfl) (by kernel_rfl) (by kernel_rfl) (by first | exact fun _ _ _ h => h | exact fun c a w h => HQP.out c _ a w h) (fun _ => S3) (Or.inl ⟨by rfl, ?_⟩) ?_
  rotate_left
  · intro w hSw
    go_simp
    try with_reducible rfl
  try simp only [Act.put, List.setIfInBounds_toArray, List.set_cons_zero, List.set_cons_succ]
  refine wpU_free (i := 15) (v := ?_) rfl (by kernel_rfl) (by kernel_rfl) (by kernel_rfl) (by kernel_rfl) (by first | exact fun _ _ _ h => h | exact fun c a w h => HQP.out c _ a w h) (fun _ => S3) (Or.inl ⟨by rfl, ?_⟩) ?_
  rotate_left
  · intro w hSw
    go_simp
    try with_reducible rfl
  try simp only [Act.put, List.setIfInBounds_toArray, List.set_cons_zero, List.set_cons_succ]
  refine wpU_one (i := 16) (by kernel_rfl) rfl (fun K hK => ?_)
  go_simp
  refine hK.out _ _ (fun h => absurd h (by decide)) ?_
  clear hK K
  try simp only [Act.put, List.setIfInBounds_toArray, List.set_cons_zero, List.set_cons_succ]
  refine wpU_done (by kernel_rfl) ?_ _
  exact HEX.out _ _ _ _ _ _ _ _ _ _ _ _ _ _ _ _ _ _ w2 ((Below.refl _ _).drew.alloc (Nat.le_refl _) _) HO2.out HG2.out HA2.out
noncomputable def rl_valC : Code := codeOr (Try.f43.body.bind (regionAt 11))
set_option maxRecDepth 100000 in
set_option maxHeartbeats 4000000 in
theorem rl_val (b o n c i g q : Nat) (base : Nat) (kv : Value) (m : Nat) (kus : List Value) (Ah : Option Addr) (nh ch : Nat) (w : World) {u0 u2 u3 u4 u5 u7 u8 u10 u11 u12 u13 u14 u15 u16 u17 u18 u19 u20 u21 u22 u23 u24 u25 u26 u27 u28 u29 u30 u31 u32 u33 u34 u35 u36 u37 u38 u39 u40 u41 u42 u43 u44 u45 u46 u47 u48 u49 u50 u51 u52 u53 u54 u55 u56 u57 u58 u59 u60 u61 u62 u63 u64 u65 u66 u67 u68 u69 u70 u71 u72 u73 u74 u75 u76 u77 u78 u79 u80 u81 u82 u83 u84 u85 u86 u87 u88 u89 u90 u91 : Value} (Q : Exit → Act → World → Prop) (HQP : Hid (∀ c t (a : Act) w, Q (.panic c) ⟨t, a.defers⟩ w → Q (.panic c) a w))
    (hin : i < n) (hn : n ≤ 1152921504606) (hm : m ≤ 1152921504606) (hbase : base ≤ w.heap.size) (hbb : b < base)
    (c1 : w.cell? ⟨b, o + i * 2 + 1, none⟩ = some (.slice Ah nh ch)) (c2 : w.cell? ⟨g, q + 4, none⟩ = some kv) (cf : ∀ o, w.frozen? ⟨g, o, none⟩ = false) (hown : w.ownsRow base 41 1 kv m kus) (hgk : kv.ownBlock ≠ some g)
    (hexit : ∀ (v75 v76 v77 v78 v79 v80 v81 v82 v83 v84 v85 v86 v87 v88 v89 v90 : Value) (v2 : Value) (wa w2 : World), Below w.heap.size w wa → w2.ownsRow base 41 1 v2 (m + 1) (kus ++ [.slice Ah nh ch]) → wa.grownBy w2 kv.ownBlock → (v2.ownBlock = kv.ownBlock ∨ v2.ownBlock = some wa.heap.size) → Q .normal ⟨(u0 :: .slice (some ⟨b, o, none⟩) n c :: u2 :: u3 :: u4 :: u5 :: .int .i64 i :: u7 :: u8 :: .pointer (some ⟨g, q, none⟩) :: u10 :: u11 :: u12 :: u13 :: u14 :: u15 :: u16 :: u17 :: u18 :: u19 :: u20 :: u21 :: u22 :: u23 :: u24 :: u25 :: u26 :: u27 :: u28 :: u29 :: u30 :: u31 :: u32 :: u33 :: u34 :: u35 :: u36 :: u37 :: u38 :: u39 :: u40 :: u41 :: u42 :: u43 :: u44 :: u45 :: u46 :: u47 :: u48 :: u49 :: u50 :: u51 :: u52 :: u53 :: u54 :: u55 :: u56 :: u57 :: u58 :: u59 :: u60 :: u61 :: u62 :: u63 :: u64 :: u65 :: u66 :: u67 :: u68 :: u69 :: u70 :: u71 :: u72 :: u73 :: u74 :: v75 :: v76 :: v77 :: v78 :: v79 :: v80 :: v81 :: v82 :: v83 :: v84 :: v85 :: v86 :: v87 :: v88 :: v89 :: v90 :: u91 :: []).toArray, []⟩ (w2.setCell ⟨g, q + 4, none⟩ v2)) :
    Code.wp Try.prog rl_valC Q ⟨(u0 :: .slice (some ⟨b, o, none⟩) n c :: u2 :: u3 :: u4 :: u5 :: .int .i64 i :: u7 :: u8 :: .pointer (some ⟨g, q, none⟩) :: u10 :: u11 :: u12 :: u13 :: u14 :: u15 :: u16 :: u17 :: u18 :: u19 :: u20 :: u21 :: u22 :: u23 :: u24 :: u25 :: u26 :: u27 :: u28 :: u29 :: u30 :: u31 :: u32 :: u33 :: u34 :: u35 :: u36 :: u37 :: u38 :: u39 :: u40 :: u41 :: u42 :: u43 :: u44 :: u45 :: u46 :: u47 :: u48 :: u49 :: u50 :: u51 :: u52 :: u53 :: u54 :: u55 :: u56 :: u57 :: u58 :: u59 :: u60 :: u61 :: u62 :: u63 :: u64 :: u65 :: u66 :: u67 :: u68 :: u69 :: u70 :: u71 :: u72 :: u73 :: u74 :: u75 :: u76 :: u77 :: u78 :: u79 :: u80 :: u81 :: u82 :: u83 :: u84 :: u85 :: u86 :: u87 :: u88 :: u89 :: u90 :: u91 :: []).toArray, []⟩ w := by
  obtain ⟨i0, hi0, iz0, iz1, iz2⟩ := info_parts bytes_info
  have HEX := Lib.hid hexit
  have HO := Lib.hid hown
  have HC := Lib.hid cf
  have hgw : g < w.heap.size := cell_lt c2
  clear hexit hown cf
  conv => arg 2; whnf
  refine wp_region_U (fun w' => w'.cell? ⟨b, o + i * 2 + 1, none⟩ = some (.slice Ah nh ch) ∧ w'.cell? ⟨g, q + 4, none⟩ = some kv) 16 (by kernel_rfl) ?_
  have S0 : w.drew.cell? ⟨b, o + i * 2 + 1, none⟩ = some (.slice Ah nh ch) ∧ w.drew.cell? ⟨g, q + 4, none⟩ = some kv := ⟨c1, c2⟩
  refine wpU_free (i := 0) (v := ?_) rfl (by kernel_rfl) (by kernel_rfl) (by kernel_rfl) (by kernel_rfl) (by first | exact fun _ _ _ h => h | exact fun c a w h => HQP.out c _ a w h) (fun _ => S0) (Or.inl ⟨by rfl, ?_⟩) ?_
  rotate_left
  · intro w hSw
    go_simp
    try with_reducible rfl
  try simp only [Act.put, List.setIfInBounds_toArray, List.set_cons_zero, List.set_cons_succ]
  refine wpU_free (i := 1) (v := ?_) rfl (by kernel_rfl) (by kernel_rfl) (by kernel_rfl) (by kernel_rfl) (by first | exact fun _ _ _ h => h | exact fun c a w h => HQP.out c _ a w h) (fun _ => S0) (Or.inl ⟨by rfl, ?_⟩) ?_
  rotate_left
  · intro w hSw
    go_simp
    try with_reducible rfl
  try simp only [Act.put, List.setIfInBounds_toArray, List.set_cons_zero, List.set_cons_succ]
  refine wpU_free (i := 2) (v := ?_) rfl (by kernel_rfl) (by kernel_rfl) (by kernel_rfl) (by kernel_rfl) (by first | exact fun _ _ _ h => h | exact fun c a w h => HQP.out c _ a w h) (fun _ => S0) (Or.inl ⟨by rfl, ?_⟩) ?_
  rotate_left
  · intro w hSw
    go_simp
    try with_reducible rfl
  try simp only [Act.put, List.setIfInBounds_toArray, List.set_cons_zero, List.set_cons_succ]
  refine wpU_free (i := 3) (v := ?_) rfl (by kernel_rfl) (by kernel_rfl) (by kernel_rfl) (by kernel_rfl) (by first | exact fun _ _ _ h => h | exact fun c a w h => HQP.out c _ a w h) (fun _ => S0) (Or.inl ⟨by rfl, ?_⟩) ?_
  rotate_left
  · intro w hSw
    go_simp
    try with_reducible rfl
  try simp only [Act.put, List.setIfInBounds_toArray, List.set_cons_zero, List.set_cons_succ]
  refine wpU_free (i := 4) (v := ?_) rfl (by kernel_rfl) (by kernel_rfl) (by kernel_rfl) (by kernel_rfl) (by first | exact fun _ _ _ h => h | exact fun c a w h => HQP.out c _ a w h) (fun _ => S0) (Or.inl ⟨by rfl, ?_⟩) ?_
  rotate_left
  · intro w hSw
    go_simp
    try with_reducible rfl
  try simp only [Act.put, List.setIfInBounds_toArray, List.set_cons_zero, List.set_cons_succ]
  refine wpU_free (i := 6) (v := ?_) rfl (by kernel_rfl) (by kernel_rfl) (by kernel_rfl) (by kernel_rfl) (by first | exact fun _ _ _ h => h | exact fun c a w h => HQP.out c _ a w h) (fun _ => S0) (Or.inl ⟨by rfl, ?_⟩) ?_
  rotate_left
  · intro w hSw
    go_simp
    try with_reducible rfl
  try simp only [Act.put, List.setIfInBounds_toArray, List.set_cons_zero, List.set_cons_succ]
  refine wpU_free (i := 7) (v := ?_) rfl (by kernel_rfl) (by kernel_rfl) (by kernel_rfl) (by kernel_rfl) (by first | exact fun _ _ _ h => h | exact fun c a w h => HQP.out c _ a w h) (fun _ => S0) (Or.inl ⟨by rfl, ?_⟩) ?_
  rotate_left
  · intro w hSw
    go_simp
    try with_reducible rfl
  try simp only [Act.put, List.setIfInBounds_toArray, List.set_cons_zero, List.set_cons_succ]
  refine wpU_free (i := 8) (v := ?_) rfl (by kernel_rfl) (by kernel_rfl) (by kernel_rfl) (by kernel_rfl) (by first | exact fun _ _ _ h => h | exact fun c a w h => HQP.out c _ a w h) (fun _ => S0) (Or.inl ⟨by rfl, ?_⟩) ?_
  rotate_left
  · intro w hSw
    go_simp
    try with_reducible rfl
  try simp only [Act.put, List.setIfInBounds_toArray, List.set_cons_zero, List.set_cons_succ]
  refine wpU_free (i := 9) (v := ?_) rfl (by kernel_rfl) (by kernel_rfl) (by kernel_rfl) (by kernel_rfl) (by first | exact fun _ _ _ h => h | exact fun c a w h => HQP.out c _ a w h) (fun _ => S0) (Or.inl ⟨by rfl, ?_⟩) ?_
  rotate_left
  · intro w hSw
    go_simp
    try with_reducible rfl
  try simp only [Act.put, List.setIfInBounds_toArray, List.set_cons_zero, List.set_cons_succ]
  refine wpU_take (i := 5) (v := ?_) rfl (by kernel_rfl) (by kernel_rfl) (by kernel_rfl) (by kernel_rfl) (by first | exact fun _ _ _ h => h | exact fun c a w h => HQP.out c _ a w h) S0 (Or.inl ⟨by rfl, ?_⟩) ?_
  rotate_left
  · intro w hSw
    obtain ⟨s0, s1⟩ := hSw
    go_simp
    try with_reducible rfl
  try simp only [Act.put, List.setIfInBounds_toArray, List.set_cons_zero, List.set_cons_succ]
  refine wpU_take (i := 10) (v := ?_) rfl (by kernel_rfl) (by kernel_rfl) (by kernel_rfl) (by kernel_rfl) (by first | exact fun _ _ _ h => h | exact fun c a w h => HQP.out c _ a w h) S0 (Or.inl ⟨by rfl, ?_⟩) ?_
  rotate_left
  · intro w hSw
    obtain ⟨s0, s1⟩ := hSw
    go_simp
    try with_reducible rfl
  try simp only [Act.put, List.setIfInBounds_toArray, List.set_cons_zero, List.set_cons_succ]
  refine wpU_one (i := 11) (by kernel_rfl) rfl (fun K hK => ?_)
  go_simp
  have hb2 : Below w.drew.heap.size w.drew (w.drew.alloc (.cells #[.slice Ah nh ch] 41)) := (Below.refl _ _).alloc (Nat.le_refl _) _; have S2 : (w.drew.alloc (.cells #[.slice Ah nh ch] 41)).cell? ⟨b, o + i * 2 + 1, none⟩ = some (.slice Ah nh ch) ∧ (w.drew.alloc (.cells #[.slice Ah nh ch] 41)).cell? ⟨g, q + 4, none⟩ = some kv := ⟨bkeep hb2 S0.1, bkeep hb2 S0.2⟩
  refine hK.out _ _ (fun _ => S2) ?_
  clear hK K
  try simp only [Act.put, List.setIfInBounds_toArray, List.set_cons_zero, List.set_cons_succ]
  refine wpU_one (i := 12) (by kernel_rfl) rfl (fun K hK => ?_)
  refine step_append_any _ rfl (.tmp 80) (.tmp 86) _ rfl base 41 i0 _ 1 24 Try.underlying89 hi0 iz0 iz1 iz2 rfl (by omega) kv m kus rfl (own_below HO.out ((Below.refl _ _).drew.alloc (Nat.le_refl _) _)) (From w.heap.size) (some ⟨w.heap.size, 0, none⟩) 1 1 [.slice Ah nh ch] rfl (Rd.one w.drew _ _) (by intro u hu; simp at hu; subst hu; rfl) (by simp only [maxLen]; omega) (by omega) (by simp; omega) ?_; intro v2 w2 hown2 hg2 hat2; obtain ⟨K2, kc2, hv2, _, _⟩ := own_val hown2; subst hv2; have HO2 := Lib.hid hown2; have HG2 := Lib.hid hg2; have HA2 := Lib.hid hat2; have hqf : w2.cell? ⟨g, q + 4, none⟩ = some kv := (Chg.of_grown hg2).cell hgk S2.2; have hf2 : ∀ o, w2.frozen? ⟨g, o, none⟩ = false := SoftAt.chg (w := w) HC.out (((Chg.refl (fun b => kv.ownBlock = some b) w).then ((Below.refl _ _).drew.alloc (Nat.le_refl _) _)).trans (Chg.of_grown hg2) (fun _ _ h => h)) hgw hgk; have S3 : w2.cell? ⟨b, o + i * 2 + 1, none⟩ = some (.slice Ah nh ch) ∧ w2.cell? ⟨g, q + 4, none⟩ = some kv := ⟨(Chg.of_grown hg2).cell (fun e => by have := (own_lt HO.out _ e).1; omega) S2.1, hqf⟩; clear hown2 hg2 hat2
  refine hK.out _ _ (fun _ => S3) ?_
  clear hK K
  try simp only [Act.put, List.setIfInBounds_toArray, List.set_cons_zero, List.set_cons_succ]
  refine wpU_free (i := 13) (v := ?_) rfl (by kernel_rfl) (by kernel_rfl) (by kernel_rfl) (by kernel_rfl) (by first | exact fun _ _ _ h => h | exact fun c a w h => HQP.out c _ a w h) (fun _ => S3) (Or.inl ⟨by rfl, ?_⟩) ?_
  rotate_left
  · intro w hSw
    go_simp
    try with_reducible rfl
  try simp only [Act.put, List.setIfInBounds_toArray, List.set_cons_zero, List.set_cons_succ]
  refine wpU_free (i := 14) (v := ?_) rfl (by kernel_rfl) (by kernel_rfl) (by kernel_rfl) (by kernel_rfl) (by first | exact fun _ _ _ h => h | exact fun c a w h => HQP.out c _ a w h) (fun _ => S3) (Or.inl ⟨by rfl, ?_⟩) ?_
  rotate_left
  · intro w hSw
    go_simp
    try with_reducible rfl
  try simp only [Act.put, List.setIfInBounds_toArray, List.set_cons_zero, List.set_cons_succ]
  refine wpU_free (i := 15) (v := ?_) rfl (by kernel_rfl) (by kernel_rfl) (by kernel_rfl) (by kernel_rfl) (by first | exact fun _ _ _ h => h | exact fun c a w h => HQP.out c _ a w h) (fun _ => S3) (Or.inl ⟨by rfl, ?_⟩) ?_
  rotate_left
  · intro w hSw
    go_simp
    try with_reducible rfl
  try simp only [Act.put, List.setIfInBounds_toArray, List.set_cons_zero, List.set_cons_succ]
  refine wpU_one (i := 16) (by kernel_rfl) rfl (fun K hK => ?_)
  go_simp
  refine hK.out _ _ (fun h => absurd h (by decide)) ?_
  clear hK K
  try simp only [Act.put, List.setIfInBounds_toArray, List.set_cons_zero, List.set_cons_succ]
  refine wpU_done (by kernel_rfl) ?_ _
  exact HEX.out _ _ _ _ _ _ _ _ _ _ _ _ _ _ _ _ _ _ w2 ((Below.refl _ _).drew.alloc (Nat.le_refl _) _) HO2.out HG2.out HA2.out
end Go.Proofs.Ytgjphmlmndcaeaa
