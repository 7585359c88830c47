/- WALKS: two arenas that hold the same are found the same. WALKS: the statement PackBuilds, whatever the entries (short enough). The packed tree meets all that its walks ask. WALKS: entries that are alike are found alike (coppiceref09.SameEntries). -/
import Derived.Test.YtgjphmlmndcaeaaPs21
import Derived.Test.YtgjphmlmndcaeaaPs20
import Derived.Test.YtgjphmlmndcaeaaPs17
import Derived.Test.YtgjphmlmndcaeaaPs07
set_option linter.unusedVariables false
set_option linter.unusedSimpArgs false
namespace Go.Proofs.Ytgjphmlmndcaeaa
open Go.RowKit

theorem ArX.drewN {F : Nat → Prop} {w : World} {p : Nat} {nodes root : Int} {sl : List Slt} (h : ArX w F p nodes sl root) (k : Nat) : ArX (w.drewN k) F p nodes sl root := h.chg (S := Nil) (Chg.of_below (below_drewN (Below.refl _ _) k)) (fun _ _ hf => hf)
theorem ArR.drewN {F : Nat → Prop} {w : World} {p : Nat} {nodes root : Int} {sl : List Slt} (h : ArR w F p nodes sl root) (k : Nat) : ArR (w.drewN k) F p nodes sl root := h.chg (S := Nil) (Chg.of_below (below_drewN (Below.refl _ _) k)) (fun _ _ hf => hf)
theorem quiet_ex {P : Program} {f : Nat} {args : Array Value} {w : World} {v : Value} (h : Calls P f args w fun e w' => e = .returned v ∧ ∃ q, w' = w.drewN q) : Calls P f args w fun e w' => e = .returned v ∧ ∃ m, w' = w.drewN m := h

set_option maxRecDepth 100000 in
theorem same_alike (F G : Nat → Prop) (q p r : Nat) (nodes root : Int) (sl : List Slt) (w : World) (hq : Blk w q 75 #[.pointer (some ⟨p, 0, none⟩), .pointer (some ⟨r, 0, none⟩)]) (hx : ArX w F p nodes sl root) (hy : ArR w G r nodes sl root)
    (hn : sl.length ≤ 65536) (hn0 : 0 ≤ nodes) (hn1 : nodes ≤ 65536) (hsm : ∀ s ∈ sl, Small s.2) (hev : ∀ s ∈ sl, 0 ≤ s.1 ∧ s.1 ≤ 4611686018427387904 ∧ s.1 % 2 = 0) :
    Calls Try.prog 32 #[.pointer (some ⟨q, 0, none⟩)] w fun e w' => e = .returned (.bool true) ∧ Below w.heap.size w w' := by
  have HX := Lib.hid hx
  have HY := Lib.hid hy
  have HQ := Lib.hid hq
  have HM := Lib.hid hsm
  have HE : Hid (heldTo sl sl.length = []) := Lib.hid (heldTo_even (fun s hs => (hev s hs).2.2) _)
  have HV := Lib.hid (fun s hs => ⟨(hev s hs).1, (hev s hs).2.1⟩ : ∀ s ∈ sl, 0 ≤ s.1 ∧ s.1 ≤ 4611686018427387904)
  have c0 : w.cell? ⟨q, 0, none⟩ = some (.pointer (some ⟨p, 0, none⟩)) := by rw [hq.cell]; rfl
  have c1 : w.cell? ⟨q, 1, none⟩ = some (.pointer (some ⟨r, 0, none⟩)) := by rw [hq.cell]; rfl
  clear hx hy hq hsm hev
  go_enter Try.func32, Try.ntmps32
  go_wp2_with (first | (go_at_call 54; refine (rused_any G r nodes root sl _ HY.out).mono ?_; rintro e w' ⟨rfl, rfl⟩) | (go_at_call 29; refine (held_any F p nodes root sl _ HX.out hn HV.out).mono ?_; rw [HE.out]; rintro e w1 ⟨A1, n1, d1, rfl, r1, _, hb1⟩; obtain rfl : n1 = 0 := r1.len; have y0 := bkeep hb1 c0; have y1 := bkeep hb1 c1) | (go_at_call 55; refine (rheld_any G r nodes root sl _ (HY.out.below hb1) hn HV.out).mono ?_; rw [HE.out]; rintro e w2 ⟨A2, n2, d2, rfl, r2, _, hb2⟩; obtain rfl : n2 = 0 := r2.len; have hb12 := hb1.trans (hb2.mono hb1.size); have z0 := bkeep hb12 c0; have z1 := bkeep hb12 c1))
  have HX2 := Lib.hid (HX.out.below hb12)
  have HY2 := Lib.hid (HY.out.below hb12)
  clear r1 r2
  go_quiet (first | (go_at_call 28; exact quiet_left (used_any F p nodes root sl _ (HX2.out.drewN _))) | (go_at_call 56; exact Calls.quiet_of (left_any F p nodes root sl _ (HX2.out.drewN _) hn hn0 hn1)) | (go_at_call 57; exact Calls.quiet_of (rleft_any G r nodes root sl _ (HY2.out.drewN _) hn hn0 hn1)) | (go_at_call 48; exact quiet_left (root_any F p nodes root sl _ (HX2.out.drewN _))) | (go_at_call 58; exact quiet_left (rroot_any G r nodes root sl _ (HY2.out.drewN _))))
  go_wp2
  go_loopg [6] 0 (fun g i wr => g = 0 ∧ i = .int .i64 0 ∧ Below w2.heap.size w2 wr)
  case atStart => exact ⟨rfl, rfl, below_drewN (Below.refl _ _) _⟩
  case round =>
    obtain ⟨hg, rfl, hbl⟩ := hrel
    have HB := Lib.hid (hb12.trans (hbl.mono hb12.size))
    clear hg hbl hb1 hb2 hb12 y0 y1 z0 z1 HX2 HY2
    have e1 := IntWalk.i64_in ((sl.length : Int) + 1) (by omega)
    go_wp2
    go_loopg [7] (sl.length + 2) (fun g i wz => ∃ k : Nat, g = sl.length + 2 - k ∧ k ≤ sl.length + 2 ∧ i = .int .i64 k ∧ Below w.heap.size w wz)
    case atStart => exact ⟨0, by omega, by omega, rfl, HB.out⟩
    case round =>
      obtain ⟨k, hg, hk, rfl, hbl⟩ := hrel
      have HG := Lib.hid hg
      clear hg
      by_cases hlt : (k : Int) ≤ sl.length + 1
      · go_wp2_with (go_at_call 59; refine (node_alike F G q p r nodes root sl k _ (HQ.out.below hbl) (HX.out.below hbl) (HY.out.below hbl) hn HM.out).mono ?_; rintro e w3 ⟨rfl, hb3⟩)
        go_roundg (sl.length + 2 - (k + 1))
        case measure => have := HG.out; omega
        case rel => exact ⟨k + 1, rfl, by omega, by go_num, hbl.trans (hb3.mono hbl.size)⟩
      · go_wp2
        go_ret
        exact ⟨rfl, hbl⟩

theorem both_nil (w : World) : Calls Try.prog 12 #[.pointer none, .pointer none] w fun e w' => e = .returned (.bool true) ∧ w = w' := by
  go_enter Try.func12, Try.ntmps12
  go_wp2
  go_ret
  exact ⟨rfl, rfl⟩
theorem both_alike (F G : Nat → Prop) (p r : Nat) (nodes root : Int) (sl : List Slt) (w : World) (hx : ArX w F p nodes sl root) (hy : ArR w G r nodes sl root)
    (hn : sl.length ≤ 65536) (hn0 : 0 ≤ nodes) (hn1 : nodes ≤ 65536) (hsm : ∀ s ∈ sl, Small s.2) (hev : ∀ s ∈ sl, 0 ≤ s.1 ∧ s.1 ≤ 4611686018427387904 ∧ s.1 % 2 = 0) :
    Calls Try.prog 12 #[.pointer (some ⟨p, 0, none⟩), .pointer (some ⟨r, 0, none⟩)] w fun e w' => e = .returned (.bool true) ∧ Below w.heap.size w w' := by
  have b1 : Below w.heap.size w (w.alloc (.cells #[.pointer (some ⟨p, 0, none⟩), .pointer (some ⟨r, 0, none⟩)] 75)) := (Below.refl _ _).alloc (Nat.le_refl _) _
  have HX := Lib.hid (hx.below b1)
  have HY := Lib.hid (hy.below b1)
  have HM := Lib.hid hsm
  have HE := Lib.hid hev
  have hq : Blk (w.alloc (.cells #[.pointer (some ⟨p, 0, none⟩), .pointer (some ⟨r, 0, none⟩)] 75)) w.heap.size 75 #[.pointer (some ⟨p, 0, none⟩), .pointer (some ⟨r, 0, none⟩)] := Blk.new _ _ _
  clear hx hy hsm hev
  go_enter Try.func12, Try.ntmps12
  go_wp2_with (go_at_call 32; refine (same_alike F G w.heap.size p r nodes root sl _ hq HX.out HY.out hn hn0 hn1 HM.out HE.out).mono ?_; rintro e w3 ⟨rfl, hb3⟩)
  go_ret
  exact ⟨rfl, b1.trans (hb3.mono b1.size)⟩
end Go.Proofs.Ytgjphmlmndcaeaa

namespace Go.Proofs.Ytgjphmlmndcaeaa
open Go.RowKit

/-- what a build answers: the error, and the place -/
def buildE (nd lf inn fl bl : Int) (l : List Ent) : Int × Int :=
  if ¬ cfgOk nd lf inn fl bl then (1, 0) else if (sortedOf l).2 ≠ 0 then ((sortedOf l).2, (sortedOf l).1) else ((nodesOf nd lf inn fl bl l.length).2, 0)
/-- the program's build, whatever comes -/
def AnyX (w : World) (nodes : Int) (E : Int × Int) (t : List Slt × Int) (e : Ending) (w' : World) : Prop :=
  ∃ pv, e = .returned (.tuple #[pv, .int .i64 E.1, .int .i64 E.2]) ∧ Below w.heap.size w w' ∧ ((E.1 ≠ 0 ∧ pv = .pointer none) ∨ (E.1 = 0 ∧ ∃ p, pv = .pointer (some ⟨p, 0, none⟩) ∧ ArX w' (From w.heap.size) p nodes t.1 t.2))
def AnyR (w : World) (nodes : Int) (E : Int × Int) (t : List Slt × Int) (e : Ending) (w' : World) : Prop :=
  ∃ pv, e = .returned (.tuple #[pv, .int .i64 E.1, .int .i64 E.2]) ∧ Below w.heap.size w w' ∧ ((E.1 ≠ 0 ∧ pv = .pointer none) ∨ (E.1 = 0 ∧ ∃ p, pv = .pointer (some ⟨p, 0, none⟩) ∧ ArR w' (From w.heap.size) p nodes t.1 t.2))

section
variable (nd lf inn fl bl : Int) (A : Option Addr) (n c : Nat) (F : Nat → Prop) (l : List Ent) (w : World)
theorem pbuild_any (hE : Ents w F A n l) (hnc : n ≤ c) (hcm : c ≤ maxLen) (hn : n ≤ 1152921504606) (hsm : ∀ e ∈ l, e.1.length ≤ 1152921504606 ∧ e.2.length ≤ 1152921504606) :
    Calls Try.prog 20 #[.agg #[.int .i64 nd, .int .i64 lf, .int .i64 inn, .int .i64 fl, .int .i64 bl], .slice A n c] w (AnyX w nd (buildE nd lf inn fl bl l) (treeOf fl.toNat inn.toNat l)) := by
  have hl := hE.len
  by_cases hc : cfgOk nd lf inn fl bl
  · by_cases hs : (sortedOf l).2 = 0
    · have hs' : sortedOf l = (0, 0) := by rw [sorted_ok ((sorted_iff l).1 hs)]
      by_cases hf : (nodesOf nd lf inn fl bl n).2 = 0
      · have e : buildE nd lf inn fl bl l = (0, 0) := by unfold buildE; rw [if_neg (by simpa using hc), if_neg (by simpa using hs), ← hl, hf]
        rw [e]
        obtain ⟨c1, c2, c3, c4, c5, c6, c7, c8, c9, c10⟩ := hc
        obtain ⟨i, rfl⟩ : ∃ i : Nat, inn = i := ⟨inn.toNat, by omega⟩
        obtain ⟨f, rfl⟩ : ∃ f : Nat, fl = f := ⟨fl.toNat, by omega⟩
        refine (pbuild_ok nd lf bl i f A n c F l w hE hnc hcm hn hsm ⟨c1, c2, c3, c4, c5, c6, c7, c8, c9, c10⟩ hs' hf).mono ?_
        rintro e' w' ⟨p, rfl, h1, h2⟩
        exact ⟨_, rfl, h2, .inr ⟨rfl, p, rfl, by simpa using h1⟩⟩
      · have e : buildE nd lf inn fl bl l = ((nodesOf nd lf inn fl bl n).2, 0) := by unfold buildE; rw [if_neg (by simpa using hc), if_neg (by simpa using hs), ← hl]
        rw [e]
        refine (build_full nd lf inn fl bl A n c F l w hE hn hsm hc hs' hf).mono ?_
        rintro e' w' ⟨rfl, h2⟩
        exact ⟨_, rfl, h2, .inl ⟨hf, rfl⟩⟩
    · have e : buildE nd lf inn fl bl l = ((sortedOf l).2, (sortedOf l).1) := by unfold buildE; rw [if_neg (by simpa using hc), if_pos (by simpa using hs)]
      rw [e]
      refine (build_srt nd lf inn fl bl A n c F l w hE hn hsm hc hs).mono ?_
      rintro e' w' ⟨rfl, h2⟩
      exact ⟨_, rfl, h2, .inl ⟨hs, rfl⟩⟩
  · have e : buildE nd lf inn fl bl l = (1, 0) := by unfold buildE; rw [if_pos (by simpa using hc)]
    rw [e]
    refine (build_cfg nd lf inn fl bl A n c w hc).mono ?_
    rintro e' w' ⟨rfl, h2⟩
    exact ⟨_, rfl, h2, .inl ⟨by decide, rfl⟩⟩
theorem rbuild_any (hE : Ents w F A n l) (hnc : n ≤ c) (hcm : c ≤ maxLen) (hn : n ≤ 1152921504606) (hsm : ∀ e ∈ l, e.1.length ≤ 1152921504606 ∧ e.2.length ≤ 1152921504606) :
    Calls Try.prog 21 #[.agg #[.int .i64 nd, .int .i64 lf, .int .i64 inn, .int .i64 fl, .int .i64 bl], .slice A n c] w (AnyR w nd (buildE nd lf inn fl bl l) (treeOf fl.toNat inn.toNat l)) := by
  have hl := hE.len
  by_cases hc : cfgOk nd lf inn fl bl
  · by_cases hs : (sortedOf l).2 = 0
    · have hs' : sortedOf l = (0, 0) := by rw [sorted_ok ((sorted_iff l).1 hs)]
      by_cases hf : (nodesOf nd lf inn fl bl n).2 = 0
      · have e : buildE nd lf inn fl bl l = (0, 0) := by unfold buildE; rw [if_neg (by simpa using hc), if_neg (by simpa using hs), ← hl, hf]
        rw [e]
        have hc0 := hc
        obtain ⟨c1, c2, c3, c4, c5, c6, c7, c8, c9, c10⟩ := hc
        obtain ⟨i, rfl⟩ : ∃ i : Nat, inn = i := ⟨inn.toNat, by omega⟩
        obtain ⟨f, rfl⟩ : ∃ f : Nat, fl = f := ⟨fl.toNat, by omega⟩
        have hf0 := hf
        rw [nodesOf_ok hc0 (by omega)] at hf
        have ht : treeOf f i l = rtreeOf f i l := tree_same (nd := nd) (by omega) (by omega) (by rw [← hl]; exact hf)
        simp only [Int.toNat_natCast]
        rw [ht]
        rcases Nat.eq_zero_or_pos n with h0 | h0
        · subst h0
          have hnil : l = [] := List.eq_nil_of_length_eq_zero hl.symm
          subst hnil
          refine (rbuild_nil nd lf bl i f A c F w hE hc0 hf0).mono ?_
          rintro e' w' ⟨p, rfl, h1, h2⟩
          exact ⟨_, rfl, h2, .inr ⟨rfl, p, rfl, by simpa [rtreeOf] using h1⟩⟩
        · refine (rbuild_cons nd lf bl i f A n c F l w hE hnc hcm hn h0 hsm hc0 hs' hf0).mono ?_
          rintro e' w' ⟨p, rfl, h1, h2⟩
          exact ⟨_, rfl, h2, .inr ⟨rfl, p, rfl, h1⟩⟩
      · have e : buildE nd lf inn fl bl l = ((nodesOf nd lf inn fl bl n).2, 0) := by unfold buildE; rw [if_neg (by simpa using hc), if_neg (by simpa using hs), ← hl]
        rw [e]
        refine (rbuild_full nd lf inn fl bl A n c F l w hE hn hsm hc hs' hf).mono ?_
        rintro e' w' ⟨rfl, h2⟩
        exact ⟨_, rfl, h2, .inl ⟨hf, rfl⟩⟩
    · have e : buildE nd lf inn fl bl l = ((sortedOf l).2, (sortedOf l).1) := by unfold buildE; rw [if_neg (by simpa using hc), if_pos (by simpa using hs)]
      rw [e]
      refine (rbuild_srt nd lf inn fl bl A n c F l w hE hn hsm hc hs).mono ?_
      rintro e' w' ⟨rfl, h2⟩
      exact ⟨_, rfl, h2, .inl ⟨hs, rfl⟩⟩
  · have e : buildE nd lf inn fl bl l = (1, 0) := by unfold buildE; rw [if_pos (by simpa using hc)]
    rw [e]
    refine (rbuild_cfg nd lf inn fl bl A n c w hc).mono ?_
    rintro e' w' ⟨rfl, h2⟩
    exact ⟨_, rfl, h2, .inl ⟨by decide, rfl⟩⟩
end

/-- all slots of the document's tree are free, and small; there are not too many -/
theorem rups_ok {nd : Int} {inn : Nat} (h1 : 1 ≤ inn) (hi : inn ≤ 64) : ∀ (f : Nat) (lev : Int) (sl : List Slt) (lvl : List Nd), (lv nd inn f (lvl.length : Int) (sl.length : Int)).2 = 0 → (∀ s ∈ sl, Small s.2 ∧ s.1 = 2) → (∀ s ∈ lvl, Small s) →
    (∀ s ∈ (rups inn f lev sl lvl).1, Small s.2 ∧ s.1 = 2) ∧ ((rups inn f lev sl lvl).1.length : Int) ≤ nd := by
  intro f
  induction f with
  | zero => intro lev sl lvl h; simp [lv] at h
  | succ f ih =>
    intro lev sl lvl h hs hl
    have hf : ¬ nd - (sl.length : Int) < (lvl.length : Int) := by
      intro hx
      rw [lv_full hx] at h
      simp at h
    have hs' : ∀ s ∈ sl ++ (List.range lvl.length).map (slotN lvl ((sl.length : Int) + 1)), Small s.2 ∧ s.1 = 2 := by
      intro s hm
      rcases List.mem_append.1 hm with hm | hm
      · exact hs s hm
      · obtain ⟨i, hi', rfl⟩ := List.mem_map.1 hm
        have := hl _ (getD_mem (d := Nd.zero) (show i < lvl.length by simpa using hi'))
        exact ⟨⟨this.1, this.2.1, this.2.2.1, this.2.2.2.1, this.2.2.2.2.1, this.2.2.2.2.2⟩, rfl⟩
    by_cases hone : lvl.length = 1
    · rw [rups, if_pos hone]
      exact ⟨hs', by simp; omega⟩
    · rw [rups, if_neg hone]
      rw [lv_step hf (by omega), ← pn_cast lvl.length inn h1] at h
      refine ih (lev + 1) _ _ ?_ hs' ?_
      · simp only [List.length_append, List.length_map, List.length_range, Int.natCast_add]
        exact h
      · intro s hm
        obtain ⟨i, _, rfl⟩ := List.mem_map.1 hm
        exact small_aboveN hi hl _ _ i
theorem tree_ok {nd lf bl : Int} {inn fill : Nat} {l : List Ent} (hc : cfgOk nd lf inn fill bl) (hsm : ∀ e ∈ l, e.1.length ≤ 1152921504606 ∧ e.2.length ≤ 1152921504606) (hf : (nodesOf nd lf inn fill bl l.length).2 = 0) :
    (treeOf fill inn l).1.length ≤ 65536 ∧ (∀ s ∈ (treeOf fill inn l).1, Small s.2) ∧ ∀ s ∈ (treeOf fill inn l).1, 0 ≤ s.1 ∧ s.1 ≤ 4611686018427387904 ∧ s.1 % 2 = 0 := by
  rw [nodesOf_ok hc (by omega)] at hf
  obtain ⟨c1, c2, c3, c4, c5, c6, c7, c8, c9, c10⟩ := hc
  rw [tree_same (nd := nd) (by omega) (by omega) hf]
  unfold rtreeOf
  by_cases hl : l = []
  · rw [if_pos hl]
    refine ⟨by simp, fun s hs => ?_, fun s hs => ?_⟩
    · have : s = (0, Nd.zero) := by simpa using hs
      subst this
      exact ⟨by simp [Nd.zero], by simp [Nd.zero], by simp [Nd.zero], by simp [Nd.zero], by simp [Nd.zero], by simp [Nd.zero]⟩
    · have : s = (0, Nd.zero) := by simpa using hs
      subst this
      decide
  · rw [if_neg hl]
    have hll : (leavesN fill l).length = pn l.length fill := by simp [leavesN]
    obtain ⟨h1, h2⟩ := rups_ok (nd := nd) (inn := inn) (by omega) (by omega) 32 0 [] (leavesN fill l) (by rw [hll, pn_cast _ _ (by omega)]; exact hf) (by simp) (fun s hs => by obtain ⟨i, _, rfl⟩ := List.mem_map.1 hs; exact small_leafN (by omega) hsm i)
    exact ⟨by omega, fun s hs => (h1 s hs).1, fun s hs => by have := (h1 s hs).2; omega⟩
theorem buildE_ok {nd lf inn fl bl : Int} {l : List Ent} (h : (buildE nd lf inn fl bl l).1 = 0) : cfgOk nd lf inn fl bl ∧ (nodesOf nd lf inn fl bl l.length).2 = 0 := by
  unfold buildE at h
  by_cases hc : cfgOk nd lf inn fl bl
  · rw [if_neg (by simpa using hc)] at h
    by_cases hs : (sortedOf l).2 = 0
    · rw [if_neg (by simpa using hs)] at h; exact ⟨hc, h⟩
    · rw [if_pos (by simpa using hs)] at h; exact absurd h hs
  · rw [if_pos (by simpa using hc)] at h; cases h
end Go.Proofs.Ytgjphmlmndcaeaa

namespace Go.Proofs.Ytgjphmlmndcaeaa
open Go.RowKit
theorem lv_cases {nd inn : Int} (k : Nat) : ∀ (m all : Int), (lv nd inn k m all).2 = 0 ∨ (lv nd inn k m all).2 = 2 := by
  induction k with
  | zero => intro m all; exact .inr rfl
  | succ k ih =>
    intro m all
    unfold lv
    split
    · exact .inr rfl
    · split
      · exact .inl rfl
      · exact ih _ _
theorem nodesOf_cases {nd lf inn fl bl n : Int} (h : cfgOk nd lf inn fl bl) (hn : ¬ n < 0) : (nodesOf nd lf inn fl bl n).2 = 0 ∨ (nodesOf nd lf inn fl bl n).2 = 2 := by
  rw [nodesOf_ok h hn]; exact lv_cases _ _ _
theorem zip_parts : ∀ (l : List Ent), (l.map Prod.fst).zip (l.map Prod.snd) = l
  | [] => rfl
  | e :: l => by simp [zip_parts l]
section
variable {fill inn : Nat} {l : List Ent}
theorem ents_leaf (i : Nat) : entsOf (sL fill inn l 0 i).2 = lpart fill l i := by
  unfold entsOf; rw [leaf_keys, leaf_vals]; exact zip_parts _
theorem tree_all {nd lf bl : Int} (hc : cfgOk nd lf inn fill bl) (hr : Rising l) (hf : (nodesOf nd lf inn fill bl l.length).2 = 0) (hsm : ∀ e ∈ l, e.1.length ≤ 1152921504606 ∧ e.2.length ≤ 1152921504606) :
    ∃ L, TreeOk (treeOf fill inn l).1 (treeOf fill inn l).2 nd lf inn L (nL fill inn l) (dL fill inn l) (fun k i => (sL fill inn l k i).2) ∧ (treeOf fill inn l).1.length = dL fill inn l (L + 1) ∧ (nodesOf nd lf inn fill bl l.length).1 = (dL fill inn l (L + 1) : Int) ∧
      (treeOf fill inn l).1.length ≤ 65536 ∧
      (∀ k, k ≤ L → PkOk fill inn k (nL fill inn l k) (fun i => (sL fill inn l k i).2)) ∧ (∀ k, k < L → ksum (fun i => (sL fill inn l (k + 1) i).2) (nL fill inn l (k + 1)) = nL fill inn l k) ∧ (0 < L → 2 ≤ (sL fill inn l L 0).2.kids.length) := by
  obtain ⟨L, a1, a2, a3, a4, a5, a6, a7, a8⟩ := tree_shape hc hf
  obtain ⟨t1, t2, t3⟩ := tree_ok hc hsm hf
  obtain ⟨c1, c2, c3, c4, c5, c6, c7, c8, c9, c10⟩ := hc
  have h1 : 1 ≤ fill := by omega
  have h2 : 1 ≤ inn := by omega
  have hhl : ∀ k, (fun i => (sL fill inn l k i).2.high) = hL fill inn l k := fun k => by funext i; exact high_eq k i
  have hkl : ∀ k i, (sL fill inn l k i).2.kids.length ≤ 1000 := fun k i => by
    cases k with
    | zero => show ([] : List Int).length ≤ 1000; simp
    | succ k => rw [kids_len]; unfold mK; omega
  refine ⟨L, ⟨a4, a2, a1, fun k => nL_pos h1 h2 k, rfl, fun k => rfl, fun k hk => ⟨fun j hj => ?_, fun j hj => fine_ok hr h1 h2 (by omega) (by omega) ?_ hj, fun j _ => lev_eq k j, fun j _ => right_eq k j, fun j hj => ?_⟩, fun k hk i hi c kid hcd => ?_, fun k hk => ?_, fun k i _ _ => hkl k i, t3⟩, a5, a6, t1, fun k hk i hi => ⟨fun h0 => ?_, fun h0 hlt => ?_⟩, fun k hk => ?_, fun h0 => ?_⟩
  · obtain ⟨s, hs, e⟩ := a8 k j hk hj
    exact ⟨s, hs, e, t2 s (List.mem_of_getElem? hs)⟩
  · have := dL_mono (fill := fill) (inn := inn) (l := l) (j := k + 1) (k := L + 1) (by omega)
    omega
  · rw [hhl]; exact low_ok hr h1 h2 hj
  · have hcl : c < mK inn (nL fill inn l k) i := by
      have := (List.getElem?_eq_some_iff.1 hcd).1
      rw [kids_len] at this; exact this
    obtain ⟨q1, q2, q3, q4⟩ := lv_kid h1 h2 hi hcl
    have hkid : kid = (dL fill inn l k : Int) + ((i * inn + c : Nat) : Int) + 1 := by rw [q1] at hcd; injection hcd with hcd; exact hcd.symm
    refine ⟨i * inn + c, q2, hkid, fun hc0 => ?_, fun hc0 => ?_⟩
    · show lowOf (fun t => (sL fill inn l (k + 1) t).2.high) i = lowOf (fun t => (sL fill inn l k t).2.high) _
      rw [hhl, hhl]; exact q4 hc0
    · show _ = some (lowOf (fun t => (sL fill inn l k t).2.high) _)
      rw [hhl]; exact q3 hc0
  · have hp := mK_pos (inn := inn) h2 (nL_pos (l := l) h1 h2 k) (i := 0) (by have := nL_pos (l := l) h1 h2 (k + 1); exact this)
    have := (lv_kid (fill := fill) (inn := inn) (l := l) h1 h2 (k := k) (i := 0) (j := 0) (by have := nL_pos (l := l) h1 h2 (k + 1); omega) (by omega)).1
    rw [this]; simp
  · subst h0
    have h := packed_leaf (inn := inn) h1 hi
    have e : (sL fill inn l 0 i).2.keys.length = (lpart fill l i).length := by rw [leaf_keys, List.length_map]
    show (sL fill inn l 0 i).2.keys.length ≤ fill ∧ (i + 1 < nL fill inn l 0 → (sL fill inn l 0 i).2.keys.length = fill) ∧ (1 < nL fill inn l 0 → 1 ≤ (sL fill inn l 0 i).2.keys.length)
    rw [e]; exact h
  · obtain ⟨k, rfl⟩ : ∃ j, k = j + 1 := ⟨k - 1, by omega⟩
    show (sL fill inn l (k + 1) i).2.kids.length = inn
    rw [kids_len]; exact packed_inner h1 h2 hlt
  · unfold ksum
    have e : (fun i => (sL fill inn l (k + 1) i).2.kids.length) = mK inn (nL fill inn l k) := by funext i; exact kids_len k i
    show ((List.range (nL fill inn l (k + 1))).map fun i => (sL fill inn l (k + 1) i).2.kids.length).sum = _
    rw [e]; exact kids_all h1 h2 k
  · obtain ⟨k, rfl⟩ : ∃ j, L = j + 1 := ⟨L - 1, by omega⟩
    rw [kids_len]
    have := a3 k (by omega)
    unfold mK; omega
end
end Go.Proofs.Ytgjphmlmndcaeaa

namespace Go.Proofs.Ytgjphmlmndcaeaa
open Go.RowKit
set_option maxRecDepth 100000 in
set_option maxHeartbeats 2000000 in
theorem sameEntries_eq (F G : Nat → Prop) (A B : Option Addr) (n c d : Nat) (l : List Ent) (w : World) (h : Ents w F A n l) (k : Ents w G B n l) (hn : n ≤ 1152921504606) :
    Calls Try.prog 27 #[.slice A n c, .slice B n d] w fun e w' => e = .returned (.bool true) ∧ Below w.heap.size w w' := by
  have HH := Lib.hid h
  have HK := Lib.hid k
  clear h k
  go_enter Try.func27, Try.ntmps27
  go_wp2
  go_loopg [5] n (fun g i wr => ∃ (k : Nat), g = n - k ∧ k ≤ n ∧ i = .int .i64 k ∧ Below w.heap.size w wr)
  case atStart => exact ⟨0, by omega, by omega, rfl, Below.refl _ _⟩
  case round =>
    obtain ⟨k, hg, hk, rfl, hbl⟩ := hrel
    have HG := Lib.hid hg
    clear hg
    by_cases hlt : k < n
    · obtain ⟨b, o, Ak, nk, ck, Av, nv, cv, key, val, rfl, _, he, c1, c2, _, _, p3, p4, _, _, r3, r4⟩ := (HH.out.below hbl).at_ hlt
      obtain ⟨b', o', Bk, mk, dk, Bv, mv, dv, key', val', rfl, _, he', c1', c2', _, _, p3', p4', _, _, r3', r4'⟩ := (HK.out.below hbl).at_ hlt
      have hkv : key' = key ∧ val' = val := by rw [he] at he'; injection he' with he'; injection he' with e1 e2; exact ⟨e1.symm, e2.symm⟩
      obtain ⟨rfl, rfl⟩ := hkv
      have q1 := fun (r : Nat) => conv_any (wr.drewN r) F Ak nk ck key' (p4.drewN r) p3.out
      have q2 := fun (r : Nat) => conv_any (wr.drewN r) G Bk mk dk key' (p4'.drewN r) p3'.out
      have q3 := fun (r : Nat) => conv_any (wr.drewN r) F Av nv cv val' (r4.drewN r) r3.out
      have q4 := fun (r : Nat) => conv_any (wr.drewN r) G Bv mv dv val' (r4'.drewN r) r3'.out
      clear he he' p4 p4' r4 r4'
      go_wp2
      go_quiet (fail)
      go_wp2
      go_roundg (n - (k + 1))
      case measure => have := HG.out; omega
      case rel => exact ⟨k + 1, rfl, by omega, by go_num, below_drewN hbl _⟩
    · go_wp2
      go_ret
      exact ⟨rfl, hbl⟩
end Go.Proofs.Ytgjphmlmndcaeaa
