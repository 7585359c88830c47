/- WALKS: two arenas that hold the same are found the same. WALKS: the statement PackBuilds, whatever the entries (short enough). A builder in memory: its configuration and its entries; the program's and the document's. WALKS: an entry is put into a builder; the program's and the document's. -/
import Derived.Test.YtgjphmlmndcaeaaPd15
import Derived.Test.YtgjphmlmndcaeaaPd13
import Derived.Deep.Cut
set_option linter.unusedVariables false
set_option linter.unusedSimpArgs false
namespace Go.Proofs.Ytgjphmlmndcaeaa
open Go.RowKit

theorem ArX.drewN {F : Nat → Prop} {w : World} {p : Nat} {nodes root : Int} {sl : List Slt} (h : ArX w F p nodes sl root) (k : Nat) : ArX (w.drewN k) F p nodes sl root := h.chg (S := Nil) (Chg.of_below (below_drewN (Below.refl _ _) k)) (fun _ _ hf => hf)
theorem ArR.drewN {F : Nat → Prop} {w : World} {p : Nat} {nodes root : Int} {sl : List Slt} (h : ArR w F p nodes sl root) (k : Nat) : ArR (w.drewN k) F p nodes sl root := h.chg (S := Nil) (Chg.of_below (below_drewN (Below.refl _ _) k)) (fun _ _ hf => hf)
theorem quiet_ex {P : Program} {f : Nat} {args : Array Value} {w : World} {v : Value} (h : Calls P f args w fun e w' => e = .returned v ∧ ∃ q, w' = w.drewN q) : Calls P f args w fun e w' => e = .returned v ∧ ∃ m, w' = w.drewN m := h

set_option maxRecDepth 100000 in
theorem same_alike (F G : Nat → Prop) (q p r : Nat) (nodes root : Int) (sl : List Slt) (w : World) (hq : Blk w q 75 #[.pointer (some ⟨p, 0, none⟩), .pointer (some ⟨r, 0, none⟩)]) (hx : ArX w F p nodes sl root) (hy : ArR w G r nodes sl root)
    (hn : sl.length ≤ 65536) (hn0 : 0 ≤ nodes) (hn1 : nodes ≤ 65536) (hsm : ∀ s ∈ sl, Small s.2) (hev : ∀ s ∈ sl, 0 ≤ s.1 ∧ s.1 ≤ 4611686018427387904 ∧ s.1 % 2 = 0) :
    Calls Try.prog 32 #[.pointer (some ⟨q, 0, none⟩)] w fun e w' => e = .returned (.bool true) ∧ Below w.heap.size w w' := by
  have HX := Lib.hid hx
  have HY := Lib.hid hy
  have HQ := Lib.hid hq
  have HM := Lib.hid hsm
  have HE : Hid (heldTo sl sl.length = []) := Lib.hid (heldTo_even (fun s hs => (hev s hs).2.2) _)
  have HV := Lib.hid (fun s hs => ⟨(hev s hs).1, (hev s hs).2.1⟩ : ∀ s ∈ sl, 0 ≤ s.1 ∧ s.1 ≤ 4611686018427387904)
  have c0 : w.cell? ⟨q, 0, none⟩ = some (.pointer (some ⟨p, 0, none⟩)) := by rw [hq.cell]; rfl
  have c1 : w.cell? ⟨q, 1, none⟩ = some (.pointer (some ⟨r, 0, none⟩)) := by rw [hq.cell]; rfl
  clear hx hy hq hsm hev
  go_enter Try.func32, Try.ntmps32
  go_wp2_with (first | (go_at_call 54; refine (rused_any G r nodes root sl _ HY.out).mono ?_; rintro e w' ⟨rfl, rfl⟩) | (go_at_call 29; refine (held_any F p nodes root sl _ HX.out hn HV.out).mono ?_; rw [HE.out]; rintro e w1 ⟨A1, n1, d1, rfl, r1, _, hb1⟩; obtain rfl : n1 = 0 := r1.len; have y0 := bkeep hb1 c0; have y1 := bkeep hb1 c1) | (go_at_call 55; refine (rheld_any G r nodes root sl _ (HY.out.below hb1) hn HV.out).mono ?_; rw [HE.out]; rintro e w2 ⟨A2, n2, d2, rfl, r2, _, hb2⟩; obtain rfl : n2 = 0 := r2.len; have hb12 := hb1.trans (hb2.mono hb1.size); have z0 := bkeep hb12 c0; have z1 := bkeep hb12 c1))
  have HX2 := Lib.hid (HX.out.below hb12)
  have HY2 := Lib.hid (HY.out.below hb12)
  clear r1 r2
  go_quiet (first | (go_at_call 28; exact quiet_left (used_any F p nodes root sl _ (HX2.out.drewN _))) | (go_at_call 56; exact Calls.quiet_of (left_any F p nodes root sl _ (HX2.out.drewN _) hn hn0 hn1)) | (go_at_call 57; exact Calls.quiet_of (rleft_any G r nodes root sl _ (HY2.out.drewN _) hn hn0 hn1)) | (go_at_call 48; exact quiet_left (root_any F p nodes root sl _ (HX2.out.drewN _))) | (go_at_call 58; exact quiet_left (rroot_any G r nodes root sl _ (HY2.out.drewN _))))
  go_wp2
  go_loopg [6] 0 (fun g i wr => g = 0 ∧ i = .int .i64 0 ∧ Below w2.heap.size w2 wr)
  case atStart => exact ⟨rfl, rfl, below_drewN (Below.refl _ _) _⟩
  case round =>
    obtain ⟨hg, rfl, hbl⟩ := hrel
    have HB := Lib.hid (hb12.trans (hbl.mono hb12.size))
    clear hg hbl hb1 hb2 hb12 y0 y1 z0 z1 HX2 HY2
    have e1 := IntWalk.i64_in ((sl.length : Int) + 1) (by omega)
    go_wp2
    go_loopg [7] (sl.length + 2) (fun g i wz => ∃ k : Nat, g = sl.length + 2 - k ∧ k ≤ sl.length + 2 ∧ i = .int .i64 k ∧ Below w.heap.size w wz)
    case atStart => exact ⟨0, by omega, by omega, rfl, HB.out⟩
    case round =>
      obtain ⟨k, hg, hk, rfl, hbl⟩ := hrel
      have HG := Lib.hid hg
      clear hg
      by_cases hlt : (k : Int) ≤ sl.length + 1
      · go_wp2_with (go_at_call 59; refine (node_alike F G q p r nodes root sl k _ (HQ.out.below hbl) (HX.out.below hbl) (HY.out.below hbl) hn HM.out).mono ?_; rintro e w3 ⟨rfl, hb3⟩)
        go_roundg (sl.length + 2 - (k + 1))
        case measure => have := HG.out; omega
        case rel => exact ⟨k + 1, rfl, by omega, by go_num, hbl.trans (hb3.mono hbl.size)⟩
      · go_wp2
        go_ret
        exact ⟨rfl, hbl⟩

theorem both_nil (w : World) : Calls Try.prog 12 #[.pointer none, .pointer none] w fun e w' => e = .returned (.bool true) ∧ w = w' := by
  go_enter Try.func12, Try.ntmps12
  go_wp2
  go_ret
  exact ⟨rfl, rfl⟩
theorem both_alike (F G : Nat → Prop) (p r : Nat) (nodes root : Int) (sl : List Slt) (w : World) (hx : ArX w F p nodes sl root) (hy : ArR w G r nodes sl root)
    (hn : sl.length ≤ 65536) (hn0 : 0 ≤ nodes) (hn1 : nodes ≤ 65536) (hsm : ∀ s ∈ sl, Small s.2) (hev : ∀ s ∈ sl, 0 ≤ s.1 ∧ s.1 ≤ 4611686018427387904 ∧ s.1 % 2 = 0) :
    Calls Try.prog 12 #[.pointer (some ⟨p, 0, none⟩), .pointer (some ⟨r, 0, none⟩)] w fun e w' => e = .returned (.bool true) ∧ Below w.heap.size w w' := by
  have b1 : Below w.heap.size w (w.alloc (.cells #[.pointer (some ⟨p, 0, none⟩), .pointer (some ⟨r, 0, none⟩)] 75)) := (Below.refl _ _).alloc (Nat.le_refl _) _
  have HX := Lib.hid (hx.below b1)
  have HY := Lib.hid (hy.below b1)
  have HM := Lib.hid hsm
  have HE := Lib.hid hev
  have hq : Blk (w.alloc (.cells #[.pointer (some ⟨p, 0, none⟩), .pointer (some ⟨r, 0, none⟩)] 75)) w.heap.size 75 #[.pointer (some ⟨p, 0, none⟩), .pointer (some ⟨r, 0, none⟩)] := Blk.new _ _ _
  clear hx hy hsm hev
  go_enter Try.func12, Try.ntmps12
  go_wp2_with (go_at_call 32; refine (same_alike F G w.heap.size p r nodes root sl _ hq HX.out HY.out hn hn0 hn1 HM.out HE.out).mono ?_; rintro e w3 ⟨rfl, hb3⟩)
  go_ret
  exact ⟨rfl, b1.trans (hb3.mono b1.size)⟩
end Go.Proofs.Ytgjphmlmndcaeaa

namespace Go.Proofs.Ytgjphmlmndcaeaa
open Go.RowKit

/-- what a build answers: the error, and the place -/
def buildE (nd lf inn fl bl : Int) (l : List Ent) : Int × Int :=
  if ¬ cfgOk nd lf inn fl bl then (1, 0) else if (sortedOf l).2 ≠ 0 then ((sortedOf l).2, (sortedOf l).1) else ((nodesOf nd lf inn fl bl l.length).2, 0)
/-- the program's build, whatever comes -/
def AnyX (w : World) (nodes : Int) (E : Int × Int) (t : List Slt × Int) (e : Ending) (w' : World) : Prop :=
  ∃ pv, e = .returned (.tuple #[pv, .int .i64 E.1, .int .i64 E.2]) ∧ Below w.heap.size w w' ∧ ((E.1 ≠ 0 ∧ pv = .pointer none) ∨ (E.1 = 0 ∧ ∃ p, pv = .pointer (some ⟨p, 0, none⟩) ∧ ArX w' (From w.heap.size) p nodes t.1 t.2))
def AnyR (w : World) (nodes : Int) (E : Int × Int) (t : List Slt × Int) (e : Ending) (w' : World) : Prop :=
  ∃ pv, e = .returned (.tuple #[pv, .int .i64 E.1, .int .i64 E.2]) ∧ Below w.heap.size w w' ∧ ((E.1 ≠ 0 ∧ pv = .pointer none) ∨ (E.1 = 0 ∧ ∃ p, pv = .pointer (some ⟨p, 0, none⟩) ∧ ArR w' (From w.heap.size) p nodes t.1 t.2))

section
variable (nd lf inn fl bl : Int) (A : Option Addr) (n c : Nat) (F : Nat → Prop) (l : List Ent) (w : World)
theorem pbuild_any (hE : Ents w F A n l) (hnc : n ≤ c) (hcm : c ≤ maxLen) (hn : n ≤ 1152921504606) (hsm : ∀ e ∈ l, e.1.length ≤ 1152921504606 ∧ e.2.length ≤ 1152921504606) :
    Calls Try.prog 20 #[.agg #[.int .i64 nd, .int .i64 lf, .int .i64 inn, .int .i64 fl, .int .i64 bl], .slice A n c] w (AnyX w nd (buildE nd lf inn fl bl l) (treeOf fl.toNat inn.toNat l)) := by
  have hl := hE.len
  by_cases hc : cfgOk nd lf inn fl bl
  · by_cases hs : (sortedOf l).2 = 0
    · have hs' : sortedOf l = (0, 0) := by rw [sorted_ok ((sorted_iff l).1 hs)]
      by_cases hf : (nodesOf nd lf inn fl bl n).2 = 0
      · have e : buildE nd lf inn fl bl l = (0, 0) := by unfold buildE; rw [if_neg (by simpa using hc), if_neg (by simpa using hs), ← hl, hf]
        rw [e]
        obtain ⟨c1, c2, c3, c4, c5, c6, c7, c8, c9, c10⟩ := hc
        obtain ⟨i, rfl⟩ : ∃ i : Nat, inn = i := ⟨inn.toNat, by omega⟩
        obtain ⟨f, rfl⟩ : ∃ f : Nat, fl = f := ⟨fl.toNat, by omega⟩
        refine (pbuild_ok nd lf bl i f A n c F l w hE hnc hcm hn hsm ⟨c1, c2, c3, c4, c5, c6, c7, c8, c9, c10⟩ hs' hf).mono ?_
        rintro e' w' ⟨p, rfl, h1, h2⟩
        exact ⟨_, rfl, h2, .inr ⟨rfl, p, rfl, by simpa using h1⟩⟩
      · have e : buildE nd lf inn fl bl l = ((nodesOf nd lf inn fl bl n).2, 0) := by unfold buildE; rw [if_neg (by simpa using hc), if_neg (by simpa using hs), ← hl]
        rw [e]
        refine (build_full nd lf inn fl bl A n c F l w hE hn hsm hc hs' hf).mono ?_
        rintro e' w' ⟨rfl, h2⟩
        exact ⟨_, rfl, h2, .inl ⟨hf, rfl⟩⟩
    · have e : buildE nd lf inn fl bl l = ((sortedOf l).2, (sortedOf l).1) := by unfold buildE; rw [if_neg (by simpa using hc), if_pos (by simpa using hs)]
      rw [e]
      refine (build_srt nd lf inn fl bl A n c F l w hE hn hsm hc hs).mono ?_
      rintro e' w' ⟨rfl, h2⟩
      exact ⟨_, rfl, h2, .inl ⟨hs, rfl⟩⟩
  · have e : buildE nd lf inn fl bl l = (1, 0) := by unfold buildE; rw [if_pos (by simpa using hc)]
    rw [e]
    refine (build_cfg nd lf inn fl bl A n c w hc).mono ?_
    rintro e' w' ⟨rfl, h2⟩
    exact ⟨_, rfl, h2, .inl ⟨by decide, rfl⟩⟩
theorem rbuild_any (hE : Ents w F A n l) (hnc : n ≤ c) (hcm : c ≤ maxLen) (hn : n ≤ 1152921504606) (hsm : ∀ e ∈ l, e.1.length ≤ 1152921504606 ∧ e.2.length ≤ 1152921504606) :
    Calls Try.prog 21 #[.agg #[.int .i64 nd, .int .i64 lf, .int .i64 inn, .int .i64 fl, .int .i64 bl], .slice A n c] w (AnyR w nd (buildE nd lf inn fl bl l) (treeOf fl.toNat inn.toNat l)) := by
  have hl := hE.len
  by_cases hc : cfgOk nd lf inn fl bl
  · by_cases hs : (sortedOf l).2 = 0
    · have hs' : sortedOf l = (0, 0) := by rw [sorted_ok ((sorted_iff l).1 hs)]
      by_cases hf : (nodesOf nd lf inn fl bl n).2 = 0
      · have e : buildE nd lf inn fl bl l = (0, 0) := by unfold buildE; rw [if_neg (by simpa using hc), if_neg (by simpa using hs), ← hl, hf]
        rw [e]
        have hc0 := hc
        obtain ⟨c1, c2, c3, c4, c5, c6, c7, c8, c9, c10⟩ := hc
        obtain ⟨i, rfl⟩ : ∃ i : Nat, inn = i := ⟨inn.toNat, by omega⟩
        obtain ⟨f, rfl⟩ : ∃ f : Nat, fl = f := ⟨fl.toNat, by omega⟩
        have hf0 := hf
        rw [nodesOf_ok hc0 (by omega)] at hf
        have ht : treeOf f i l = rtreeOf f i l := tree_same (nd := nd) (by omega) (by omega) (by rw [← hl]; exact hf)
        simp only [Int.toNat_natCast]
        rw [ht]
        rcases Nat.eq_zero_or_pos n with h0 | h0
        · subst h0
          have hnil : l = [] := List.eq_nil_of_length_eq_zero hl.symm
          subst hnil
          refine (rbuild_nil nd lf bl i f A c F w hE hc0 hf0).mono ?_
          rintro e' w' ⟨p, rfl, h1, h2⟩
          exact ⟨_, rfl, h2, .inr ⟨rfl, p, rfl, by simpa [rtreeOf] using h1⟩⟩
        · refine (rbuild_cons nd lf bl i f A n c F l w hE hnc hcm hn h0 hsm hc0 hs' hf0).mono ?_
          rintro e' w' ⟨p, rfl, h1, h2⟩
          exact ⟨_, rfl, h2, .inr ⟨rfl, p, rfl, h1⟩⟩
      · have e : buildE nd lf inn fl bl l = ((nodesOf nd lf inn fl bl n).2, 0) := by unfold buildE; rw [if_neg (by simpa using hc), if_neg (by simpa using hs), ← hl]
        rw [e]
        refine (rbuild_full nd lf inn fl bl A n c F l w hE hn hsm hc hs' hf).mono ?_
        rintro e' w' ⟨rfl, h2⟩
        exact ⟨_, rfl, h2, .inl ⟨hf, rfl⟩⟩
    · have e : buildE nd lf inn fl bl l = ((sortedOf l).2, (sortedOf l).1) := by unfold buildE; rw [if_neg (by simpa using hc), if_pos (by simpa using hs)]
      rw [e]
      refine (rbuild_srt nd lf inn fl bl A n c F l w hE hn hsm hc hs).mono ?_
      rintro e' w' ⟨rfl, h2⟩
      exact ⟨_, rfl, h2, .inl ⟨hs, rfl⟩⟩
  · have e : buildE nd lf inn fl bl l = (1, 0) := by unfold buildE; rw [if_pos (by simpa using hc)]
    rw [e]
    refine (rbuild_cfg nd lf inn fl bl A n c w hc).mono ?_
    rintro e' w' ⟨rfl, h2⟩
    exact ⟨_, rfl, h2, .inl ⟨by decide, rfl⟩⟩
end

/-- all slots of the document's tree are free, and small; there are not too many -/
theorem rups_ok {nd : Int} {inn : Nat} (h1 : 1 ≤ inn) (hi : inn ≤ 64) : ∀ (f : Nat) (lev : Int) (sl : List Slt) (lvl : List Nd), (lv nd inn f (lvl.length : Int) (sl.length : Int)).2 = 0 → (∀ s ∈ sl, Small s.2 ∧ s.1 = 2) → (∀ s ∈ lvl, Small s) →
    (∀ s ∈ (rups inn f lev sl lvl).1, Small s.2 ∧ s.1 = 2) ∧ ((rups inn f lev sl lvl).1.length : Int) ≤ nd := by
  intro f
  induction f with
  | zero => intro lev sl lvl h; simp [lv] at h
  | succ f ih =>
    intro lev sl lvl h hs hl
    have hf : ¬ nd - (sl.length : Int) < (lvl.length : Int) := by
      intro hx
      rw [lv_full hx] at h
      simp at h
    have hs' : ∀ s ∈ sl ++ (List.range lvl.length).map (slotN lvl ((sl.length : Int) + 1)), Small s.2 ∧ s.1 = 2 := by
      intro s hm
      rcases List.mem_append.1 hm with hm | hm
      · exact hs s hm
      · obtain ⟨i, hi', rfl⟩ := List.mem_map.1 hm
        have := hl _ (getD_mem (d := Nd.zero) (show i < lvl.length by simpa using hi'))
        exact ⟨⟨this.1, this.2.1, this.2.2.1, this.2.2.2.1, this.2.2.2.2.1, this.2.2.2.2.2⟩, rfl⟩
    by_cases hone : lvl.length = 1
    · rw [rups, if_pos hone]
      exact ⟨hs', by simp; omega⟩
    · rw [rups, if_neg hone]
      rw [lv_step hf (by omega), ← pn_cast lvl.length inn h1] at h
      refine ih (lev + 1) _ _ ?_ hs' ?_
      · simp only [List.length_append, List.length_map, List.length_range, Int.natCast_add]
        exact h
      · intro s hm
        obtain ⟨i, _, rfl⟩ := List.mem_map.1 hm
        exact small_aboveN hi hl _ _ i
theorem tree_ok {nd lf bl : Int} {inn fill : Nat} {l : List Ent} (hc : cfgOk nd lf inn fill bl) (hsm : ∀ e ∈ l, e.1.length ≤ 1152921504606 ∧ e.2.length ≤ 1152921504606) (hf : (nodesOf nd lf inn fill bl l.length).2 = 0) :
    (treeOf fill inn l).1.length ≤ 65536 ∧ (∀ s ∈ (treeOf fill inn l).1, Small s.2) ∧ ∀ s ∈ (treeOf fill inn l).1, 0 ≤ s.1 ∧ s.1 ≤ 4611686018427387904 ∧ s.1 % 2 = 0 := by
  rw [nodesOf_ok hc (by omega)] at hf
  obtain ⟨c1, c2, c3, c4, c5, c6, c7, c8, c9, c10⟩ := hc
  rw [tree_same (nd := nd) (by omega) (by omega) hf]
  unfold rtreeOf
  by_cases hl : l = []
  · rw [if_pos hl]
    refine ⟨by simp, fun s hs => ?_, fun s hs => ?_⟩
    · have : s = (0, Nd.zero) := by simpa using hs
      subst this
      exact ⟨by simp [Nd.zero], by simp [Nd.zero], by simp [Nd.zero], by simp [Nd.zero], by simp [Nd.zero], by simp [Nd.zero]⟩
    · have : s = (0, Nd.zero) := by simpa using hs
      subst this
      decide
  · rw [if_neg hl]
    have hll : (leavesN fill l).length = pn l.length fill := by simp [leavesN]
    obtain ⟨h1, h2⟩ := rups_ok (nd := nd) (inn := inn) (by omega) (by omega) 32 0 [] (leavesN fill l) (by rw [hll, pn_cast _ _ (by omega)]; exact hf) (by simp) (fun s hs => by obtain ⟨i, _, rfl⟩ := List.mem_map.1 hs; exact small_leafN (by omega) hsm i)
    exact ⟨by omega, fun s hs => (h1 s hs).1, fun s hs => by have := (h1 s hs).2; omega⟩
theorem buildE_ok {nd lf inn fl bl : Int} {l : List Ent} (h : (buildE nd lf inn fl bl l).1 = 0) : cfgOk nd lf inn fl bl ∧ (nodesOf nd lf inn fl bl l.length).2 = 0 := by
  unfold buildE at h
  by_cases hc : cfgOk nd lf inn fl bl
  · rw [if_neg (by simpa using hc)] at h
    by_cases hs : (sortedOf l).2 = 0
    · rw [if_neg (by simpa using hs)] at h; exact ⟨hc, h⟩
    · rw [if_pos (by simpa using hs)] at h; exact absurd h hs
  · rw [if_pos (by simpa using hc)] at h; cases h
end Go.Proofs.Ytgjphmlmndcaeaa

namespace Go.Proofs.Ytgjphmlmndcaeaa
open Go.RowKit
open Go.Lib (compareBytes)

/-- a builder at block p: its blocks are of F, and there; its texts may lie in blocks of In, too -/
def Bd (w : World) (T : TypeId) (F In : Nat → Prop) (p : Nat) (nd lf inn fl bl : Int) (l : List Ent) : Prop :=
  ∃ A n c us, F p ∧ (∀ b, F b → b < w.heap.size) ∧ T ≠ 43 ∧ Blk w p T #[.int .i64 nd, .int .i64 lf, .int .i64 inn, .int .i64 fl, .int .i64 bl, .slice A n c] ∧ w.ownsRow 0 43 2 (.slice A n c) n us ∧ (∀ g, (Value.slice A n c).ownBlock = some g → F g) ∧ Hid (n = l.length) ∧
    ∀ (i : Nat) (e : Ent), l[i]? = some e → ∃ u v, us[2 * i]? = some u ∧ us[2 * i + 1]? = some v ∧ SB w (fun b => (F b ∨ In b) ∧ (Value.slice A n c).ownBlock ≠ some b ∧ b ≠ p) u e.1 ∧ SB w (fun b => (F b ∨ In b) ∧ (Value.slice A n c).ownBlock ≠ some b ∧ b ≠ p) v e.2
section
variable {S F In : Nat → Prop} {w w' : World} {T : TypeId} {p : Nat} {nd lf inn fl bl : Int} {l : List Ent}
theorem Bd.chg (h : Bd w T F In p nd lf inn fl bl l) (hc : Chg S w w') (hs : ∀ b, F b → ¬ S b) (hi : ∀ b, In b → ¬ S b) : Bd w' T F In p nd lf inn fl bl l := by
  obtain ⟨A, n, c, us, h1, h2, h3, h4, h5, h6, h7, h8⟩ := h
  refine ⟨A, n, c, us, h1, fun b hb => Nat.lt_of_lt_of_le (h2 b hb) hc.size, h3, h4.chg hc (hs _ h1), own_chg h5 hc (fun g hg => hs g (h6 g hg)), h6, h7, fun i e he => ?_⟩
  obtain ⟨u, v, a, b, s1, s2⟩ := h8 i e he
  exact ⟨u, v, a, b, s1.chg hc (fun b hb => hb.1.elim (hs b) (hi b)), s2.chg hc (fun b hb => hb.1.elim (hs b) (hi b))⟩
theorem Bd.below (h : Bd w T F In p nd lf inn fl bl l) (hb : Below w.heap.size w w') : Bd w' T F In p nd lf inn fl bl l := h.chg (S := Nil) (Chg.of_below hb) (fun _ _ h => h) (fun _ _ h => h)
/-- emptied -/
theorem Bd.empty (h : Bd w T F In p nd lf inn fl bl l) : Bd (w.setCell ⟨p, 5, none⟩ (.slice none 0 0)) T F In p nd lf inn fl bl [] := by
  obtain ⟨A, n, c, us, h1, h2, h3, h4, h5, h6, h7, h8⟩ := h
  exact ⟨none, 0, 0, [], h1, fun b hb => by simpa [World.setCell] using h2 b hb, h3, h4.set_ 5 _, World.ownsRow_nil _ _ _ _, fun g hg => by simp [Value.ownBlock] at hg, rfl, fun i e he => by simp at he⟩
/-- an entry more -/
theorem Bd.push {wa w2 : World} {A : Option Addr} {n c : Nat} {us : List Value} {v2 u v : Value} {e : Ent} (h1 : F p) (h2 : ∀ b, F b → b < w.heap.size) (h3 : T ≠ 43) (h4 : Blk w p T #[.int .i64 nd, .int .i64 lf, .int .i64 inn, .int .i64 fl, .int .i64 bl, .slice A n c]) (h5 : w.ownsRow 0 43 2 (.slice A n c) n us) (h6 : ∀ g, (Value.slice A n c).ownBlock = some g → F g) (h7 : Hid (n = l.length))
    (h8 : ∀ (i : Nat) (e : Ent), l[i]? = some e → ∃ u v, us[2 * i]? = some u ∧ us[2 * i + 1]? = some v ∧ SB w (fun b => (F b ∨ In b) ∧ (Value.slice A n c).ownBlock ≠ some b ∧ b ≠ p) u e.1 ∧ SB w (fun b => (F b ∨ In b) ∧ (Value.slice A n c).ownBlock ≠ some b ∧ b ≠ p) v e.2)
    (hb : Below w.heap.size w wa) (ho : w2.ownsRow 0 43 2 v2 (n + 1) (us ++ [u, v])) (hg : wa.grownBy w2 (Value.slice A n c).ownBlock) (hat : v2.ownBlock = (Value.slice A n c).ownBlock ∨ v2.ownBlock = some wa.heap.size)
    (hu : SB wa (fun b => (F b ∨ In b ∨ w.heap.size ≤ b) ∧ (Value.slice A n c).ownBlock ≠ some b ∧ b ≠ p) u e.1) (hv : SB wa (fun b => (F b ∨ In b ∨ w.heap.size ≤ b) ∧ (Value.slice A n c).ownBlock ≠ some b ∧ b ≠ p) v e.2) (hIn : ∀ b, In b → b < w.heap.size) :
    Bd (w2.setCell ⟨p, 5, none⟩ v2) T (Grown F w (w2.setCell ⟨p, 5, none⟩ v2)) In p nd lf inn fl bl (l ++ [e]) ∧ Chg F w (w2.setCell ⟨p, 5, none⟩ v2) := by
  have hop : (Value.slice A n c).ownBlock ≠ some p := own_blk_ne h5 h4 (fun e => h3 e.symm)
  have hc2 : Chg (fun b => (Value.slice A n c).ownBlock = some b) wa w2 := Chg.of_grown hg
  have hws := hb.size
  have hw2 := hg.size
  have hpw := h2 p h1
  have hvp : v2.ownBlock ≠ some p := fun e => hat.elim (fun e' => hop (e' ▸ e)) (fun e' => by rw [e'] at e; injection e with e; omega)
  have hch : Chg F w (w2.setCell ⟨p, 5, none⟩ v2) := ((Chg.of_below (S := F) hb).trans hc2 (fun b _ h => h6 b h)).setCell (p := ⟨p, 5, none⟩) (fun _ => h1) v2
  have hsz : (w2.setCell ⟨p, 5, none⟩ v2).heap.size = w2.heap.size := by simp [World.setCell]
  have hnew : ∀ b, b < wa.heap.size → v2.ownBlock = some b → (Value.slice A n c).ownBlock = some b := fun b hb' e => hat.elim (fun e' => e' ▸ e) (fun e' => by rw [e'] at e; injection e with e; omega)
  have hsb : ∀ (x : Value) (bs : List UInt8), SB wa (fun b => (F b ∨ In b ∨ w.heap.size ≤ b) ∧ (Value.slice A n c).ownBlock ≠ some b ∧ b ≠ p) x bs → SB (w2.setCell ⟨p, 5, none⟩ v2) (fun b => (Grown F w (w2.setCell ⟨p, 5, none⟩ v2) b ∨ In b) ∧ v2.ownBlock ≠ some b ∧ b ≠ p) x bs := by
    intro x bs hx
    have s1 := ((hx.lt.chg hc2 (fun b hb e => hb.1.2.1 e)).chg (Chg.set1 w2 p 5 v2) (fun b hb e => hb.1.2.2 e))
    refine s1.weak (fun b hb => ⟨?_, fun e => hb.1.2.1 (hnew b hb.2 e), hb.1.2.2⟩)
    rcases hb.1.1 with h | h | h
    · exact .inl (.inl h)
    · exact .inr h
    · exact .inl (.inr ⟨h, by rw [hsz]; have := hb.2; omega⟩)
  have hus : us.length = n * 2 := h5.1
  refine ⟨?_, hch⟩
  obtain ⟨A2, c2, rfl, _, _⟩ := own_val ho
  refine ⟨A2, n + 1, c2, us ++ [u, v], .inl h1, fun b hb => hb.elim (fun h => Nat.lt_of_lt_of_le (h2 b h) hch.size) (fun h => h.2), h3, ?_, ?_, ?_, Lib.hid (by have := h7.out; simp [this]), ?_⟩
  · exact ((h4.below hb).chg hc2 hop).set_ 5 _
  · exact own_chg ho (Chg.set1 w2 p 5 _) (fun g hg' e => hvp (by rw [hg', show g = p from e]))
  · intro g hg'
    rcases hat with e' | e'
    · exact .inl (h6 g (e' ▸ hg'))
    · rw [e'] at hg'
      injection hg' with hg'
      have := (own_lt ho g (by rw [e', hg'])).2
      exact .inr ⟨by omega, by rw [hsz]; exact this⟩
  · intro i e' hi
    rcases Nat.lt_or_ge i l.length with hl | hl
    · rw [List.getElem?_append_left hl] at hi
      obtain ⟨x, y, a, b, s1, s2⟩ := h8 i e' hi
      have hl' : i < n := by have := h7.out; omega
      refine ⟨x, y, by rw [List.getElem?_append_left (by omega)]; exact a, by rw [List.getElem?_append_left (by omega)]; exact b, hsb x _ ((s1.below hb).weak (fun b hb => ⟨hb.1.imp id .inl, hb.2⟩)), hsb y _ ((s2.below hb).weak (fun b hb => ⟨hb.1.imp id .inl, hb.2⟩))⟩
    · rw [List.getElem?_append_right hl] at hi
      have hi0 : i = l.length := by have := (List.getElem?_eq_some_iff.1 hi).1; simp at this; omega
      subst hi0
      simp at hi
      subst hi
      have hn' := h7.out
      refine ⟨u, v, ?_, ?_, hsb u _ hu, hsb v _ hv⟩
      · rw [List.getElem?_append_right (by omega), show 2 * l.length - us.length = 0 by omega]; rfl
      · rw [List.getElem?_append_right (by omega), show 2 * l.length + 1 - us.length = 1 by omega]; rfl
end

/-- what Add answers -/
def addE (nd lf inn fl bl : Int) (l : List Ent) (e : Ent) : Int :=
  if entE e ≠ 0 then entE e else if 0 < l.length ∧ 0 ≤ compareBytes (l.getD (l.length - 1) ([], [])).1 e.1 then 51 else (nodesOf nd lf inn fl bl ((l.length + 1 : Nat) : Int)).2
/-- the entries behind it -/
def addL (nd lf inn fl bl : Int) (l : List Ent) (e : Ent) : List Ent := if addE nd lf inn fl bl l e = 0 then l ++ [e] else l
theorem buildE_iff {nd lf inn fl bl : Int} {l : List Ent} : (buildE nd lf inn fl bl l).1 = 0 ↔ cfgOk nd lf inn fl bl ∧ Rising l ∧ (nodesOf nd lf inn fl bl l.length).2 = 0 := by
  unfold buildE
  by_cases hc : cfgOk nd lf inn fl bl
  · rw [if_neg (by simpa using hc)]
    by_cases hs : (sortedOf l).2 = 0
    · rw [if_neg (by simpa using hs)]; exact ⟨fun h => ⟨hc, (sorted_iff l).1 hs, h⟩, fun h => h.2.2⟩
    · rw [if_pos (by simpa using hs)]; exact ⟨fun h => absurd h hs, fun h => absurd ((sorted_iff l).2 h.2.1) hs⟩
  · rw [if_pos (by simpa using hc)]; exact ⟨fun h => (by cases h), fun h => absurd h.1 hc⟩
theorem buildE_nil {nd lf inn fl bl : Int} (hc : cfgOk nd lf inn fl bl) : (buildE nd lf inn fl bl []).1 = 0 := by
  rw [buildE_iff]
  refine ⟨hc, fun j hj => by simp at hj, ?_⟩
  rw [nodesOf_ok hc (by simp)]
  have h1 := hc.1
  rw [show (([] : List Ent).length : Int) = 0 by rfl, show parts 0 fl = 1 by unfold parts; simp, lv_one (by omega) rfl]
theorem rising_snoc {l : List Ent} {e : Ent} (h : Rising l) (he : entE e = 0) (hk : ¬ (0 < l.length ∧ 0 ≤ compareBytes (l.getD (l.length - 1) ([], [])).1 e.1)) : Rising (l ++ [e]) := by
  intro j hj
  rcases Nat.lt_or_ge j l.length with hl | hl
  · have := h j hl
    unfold badAt at this ⊢
    have e1 : (l ++ [e]).getD j ([], []) = l.getD j ([], []) := by rw [List.getD_eq_getElem?_getD, List.getD_eq_getElem?_getD, List.getElem?_append_left hl]
    have e2 : (l ++ [e]).getD (j - 1) ([], []) = l.getD (j - 1) ([], []) := by rw [List.getD_eq_getElem?_getD, List.getD_eq_getElem?_getD, List.getElem?_append_left (by omega)]
    rw [e1, e2]; exact this
  · have hj0 : j = l.length := by simp at hj; omega
    subst hj0
    unfold badAt
    have e1 : (l ++ [e]).getD l.length ([], []) = e := by rw [List.getD_eq_getElem?_getD, List.getElem?_append_right (Nat.le_refl _)]; simp
    rw [e1, if_neg (by simpa using he)]
    by_cases h0 : 0 < l.length
    · have e2 : (l ++ [e]).getD (l.length - 1) ([], []) = l.getD (l.length - 1) ([], []) := by rw [List.getD_eq_getElem?_getD, List.getD_eq_getElem?_getD, List.getElem?_append_left (by omega)]
      rw [e2, if_neg (fun h => hk ⟨h0, h.2⟩)]
    · rw [if_neg (fun h => h0 h.1)]
theorem addL_ok {nd lf inn fl bl : Int} {l : List Ent} {e : Ent} (h : (buildE nd lf inn fl bl l).1 = 0) : (buildE nd lf inn fl bl (addL nd lf inn fl bl l e)).1 = 0 := by
  unfold addL
  by_cases ha : addE nd lf inn fl bl l e = 0
  · rw [if_pos ha]
    obtain ⟨h1, h2, h3⟩ := buildE_iff.1 h
    unfold addE at ha
    by_cases he : entE e = 0
    · rw [if_neg (by simpa using he)] at ha
      by_cases hk : 0 < l.length ∧ 0 ≤ compareBytes (l.getD (l.length - 1) ([], [])).1 e.1
      · rw [if_pos hk] at ha; cases ha
      · rw [if_neg hk] at ha
        exact buildE_iff.2 ⟨h1, rising_snoc h2 he hk, by rw [List.length_append, List.length_singleton]; exact ha⟩
    · rw [if_pos (by simpa using he)] at ha; exact absurd ha he
  · rw [if_neg ha]; exact h
end Go.Proofs.Ytgjphmlmndcaeaa

namespace Go.Proofs.Ytgjphmlmndcaeaa
open Go.RowKit
open Go.Lib (compareBytes)

/-- six cells of a builder -/
def Bc (p : Nat) (nd lf inn fl bl : Int) (x : Value) (w : World) : Prop := w.cell? ⟨p, 0, none⟩ = some (.int .i64 nd) ∧ w.cell? ⟨p, 1, none⟩ = some (.int .i64 lf) ∧ w.cell? ⟨p, 2, none⟩ = some (.int .i64 inn) ∧ w.cell? ⟨p, 3, none⟩ = some (.int .i64 fl) ∧ w.cell? ⟨p, 4, none⟩ = some (.int .i64 bl) ∧ w.cell? ⟨p, 5, none⟩ = some x
theorem bc_of {w : World} {p : Nat} {T : TypeId} {nd lf inn fl bl : Int} {x : Value} (h : Blk w p T #[.int .i64 nd, .int .i64 lf, .int .i64 inn, .int .i64 fl, .int .i64 bl, x]) : Bc p nd lf inn fl bl x w := ⟨by rw [h.cell]; rfl, by rw [h.cell]; rfl, by rw [h.cell]; rfl, by rw [h.cell]; rfl, by rw [h.cell]; rfl, by rw [h.cell]; rfl⟩
theorem Bc.below {w w' : World} {p : Nat} {nd lf inn fl bl : Int} {x : Value} (h : Bc p nd lf inn fl bl x w) (hb : Below w.heap.size w w') : Bc p nd lf inn fl bl x w' := ⟨bkeep hb h.1, bkeep hb h.2.1, bkeep hb h.2.2.1, bkeep hb h.2.2.2.1, bkeep hb h.2.2.2.2.1, bkeep hb h.2.2.2.2.2⟩
noncomputable def nodesC : Code := codeOr (Try.f16.body.bind (regionAt 6))
set_option maxRecDepth 100000 in
set_option maxHeartbeats 4000000 in
theorem nodes (p : Nat) (nd lf inn fl bl : Int) (A : Option Addr) (n c : Nat) (w : World) {u1 u2 u3 u4 u5 u6 u7 u8 u9 u10 u11 u12 u13 u14 u15 u16 u17 u18 u19 u20 u21 u22 u23 u24 u25 u26 u27 u28 u29 u30 u31 u32 u33 u34 u35 u36 u37 u38 u39 u40 u41 u42 u43 u44 u45 u46 u47 u48 u49 u50 u51 u52 u53 u54 u55 u56 u57 u58 u59 u60 u61 u62 u63 u64 u65 u66 u67 u68 u69 u70 : Value} (Q : Exit → Act → World → Prop) (HQP : Hid (∀ c t (a : Act) w, Q (.panic c) ⟨t, a.defers⟩ w → Q (.panic c) a w))
    (hc : cfgOk nd lf inn fl bl) (hn : n ≤ 1152921504606) (hb : Bc p nd lf inn fl bl (.slice A n c) w)
    (hexit : ∀ (v6 v38 v39 v40 v41 v42 v43 v44 v45 v46 v47 v48 v49 v50 v51 : Value) (w' : World), Below w.heap.size w w' → Q .normal ⟨(.pointer (some ⟨p, 0, none⟩) :: u1 :: u2 :: u3 :: u4 :: u5 :: v6 :: .int .i64 (nodesOf nd lf inn fl bl ((n + 1 : Nat) : Int)).2 :: u8 :: u9 :: u10 :: u11 :: u12 :: u13 :: u14 :: u15 :: u16 :: u17 :: u18 :: u19 :: u20 :: u21 :: u22 :: u23 :: u24 :: u25 :: u26 :: u27 :: u28 :: u29 :: u30 :: u31 :: u32 :: u33 :: u34 :: u35 :: u36 :: u37 :: v38 :: v39 :: v40 :: v41 :: v42 :: v43 :: v44 :: v45 :: v46 :: v47 :: v48 :: v49 :: v50 :: v51 :: u52 :: u53 :: u54 :: u55 :: u56 :: u57 :: u58 :: u59 :: u60 :: u61 :: u62 :: u63 :: u64 :: u65 :: u66 :: u67 :: u68 :: u69 :: u70 :: []).toArray, []⟩ w') :
    Code.wp Try.prog nodesC Q ⟨(.pointer (some ⟨p, 0, none⟩) :: u1 :: u2 :: u3 :: u4 :: u5 :: u6 :: u7 :: u8 :: u9 :: u10 :: u11 :: u12 :: u13 :: u14 :: u15 :: u16 :: u17 :: u18 :: u19 :: u20 :: u21 :: u22 :: u23 :: u24 :: u25 :: u26 :: u27 :: u28 :: u29 :: u30 :: u31 :: u32 :: u33 :: u34 :: u35 :: u36 :: u37 :: u38 :: u39 :: u40 :: u41 :: u42 :: u43 :: u44 :: u45 :: u46 :: u47 :: u48 :: u49 :: u50 :: u51 :: u52 :: u53 :: u54 :: u55 :: u56 :: u57 :: u58 :: u59 :: u60 :: u61 :: u62 :: u63 :: u64 :: u65 :: u66 :: u67 :: u68 :: u69 :: u70 :: []).toArray, []⟩ w := by
  have HEX := Lib.hid hexit
  have HC := Lib.hid hc
  have hw := IntWalk.i64_in ((n : Int) + 1) (by omega)
  obtain ⟨NE, hNE⟩ : ∃ x, x = nodesOf nd lf inn fl bl ((n + 1 : Nat) : Int) := ⟨_, rfl⟩
  rw [← hNE] at HEX
  have HNE := Lib.hid hNE
  have S0 : Bc p nd lf inn fl bl (.slice A n c) w.drew := hb
  clear hexit hc hNE hb
  conv => arg 2; whnf
  refine wp_region_V (Bc p nd lf inn fl bl (.slice A n c)) (by kernel_rfl) ?_
  refine wpV_take (i := 0) (v := ?_) rfl (by kernel_rfl) (by kernel_rfl) (by kernel_rfl) (by first | exact fun _ _ _ h => h | exact fun c a w h => HQP.out c _ a w h) S0 (Or.inl ⟨by kernel_rfl, ?_⟩) ?_
  rotate_left
  · intro w hSw
    go_simp
    try with_reducible rfl
  try simp only [Act.put, List.setIfInBounds_toArray, List.set_cons_zero, List.set_cons_succ]
  refine wpV_take (i := 1) (v := ?_) rfl (by kernel_rfl) (by kernel_rfl) (by kernel_rfl) (by first | exact fun _ _ _ h => h | exact fun c a w h => HQP.out c _ a w h) S0 (Or.inl ⟨by kernel_rfl, ?_⟩) ?_
  rotate_left
  · intro w hSw
    go_simp
    try with_reducible rfl
  try simp only [Act.put, List.setIfInBounds_toArray, List.set_cons_zero, List.set_cons_succ]
  refine wpV_take (i := 2) (v := ?_) rfl (by kernel_rfl) (by kernel_rfl) (by kernel_rfl) (by first | exact fun _ _ _ h => h | exact fun c a w h => HQP.out c _ a w h) S0 (Or.inl ⟨by kernel_rfl, ?_⟩) ?_
  rotate_left
  · intro w hSw
    go_simp
    try with_reducible rfl
  try simp only [Act.put, List.setIfInBounds_toArray, List.set_cons_zero, List.set_cons_succ]
  refine wpV_take (i := 4) (v := ?_) rfl (by kernel_rfl) (by kernel_rfl) (by kernel_rfl) (by first | exact fun _ _ _ h => h | exact fun c a w h => HQP.out c _ a w h) S0 (Or.inl ⟨by kernel_rfl, ?_⟩) ?_
  rotate_left
  · intro w hSw
    go_simp
    try with_reducible rfl
  try simp only [Act.put, List.setIfInBounds_toArray, List.set_cons_zero, List.set_cons_succ]
  refine wpV_take (i := 5) (v := ?_) rfl (by kernel_rfl) (by kernel_rfl) (by kernel_rfl) (by first | exact fun _ _ _ h => h | exact fun c a w h => HQP.out c _ a w h) S0 (Or.inl ⟨by kernel_rfl, ?_⟩) ?_
  rotate_left
  · intro w hSw
    go_simp
    try with_reducible rfl
  try simp only [Act.put, List.setIfInBounds_toArray, List.set_cons_zero, List.set_cons_succ]
  refine wpV_take (i := 6) (v := ?_) rfl (by kernel_rfl) (by kernel_rfl) (by kernel_rfl) (by first | exact fun _ _ _ h => h | exact fun c a w h => HQP.out c _ a w h) S0 (Or.inl ⟨by kernel_rfl, ?_⟩) ?_
  rotate_left
  · intro w hSw
    go_simp
    try with_reducible rfl
  try simp only [Act.put, List.setIfInBounds_toArray, List.set_cons_zero, List.set_cons_succ]
  refine wpV_take (i := 3) (v := ?_) rfl (by kernel_rfl) (by kernel_rfl) (by kernel_rfl) (by first | exact fun _ _ _ h => h | exact fun c a w h => HQP.out c _ a w h) S0 (Or.inl ⟨by kernel_rfl, ?_⟩) ?_
  rotate_left
  · intro w hSw
    obtain ⟨s0, s1, s2, s3, s4, s5⟩ := hSw
    go_simp
    try with_reducible rfl
  try simp only [Act.put, List.setIfInBounds_toArray, List.set_cons_zero, List.set_cons_succ]
  refine wpV_take (i := 7) (v := ?_) rfl (by kernel_rfl) (by kernel_rfl) (by kernel_rfl) (by first | exact fun _ _ _ h => h | exact fun c a w h => HQP.out c _ a w h) S0 (Or.inl ⟨by kernel_rfl, ?_⟩) ?_
  rotate_left
  · intro w hSw
    obtain ⟨s0, s1, s2, s3, s4, s5⟩ := hSw
    go_simp
    try with_reducible rfl
  try simp only [Act.put, List.setIfInBounds_toArray, List.set_cons_zero, List.set_cons_succ]
  refine wpV_take (i := 8) (v := ?_) rfl (by kernel_rfl) (by kernel_rfl) (by kernel_rfl) (by first | exact fun _ _ _ h => h | exact fun c a w h => HQP.out c _ a w h) S0 (Or.inl ⟨by kernel_rfl, ?_⟩) ?_
  rotate_left
  · intro w hSw
    go_simp
    try with_reducible rfl
  try simp only [Act.put, List.setIfInBounds_toArray, List.set_cons_zero, List.set_cons_succ]
  refine wpV_take (i := 9) (v := ?_) rfl (by kernel_rfl) (by kernel_rfl) (by kernel_rfl) (by first | exact fun _ _ _ h => h | exact fun c a w h => HQP.out c _ a w h) S0 (Or.inl ⟨by kernel_rfl, ?_⟩) ?_
  rotate_left
  · intro w hSw
    go_simp
    try with_reducible rfl
  try simp only [Act.put, List.setIfInBounds_toArray, List.set_cons_zero, List.set_cons_succ]
  refine wpV_one (i := 10) (by kernel_rfl) rfl (fun K hK => ?_)
  go_simp
  refine (nodes_ok nd lf inn fl bl ((n : Int) + 1) _ HC.out (by omega) (by omega)).mono ?_; rintro e w5 ⟨rfl, hb5⟩; rw [show ((n : Int) + 1) = ((n + 1 : Nat) : Int) by omega, ← HNE.out]; unfold nodesV; have S5 := S0.below hb5
  refine hK.out _ _ S5 ?_
  clear hK K
  try simp only [Act.put, List.setIfInBounds_toArray, List.set_cons_zero, List.set_cons_succ]
  refine wpV_take (i := 11) (v := ?_) rfl (by kernel_rfl) (by kernel_rfl) (by kernel_rfl) (by first | exact fun _ _ _ h => h | exact fun c a w h => HQP.out c _ a w h) S5 (Or.inl ⟨by kernel_rfl, ?_⟩) ?_
  rotate_left
  · intro w hSw
    go_simp
    try with_reducible rfl
  try simp only [Act.put, List.setIfInBounds_toArray, List.set_cons_zero, List.set_cons_succ]
  refine wpV_take (i := 12) (v := ?_) rfl (by kernel_rfl) (by kernel_rfl) (by kernel_rfl) (by first | exact fun _ _ _ h => h | exact fun c a w h => HQP.out c _ a w h) S5 (Or.inl ⟨by kernel_rfl, ?_⟩) ?_
  rotate_left
  · intro w hSw
    go_simp
    try with_reducible rfl
  try simp only [Act.put, List.setIfInBounds_toArray, List.set_cons_zero, List.set_cons_succ]
  refine wpV_take (i := 13) (v := ?_) rfl (by kernel_rfl) (by kernel_rfl) (by kernel_rfl) (by first | exact fun _ _ _ h => h | exact fun c a w h => HQP.out c _ a w h) S5 (Or.inl ⟨by kernel_rfl, ?_⟩) ?_
  rotate_left
  · intro w hSw
    go_simp
    try with_reducible rfl
  try simp only [Act.put, List.setIfInBounds_toArray, List.set_cons_zero, List.set_cons_succ]
  refine wpV_take (i := 14) (v := ?_) rfl (by kernel_rfl) (by kernel_rfl) (by kernel_rfl) (by first | exact fun _ _ _ h => h | exact fun c a w h => HQP.out c _ a w h) S5 (Or.inl ⟨by kernel_rfl, ?_⟩) ?_
  rotate_left
  · intro w hSw
    go_simp
    try with_reducible rfl
  try simp only [Act.put, List.setIfInBounds_toArray, List.set_cons_zero, List.set_cons_succ]
  refine wpV_take (i := 15) (v := ?_) rfl (by kernel_rfl) (by kernel_rfl) (by kernel_rfl) (by first | exact fun _ _ _ h => h | exact fun c a w h => HQP.out c _ a w h) S5 (Or.inl ⟨by kernel_rfl, ?_⟩) ?_
  rotate_left
  · intro w hSw
    go_simp
    try with_reducible rfl
  try simp only [Act.put, List.setIfInBounds_toArray, List.set_cons_zero, List.set_cons_succ]
  refine wpV_done (by kernel_rfl) ?_ _
  exact HEX.out _ _ _ _ _ _ _ _ _ _ _ _ _ _ _ _ ((Below.refl _ _).drew.trans hb5)
noncomputable def rnodesC : Code := codeOr (Try.f19.body.bind (regionAt 6))
set_option maxRecDepth 100000 in
set_option maxHeartbeats 4000000 in
theorem rnodes (p : Nat) (nd lf inn fl bl : Int) (A : Option Addr) (n c : Nat) (w : World) {u1 u2 u3 u4 u5 u6 u7 u8 u9 u10 u11 u12 u13 u14 u15 u16 u17 u18 u19 u20 u21 u22 u23 u24 u25 u26 u27 u28 u29 u30 u31 u32 u33 u34 u35 u36 u37 u38 u39 u40 u41 u42 u43 u44 u45 u46 u47 u48 u49 u50 u51 u52 u53 u54 u55 u56 u57 u58 u59 u60 u61 u62 : Value} (Q : Exit → Act → World → Prop) (HQP : Hid (∀ c t (a : Act) w, Q (.panic c) ⟨t, a.defers⟩ w → Q (.panic c) a w))
    (hc : cfgOk nd lf inn fl bl) (hn : n ≤ 1152921504606) (hb : Bc p nd lf inn fl bl (.slice A n c) w)
    (hexit : ∀ (v36 v37 v38 v39 v40 v41 v42 v43 v44 v45 v46 v47 v48 v49 : Value) (w' : World), Below w.heap.size w w' → Q .normal ⟨(.pointer (some ⟨p, 0, none⟩) :: u1 :: u2 :: u3 :: u4 :: .int .i64 (nodesOf nd lf inn fl bl ((n + 1 : Nat) : Int)).2 :: u6 :: u7 :: u8 :: u9 :: u10 :: u11 :: u12 :: u13 :: u14 :: u15 :: u16 :: u17 :: u18 :: u19 :: u20 :: u21 :: u22 :: u23 :: u24 :: u25 :: u26 :: u27 :: u28 :: u29 :: u30 :: u31 :: u32 :: u33 :: u34 :: u35 :: v36 :: v37 :: v38 :: v39 :: v40 :: v41 :: v42 :: v43 :: v44 :: v45 :: v46 :: v47 :: v48 :: v49 :: u50 :: u51 :: u52 :: u53 :: u54 :: u55 :: u56 :: u57 :: u58 :: u59 :: u60 :: u61 :: u62 :: []).toArray, []⟩ w') :
    Code.wp Try.prog rnodesC Q ⟨(.pointer (some ⟨p, 0, none⟩) :: u1 :: u2 :: u3 :: u4 :: u5 :: u6 :: u7 :: u8 :: u9 :: u10 :: u11 :: u12 :: u13 :: u14 :: u15 :: u16 :: u17 :: u18 :: u19 :: u20 :: u21 :: u22 :: u23 :: u24 :: u25 :: u26 :: u27 :: u28 :: u29 :: u30 :: u31 :: u32 :: u33 :: u34 :: u35 :: u36 :: u37 :: u38 :: u39 :: u40 :: u41 :: u42 :: u43 :: u44 :: u45 :: u46 :: u47 :: u48 :: u49 :: u50 :: u51 :: u52 :: u53 :: u54 :: u55 :: u56 :: u57 :: u58 :: u59 :: u60 :: u61 :: u62 :: []).toArray, []⟩ w := by
  have HEX := Lib.hid hexit
  have HC := Lib.hid hc
  have hw := IntWalk.i64_in ((n : Int) + 1) (by omega)
  obtain ⟨NE, hNE⟩ : ∃ x, x = nodesOf nd lf inn fl bl ((n + 1 : Nat) : Int) := ⟨_, rfl⟩
  rw [← hNE] at HEX
  have HNE := Lib.hid hNE
  have S0 : Bc p nd lf inn fl bl (.slice A n c) w.drew := hb
  clear hexit hc hNE hb
  conv => arg 2; whnf
  refine wp_region_V (Bc p nd lf inn fl bl (.slice A n c)) (by kernel_rfl) ?_
  refine wpV_take (i := 0) (v := ?_) rfl (by kernel_rfl) (by kernel_rfl) (by kernel_rfl) (by first | exact fun _ _ _ h => h | exact fun c a w h => HQP.out c _ a w h) S0 (Or.inl ⟨by kernel_rfl, ?_⟩) ?_
  rotate_left
  · intro w hSw
    go_simp
    try with_reducible rfl
  try simp only [Act.put, List.setIfInBounds_toArray, List.set_cons_zero, List.set_cons_succ]
  refine wpV_take (i := 1) (v := ?_) rfl (by kernel_rfl) (by kernel_rfl) (by kernel_rfl) (by first | exact fun _ _ _ h => h | exact fun c a w h => HQP.out c _ a w h) S0 (Or.inl ⟨by kernel_rfl, ?_⟩) ?_
  rotate_left
  · intro w hSw
    go_simp
    try with_reducible rfl
  try simp only [Act.put, List.setIfInBounds_toArray, List.set_cons_zero, List.set_cons_succ]
  refine wpV_take (i := 2) (v := ?_) rfl (by kernel_rfl) (by kernel_rfl) (by kernel_rfl) (by first | exact fun _ _ _ h => h | exact fun c a w h => HQP.out c _ a w h) S0 (Or.inl ⟨by kernel_rfl, ?_⟩) ?_
  rotate_left
  · intro w hSw
    go_simp
    try with_reducible rfl
  try simp only [Act.put, List.setIfInBounds_toArray, List.set_cons_zero, List.set_cons_succ]
  refine wpV_take (i := 4) (v := ?_) rfl (by kernel_rfl) (by kernel_rfl) (by kernel_rfl) (by first | exact fun _ _ _ h => h | exact fun c a w h => HQP.out c _ a w h) S0 (Or.inl ⟨by kernel_rfl, ?_⟩) ?_
  rotate_left
  · intro w hSw
    go_simp
    try with_reducible rfl
  try simp only [Act.put, List.setIfInBounds_toArray, List.set_cons_zero, List.set_cons_succ]
  refine wpV_take (i := 5) (v := ?_) rfl (by kernel_rfl) (by kernel_rfl) (by kernel_rfl) (by first | exact fun _ _ _ h => h | exact fun c a w h => HQP.out c _ a w h) S0 (Or.inl ⟨by kernel_rfl, ?_⟩) ?_
  rotate_left
  · intro w hSw
    go_simp
    try with_reducible rfl
  try simp only [Act.put, List.setIfInBounds_toArray, List.set_cons_zero, List.set_cons_succ]
  refine wpV_take (i := 6) (v := ?_) rfl (by kernel_rfl) (by kernel_rfl) (by kernel_rfl) (by first | exact fun _ _ _ h => h | exact fun c a w h => HQP.out c _ a w h) S0 (Or.inl ⟨by kernel_rfl, ?_⟩) ?_
  rotate_left
  · intro w hSw
    go_simp
    try with_reducible rfl
  try simp only [Act.put, List.setIfInBounds_toArray, List.set_cons_zero, List.set_cons_succ]
  refine wpV_take (i := 3) (v := ?_) rfl (by kernel_rfl) (by kernel_rfl) (by kernel_rfl) (by first | exact fun _ _ _ h => h | exact fun c a w h => HQP.out c _ a w h) S0 (Or.inl ⟨by kernel_rfl, ?_⟩) ?_
  rotate_left
  · intro w hSw
    obtain ⟨s0, s1, s2, s3, s4, s5⟩ := hSw
    go_simp
    try with_reducible rfl
  try simp only [Act.put, List.setIfInBounds_toArray, List.set_cons_zero, List.set_cons_succ]
  refine wpV_take (i := 7) (v := ?_) rfl (by kernel_rfl) (by kernel_rfl) (by kernel_rfl) (by first | exact fun _ _ _ h => h | exact fun c a w h => HQP.out c _ a w h) S0 (Or.inl ⟨by kernel_rfl, ?_⟩) ?_
  rotate_left
  · intro w hSw
    obtain ⟨s0, s1, s2, s3, s4, s5⟩ := hSw
    go_simp
    try with_reducible rfl
  try simp only [Act.put, List.setIfInBounds_toArray, List.set_cons_zero, List.set_cons_succ]
  refine wpV_take (i := 8) (v := ?_) rfl (by kernel_rfl) (by kernel_rfl) (by kernel_rfl) (by first | exact fun _ _ _ h => h | exact fun c a w h => HQP.out c _ a w h) S0 (Or.inl ⟨by kernel_rfl, ?_⟩) ?_
  rotate_left
  · intro w hSw
    go_simp
    try with_reducible rfl
  try simp only [Act.put, List.setIfInBounds_toArray, List.set_cons_zero, List.set_cons_succ]
  refine wpV_take (i := 9) (v := ?_) rfl (by kernel_rfl) (by kernel_rfl) (by kernel_rfl) (by first | exact fun _ _ _ h => h | exact fun c a w h => HQP.out c _ a w h) S0 (Or.inl ⟨by kernel_rfl, ?_⟩) ?_
  rotate_left
  · intro w hSw
    go_simp
    try with_reducible rfl
  try simp only [Act.put, List.setIfInBounds_toArray, List.set_cons_zero, List.set_cons_succ]
  refine wpV_one (i := 10) (by kernel_rfl) rfl (fun K hK => ?_)
  go_simp
  refine (rnodes_ok nd lf inn fl bl ((n : Int) + 1) _ HC.out (by omega) (by omega)).mono ?_; rintro e w5 ⟨rfl, hb5⟩; rw [show ((n : Int) + 1) = ((n + 1 : Nat) : Int) by omega, ← HNE.out]; unfold nodesV; have S5 := S0.below hb5
  refine hK.out _ _ S5 ?_
  clear hK K
  try simp only [Act.put, List.setIfInBounds_toArray, List.set_cons_zero, List.set_cons_succ]
  refine wpV_take (i := 11) (v := ?_) rfl (by kernel_rfl) (by kernel_rfl) (by kernel_rfl) (by first | exact fun _ _ _ h => h | exact fun c a w h => HQP.out c _ a w h) S5 (Or.inl ⟨by kernel_rfl, ?_⟩) ?_
  rotate_left
  · intro w hSw
    go_simp
    try with_reducible rfl
  try simp only [Act.put, List.setIfInBounds_toArray, List.set_cons_zero, List.set_cons_succ]
  refine wpV_take (i := 12) (v := ?_) rfl (by kernel_rfl) (by kernel_rfl) (by kernel_rfl) (by first | exact fun _ _ _ h => h | exact fun c a w h => HQP.out c _ a w h) S5 (Or.inl ⟨by kernel_rfl, ?_⟩) ?_
  rotate_left
  · intro w hSw
    go_simp
    try with_reducible rfl
  try simp only [Act.put, List.setIfInBounds_toArray, List.set_cons_zero, List.set_cons_succ]
  refine wpV_take (i := 13) (v := ?_) rfl (by kernel_rfl) (by kernel_rfl) (by kernel_rfl) (by first | exact fun _ _ _ h => h | exact fun c a w h => HQP.out c _ a w h) S5 (Or.inl ⟨by kernel_rfl, ?_⟩) ?_
  rotate_left
  · intro w hSw
    go_simp
    try with_reducible rfl
  try simp only [Act.put, List.setIfInBounds_toArray, List.set_cons_zero, List.set_cons_succ]
  refine wpV_take (i := 14) (v := ?_) rfl (by kernel_rfl) (by kernel_rfl) (by kernel_rfl) (by first | exact fun _ _ _ h => h | exact fun c a w h => HQP.out c _ a w h) S5 (Or.inl ⟨by kernel_rfl, ?_⟩) ?_
  rotate_left
  · intro w hSw
    go_simp
    try with_reducible rfl
  try simp only [Act.put, List.setIfInBounds_toArray, List.set_cons_zero, List.set_cons_succ]
  refine wpV_done (by kernel_rfl) ?_ _
  exact HEX.out _ _ _ _ _ _ _ _ _ _ _ _ _ _ _ ((Below.refl _ _).drew.trans hb5)

noncomputable def cloneC : Code := codeOr (Try.f16.body.bind (regionAt 9))
set_option maxRecDepth 100000 in
set_option maxHeartbeats 4000000 in
theorem add_put (p q : Nat) (T : TypeId) (A : Option Addr) (n c : Nat) (us : List Value) (Ak Av : Option Addr) (nk ck nv cv : Nat) (D : Nat → Prop) (e : Ent) (v0 v1 v2 v3 v4 : Value) (w : World) {u1 u2 u4 u5 u6 u7 u8 u9 u10 u11 u12 u13 u14 u15 u16 u17 u18 u19 u20 u21 u22 u23 u24 u25 u26 u27 u28 u29 u30 u31 u32 u33 u34 u35 u36 u37 u38 u39 u40 u41 u42 u43 u44 u45 u46 u47 u48 u49 u50 u51 u52 u53 u54 u55 u56 u57 u58 u59 u60 u61 u62 u63 u64 u65 u66 u67 u68 u69 u70 : Value} (Q : Exit → Act → World → Prop) (HQP : Hid (∀ c t (a : Act) w, Q (.panic c) ⟨t, a.defers⟩ w → Q (.panic c) a w))
    (HB : Hid (Blk w p T #[v0, v1, v2, v3, v4, .slice A n c])) (HO : Hid (w.ownsRow 0 43 2 (.slice A n c) n us)) (hT : (Value.slice A n c).ownBlock ≠ some p) (hn : n ≤ 1152921504606)
    (c1 : w.cell? ⟨q, 0, none⟩ = some (.slice Ak nk ck)) (c2 : w.cell? ⟨q, 1, none⟩ = some (.slice Av nv cv)) (hqo : (Value.slice A n c).ownBlock ≠ some q)
    (HK : Hid (Bt w D Ak nk ck e.1)) (HV : Hid (Bt w D Av nv cv e.2)) (l1 : e.1.length ≤ 1152921504606) (l2 : e.2.length ≤ 1152921504606)
    (hexit : ∀ (v55 v56 v57 v58 v59 v60 v61 v62 v63 v64 v65 v66 v67 v68 v69 v70 : Value) (u v x : Value) (wa w2 : World), Below w.heap.size w wa → w2.ownsRow 0 43 2 x (n + 1) (us ++ [u, v]) → wa.grownBy w2 (Value.slice A n c).ownBlock → (x.ownBlock = (Value.slice A n c).ownBlock ∨ x.ownBlock = some wa.heap.size) → SB wa (From w.heap.size) u e.1 → SB wa (From w.heap.size) v e.2 → Q .normal ⟨(.pointer (some ⟨p, 0, none⟩) :: u1 :: u2 :: .pointer (some ⟨q, 0, none⟩) :: u4 :: u5 :: u6 :: u7 :: u8 :: u9 :: u10 :: u11 :: u12 :: u13 :: u14 :: u15 :: u16 :: u17 :: u18 :: u19 :: u20 :: u21 :: u22 :: u23 :: u24 :: u25 :: u26 :: u27 :: u28 :: u29 :: u30 :: u31 :: u32 :: u33 :: u34 :: u35 :: u36 :: u37 :: u38 :: u39 :: u40 :: u41 :: u42 :: u43 :: u44 :: u45 :: u46 :: u47 :: u48 :: u49 :: u50 :: u51 :: u52 :: u53 :: u54 :: v55 :: v56 :: v57 :: v58 :: v59 :: v60 :: v61 :: v62 :: v63 :: v64 :: v65 :: v66 :: v67 :: v68 :: v69 :: v70 :: []).toArray, []⟩ (w2.setCell ⟨p, 5, none⟩ x)) :
    Code.wp Try.prog cloneC Q ⟨(.pointer (some ⟨p, 0, none⟩) :: u1 :: u2 :: .pointer (some ⟨q, 0, none⟩) :: u4 :: u5 :: u6 :: u7 :: u8 :: u9 :: u10 :: u11 :: u12 :: u13 :: u14 :: u15 :: u16 :: u17 :: u18 :: u19 :: u20 :: u21 :: u22 :: u23 :: u24 :: u25 :: u26 :: u27 :: u28 :: u29 :: u30 :: u31 :: u32 :: u33 :: u34 :: u35 :: u36 :: u37 :: u38 :: u39 :: u40 :: u41 :: u42 :: u43 :: u44 :: u45 :: u46 :: u47 :: u48 :: u49 :: u50 :: u51 :: u52 :: u53 :: u54 :: u55 :: u56 :: u57 :: u58 :: u59 :: u60 :: u61 :: u62 :: u63 :: u64 :: u65 :: u66 :: u67 :: u68 :: u69 :: u70 :: []).toArray, []⟩ w := by
  obtain ⟨i0, hi0, iz0, iz1, iz2⟩ := info_parts entry_info
  have HEX := Lib.hid hexit
  have hpl := HB.out.lt
  have lk : nk ≤ 1152921504606 := by have := HK.out.len; omega
  have lv : nv ≤ 1152921504606 := by have := HV.out.len; omega
  have S0 : w.drew.cell? ⟨p, 5, none⟩ = some (.slice A n c) ∧ w.drew.cell? ⟨q, 0, none⟩ = some (.slice Ak nk ck) ∧ w.drew.cell? ⟨q, 1, none⟩ = some (.slice Av nv cv) := ⟨(HB.out.cell 5).trans rfl, c1, c2⟩
  clear hexit l1 l2
  conv => arg 2; whnf
  refine wp_region_U (fun w' => w'.cell? ⟨p, 5, none⟩ = some (.slice A n c) ∧ w'.cell? ⟨q, 0, none⟩ = some (.slice Ak nk ck) ∧ w'.cell? ⟨q, 1, none⟩ = some (.slice Av nv cv)) 16 (by kernel_rfl) ?_
  refine wpU_free (i := 0) (v := ?_) rfl (by kernel_rfl) (by kernel_rfl) (by kernel_rfl) (by kernel_rfl) (by first | exact fun _ _ _ h => h | exact fun c a w h => HQP.out c _ a w h) (fun _ => S0) (Or.inl ⟨by kernel_rfl, ?_⟩) ?_
  rotate_left
  · intro w hSw
    go_simp
    try with_reducible rfl
  try simp only [Act.put, List.setIfInBounds_toArray, List.set_cons_zero, List.set_cons_succ]
  refine wpU_free (i := 1) (v := ?_) rfl (by kernel_rfl) (by kernel_rfl) (by kernel_rfl) (by kernel_rfl) (by first | exact fun _ _ _ h => h | exact fun c a w h => HQP.out c _ a w h) (fun _ => S0) (Or.inl ⟨by kernel_rfl, ?_⟩) ?_
  rotate_left
  · intro w hSw
    go_simp
    try with_reducible rfl
  try simp only [Act.put, List.setIfInBounds_toArray, List.set_cons_zero, List.set_cons_succ]
  refine wpU_free (i := 2) (v := ?_) rfl (by kernel_rfl) (by kernel_rfl) (by kernel_rfl) (by kernel_rfl) (by first | exact fun _ _ _ h => h | exact fun c a w h => HQP.out c _ a w h) (fun _ => S0) (Or.inl ⟨by kernel_rfl, ?_⟩) ?_
  rotate_left
  · intro w hSw
    go_simp
    try with_reducible rfl
  try simp only [Act.put, List.setIfInBounds_toArray, List.set_cons_zero, List.set_cons_succ]
  refine wpU_free (i := 3) (v := ?_) rfl (by kernel_rfl) (by kernel_rfl) (by kernel_rfl) (by kernel_rfl) (by first | exact fun _ _ _ h => h | exact fun c a w h => HQP.out c _ a w h) (fun _ => S0) (Or.inl ⟨by kernel_rfl, ?_⟩) ?_
  rotate_left
  · intro w hSw
    go_simp
    try with_reducible rfl
  try simp only [Act.put, List.setIfInBounds_toArray, List.set_cons_zero, List.set_cons_succ]
  refine wpU_free (i := 5) (v := ?_) rfl (by kernel_rfl) (by kernel_rfl) (by kernel_rfl) (by kernel_rfl) (by first | exact fun _ _ _ h => h | exact fun c a w h => HQP.out c _ a w h) (fun _ => S0) (Or.inl ⟨by kernel_rfl, ?_⟩) ?_
  rotate_left
  · intro w hSw
    go_simp
    try with_reducible rfl
  try simp only [Act.put, List.setIfInBounds_toArray, List.set_cons_zero, List.set_cons_succ]
  refine wpU_free (i := 8) (v := ?_) rfl (by kernel_rfl) (by kernel_rfl) (by kernel_rfl) (by kernel_rfl) (by first | exact fun _ _ _ h => h | exact fun c a w h => HQP.out c _ a w h) (fun _ => S0) (Or.inl ⟨by kernel_rfl, ?_⟩) ?_
  rotate_left
  · intro w hSw
    go_simp
    try with_reducible rfl
  try simp only [Act.put, List.setIfInBounds_toArray, List.set_cons_zero, List.set_cons_succ]
  refine wpU_take (i := 4) (v := ?_) rfl (by kernel_rfl) (by kernel_rfl) (by kernel_rfl) (by kernel_rfl) (by first | exact fun _ _ _ h => h | exact fun c a w h => HQP.out c _ a w h) S0 (Or.inl ⟨by kernel_rfl, ?_⟩) ?_
  rotate_left
  · intro w hSw
    obtain ⟨s0, s1, s2⟩ := hSw
    go_simp
    try with_reducible rfl
  try simp only [Act.put, List.setIfInBounds_toArray, List.set_cons_zero, List.set_cons_succ]
  refine wpU_take (i := 6) (v := ?_) rfl (by kernel_rfl) (by kernel_rfl) (by kernel_rfl) (by kernel_rfl) (by first | exact fun _ _ _ h => h | exact fun c a w h => HQP.out c _ a w h) S0 (Or.inl ⟨by kernel_rfl, ?_⟩) ?_
  rotate_left
  · intro w hSw
    obtain ⟨s0, s1, s2⟩ := hSw
    go_simp
    try with_reducible rfl
  try simp only [Act.put, List.setIfInBounds_toArray, List.set_cons_zero, List.set_cons_succ]
  refine wpU_take (i := 9) (v := ?_) rfl (by kernel_rfl) (by kernel_rfl) (by kernel_rfl) (by kernel_rfl) (by first | exact fun _ _ _ h => h | exact fun c a w h => HQP.out c _ a w h) S0 (Or.inl ⟨by kernel_rfl, ?_⟩) ?_
  rotate_left
  · intro w hSw
    obtain ⟨s0, s1, s2⟩ := hSw
    go_simp
    try with_reducible rfl
  try simp only [Act.put, List.setIfInBounds_toArray, List.set_cons_zero, List.set_cons_succ]
  refine wpU_one (i := 7) (by kernel_rfl) rfl (fun K hK => ?_)
  go_simp
  refine (clone_any Ak nk ck D e.1 _ HK.out.2.2.2.drew HK.out.len lk).mono ?_; rintro e' w1 ⟨A1, n1, d1, rfl, p1, p2, p3, p4, hb1⟩; have HX1 := Lib.hid (show SB w1 (From w.heap.size) (.slice A1 n1 d1) e.1 from ⟨_, _, _, rfl, p1, p2, p3, p4.weak (fun b hb => hb.1)⟩); have HB1 : Hid (Below w.heap.size w w1) := Lib.hid ((Below.refl _ _).drew.trans hb1); have S1 : w1.cell? ⟨p, 5, none⟩ = some (.slice A n c) ∧ w1.cell? ⟨q, 0, none⟩ = some (.slice Ak nk ck) ∧ w1.cell? ⟨q, 1, none⟩ = some (.slice Av nv cv) := ⟨bkeep hb1 S0.1, bkeep hb1 S0.2.1, bkeep hb1 S0.2.2⟩; clear p1 p2 p3 p4 hb1
  refine hK.out _ _ (fun _ => S1) ?_
  clear hK K
  try simp only [Act.put, List.setIfInBounds_toArray, List.set_cons_zero, List.set_cons_succ]
  refine wpU_one (i := 10) (by kernel_rfl) rfl (fun K hK => ?_)
  go_simp
  refine (clone_any Av nv cv D e.2 _ ((HV.out.below HB1.out).2.2.2) HV.out.len lv).mono ?_; rintro e' w2 ⟨A2, n2, d2, rfl, p1, p2, p3, p4, hb2⟩; have hz1 := HB1.out.size; have HX2 := Lib.hid (show SB w2 (From w.heap.size) (.slice A2 n2 d2) e.2 from ⟨_, _, _, rfl, p1, p2, p3, p4.weak (fun b hb => Nat.le_trans hz1 hb.1)⟩); have HB2 : Hid (Below w.heap.size w w2) := Lib.hid (HB1.out.trans (hb2.mono hz1)); have HY1 := Lib.hid (HX1.out.below hb2); have S2 : w2.cell? ⟨p, 5, none⟩ = some (.slice A n c) ∧ w2.cell? ⟨q, 0, none⟩ = some (.slice Ak nk ck) ∧ w2.cell? ⟨q, 1, none⟩ = some (.slice Av nv cv) := ⟨bkeep hb2 S1.1, bkeep hb2 S1.2.1, bkeep hb2 S1.2.2⟩; clear p1 p2 p3 p4 hb2
  refine hK.out _ _ (fun _ => S2) ?_
  clear hK K
  try simp only [Act.put, List.setIfInBounds_toArray, List.set_cons_zero, List.set_cons_succ]
  refine wpU_free (i := 11) (v := ?_) rfl (by kernel_rfl) (by kernel_rfl) (by kernel_rfl) (by kernel_rfl) (by first | exact fun _ _ _ h => h | exact fun c a w h => HQP.out c _ a w h) (fun _ => S2) (Or.inl ⟨by kernel_rfl, ?_⟩) ?_
  rotate_left
  · intro w hSw
    go_simp
    try with_reducible rfl
  try simp only [Act.put, List.setIfInBounds_toArray, List.set_cons_zero, List.set_cons_succ]
  refine wpU_one (i := 12) (by kernel_rfl) rfl (fun K hK => ?_)
  go_simp
  have hb3 : Below w2.heap.size w2 (w2.alloc (.cells #[.slice A1 n1 d1, .slice A2 n2 d2] 43)) := (Below.refl _ _).alloc (Nat.le_refl _) _; have HB3 : Hid (Below w.heap.size w (w2.alloc (.cells #[.slice A1 n1 d1, .slice A2 n2 d2] 43))) := Lib.hid (HB2.out.trans (hb3.mono HB2.out.size)); have HU := Lib.hid (HY1.out.below hb3); have HW := Lib.hid (HX2.out.below hb3); have S3 : (w2.alloc (.cells #[.slice A1 n1 d1, .slice A2 n2 d2] 43)).cell? ⟨p, 5, none⟩ = some (.slice A n c) ∧ (w2.alloc (.cells #[.slice A1 n1 d1, .slice A2 n2 d2] 43)).cell? ⟨q, 0, none⟩ = some (.slice Ak nk ck) ∧ (w2.alloc (.cells #[.slice A1 n1 d1, .slice A2 n2 d2] 43)).cell? ⟨q, 1, none⟩ = some (.slice Av nv cv) := ⟨bkeep hb3 S2.1, bkeep hb3 S2.2.1, bkeep hb3 S2.2.2⟩
  refine hK.out _ _ (fun _ => S3) ?_
  clear hK K
  try simp only [Act.put, List.setIfInBounds_toArray, List.set_cons_zero, List.set_cons_succ]
  refine wpU_one (i := 13) (by kernel_rfl) rfl (fun K hK => ?_)
  refine step_append_any _ rfl (.tmp 59) (.tmp 67) _ rfl 0 43 i0 _ 2 48 Try.underlying37 hi0 iz0 iz1 iz2 rfl (by omega) (.slice A n c) n us rfl (own_below HO.out HB3.out) (From w2.heap.size) (some ⟨w2.heap.size, 0, none⟩) 1 1 [.slice A1 n1 d1, .slice A2 n2 d2] rfl (Rd.two w2 _ _ _) (by intro u hu; simp at hu; rcases hu with hu | hu <;> subst hu <;> rfl) (by simp only [maxLen]; omega) (by omega) (by omega) ?_; intro x w4 hown4 hg4 hat4; obtain ⟨K4, kc4, hv4, _, _⟩ := own_val hown4; subst hv4; have HO4 := Lib.hid hown4; have HG4 := Lib.hid hg4; have HA4 := Lib.hid hat4; have hqf : w4.cell? ⟨p, 5, none⟩ = some (.slice A n c) := (Chg.of_grown hg4).cell hT S3.1; have hf4 : ∀ o, w4.frozen? ⟨p, o, none⟩ = false := ((HB.out.below HB3.out).chg (Chg.of_grown hg4) hT).frozen; have S4 : w4.cell? ⟨p, 5, none⟩ = some (.slice A n c) ∧ w4.cell? ⟨q, 0, none⟩ = some (.slice Ak nk ck) ∧ w4.cell? ⟨q, 1, none⟩ = some (.slice Av nv cv) := ⟨hqf, (Chg.of_grown hg4).cell hqo S3.2.1, (Chg.of_grown hg4).cell hqo S3.2.2⟩; clear hown4 hg4 hat4
  refine hK.out _ _ (fun _ => S4) ?_
  clear hK K
  try simp only [Act.put, List.setIfInBounds_toArray, List.set_cons_zero, List.set_cons_succ]
  refine wpU_free (i := 14) (v := ?_) rfl (by kernel_rfl) (by kernel_rfl) (by kernel_rfl) (by kernel_rfl) (by first | exact fun _ _ _ h => h | exact fun c a w h => HQP.out c _ a w h) (fun _ => S4) (Or.inl ⟨by kernel_rfl, ?_⟩) ?_
  rotate_left
  · intro w hSw
    go_simp
    try with_reducible rfl
  try simp only [Act.put, List.setIfInBounds_toArray, List.set_cons_zero, List.set_cons_succ]
  refine wpU_free (i := 15) (v := ?_) rfl (by kernel_rfl) (by kernel_rfl) (by kernel_rfl) (by kernel_rfl) (by first | exact fun _ _ _ h => h | exact fun c a w h => HQP.out c _ a w h) (fun _ => S4) (Or.inl ⟨by kernel_rfl, ?_⟩) ?_
  rotate_left
  · intro w hSw
    go_simp
    try with_reducible rfl
  try simp only [Act.put, List.setIfInBounds_toArray, List.set_cons_zero, List.set_cons_succ]
  refine wpU_one (i := 16) (by kernel_rfl) rfl (fun K hK => ?_)
  go_simp
  refine hK.out _ _ (fun h => absurd h (by decide)) ?_
  clear hK K
  try simp only [Act.put, List.setIfInBounds_toArray, List.set_cons_zero, List.set_cons_succ]
  refine wpU_done (by kernel_rfl) ?_ _
  exact HEX.out _ _ _ _ _ _ _ _ _ _ _ _ _ _ _ _ _ _ _ _ w4 HB3.out HO4.out HG4.out HA4.out HU.out HW.out
noncomputable def rcloneC : Code := codeOr (Try.f19.body.bind (regionAt 8))
set_option maxRecDepth 100000 in
set_option maxHeartbeats 4000000 in
theorem radd_put (p q : Nat) (T : TypeId) (A : Option Addr) (n c : Nat) (us : List Value) (Ak Av : Option Addr) (nk ck nv cv : Nat) (v0 v1 v2 v3 v4 : Value) (w : World) {u1 u2 u4 u5 u6 u7 u8 u9 u10 u11 u12 u13 u14 u15 u16 u17 u18 u19 u20 u21 u22 u23 u24 u25 u26 u27 u28 u29 u30 u31 u32 u33 u34 u35 u36 u37 u38 u39 u40 u41 u42 u43 u44 u45 u46 u47 u48 u49 u50 u51 u52 u53 u54 u55 u56 u57 u58 u59 u60 u61 u62 : Value} (Q : Exit → Act → World → Prop) (HQP : Hid (∀ c t (a : Act) w, Q (.panic c) ⟨t, a.defers⟩ w → Q (.panic c) a w))
    (HB : Hid (Blk w p T #[v0, v1, v2, v3, v4, .slice A n c])) (HO : Hid (w.ownsRow 0 43 2 (.slice A n c) n us)) (hT : (Value.slice A n c).ownBlock ≠ some p) (hn : n ≤ 1152921504606)
    (c1 : w.cell? ⟨q, 0, none⟩ = some (.slice Ak nk ck)) (c2 : w.cell? ⟨q, 1, none⟩ = some (.slice Av nv cv)) (hqo : (Value.slice A n c).ownBlock ≠ some q)
    (hexit : ∀ (v52 v53 v54 v55 v56 v57 v58 v59 v60 v61 : Value) (x : Value) (wa w2 : World), Below w.heap.size w wa → w2.ownsRow 0 43 2 x (n + 1) (us ++ [.slice Ak nk ck, .slice Av nv cv]) → wa.grownBy w2 (Value.slice A n c).ownBlock → (x.ownBlock = (Value.slice A n c).ownBlock ∨ x.ownBlock = some wa.heap.size) → Q .normal ⟨(.pointer (some ⟨p, 0, none⟩) :: u1 :: u2 :: .pointer (some ⟨q, 0, none⟩) :: u4 :: u5 :: u6 :: u7 :: u8 :: u9 :: u10 :: u11 :: u12 :: u13 :: u14 :: u15 :: u16 :: u17 :: u18 :: u19 :: u20 :: u21 :: u22 :: u23 :: u24 :: u25 :: u26 :: u27 :: u28 :: u29 :: u30 :: u31 :: u32 :: u33 :: u34 :: u35 :: u36 :: u37 :: u38 :: u39 :: u40 :: u41 :: u42 :: u43 :: u44 :: u45 :: u46 :: u47 :: u48 :: u49 :: u50 :: u51 :: v52 :: v53 :: v54 :: v55 :: v56 :: v57 :: v58 :: v59 :: v60 :: v61 :: u62 :: []).toArray, []⟩ (w2.setCell ⟨p, 5, none⟩ x)) :
    Code.wp Try.prog rcloneC Q ⟨(.pointer (some ⟨p, 0, none⟩) :: u1 :: u2 :: .pointer (some ⟨q, 0, none⟩) :: u4 :: u5 :: u6 :: u7 :: u8 :: u9 :: u10 :: u11 :: u12 :: u13 :: u14 :: u15 :: u16 :: u17 :: u18 :: u19 :: u20 :: u21 :: u22 :: u23 :: u24 :: u25 :: u26 :: u27 :: u28 :: u29 :: u30 :: u31 :: u32 :: u33 :: u34 :: u35 :: u36 :: u37 :: u38 :: u39 :: u40 :: u41 :: u42 :: u43 :: u44 :: u45 :: u46 :: u47 :: u48 :: u49 :: u50 :: u51 :: u52 :: u53 :: u54 :: u55 :: u56 :: u57 :: u58 :: u59 :: u60 :: u61 :: u62 :: []).toArray, []⟩ w := by
  obtain ⟨i0, hi0, iz0, iz1, iz2⟩ := info_parts entry_info
  have HEX := Lib.hid hexit
  have hpl := HB.out.lt
  have S0 : w.drew.cell? ⟨p, 5, none⟩ = some (.slice A n c) ∧ w.drew.cell? ⟨q, 0, none⟩ = some (.slice Ak nk ck) ∧ w.drew.cell? ⟨q, 1, none⟩ = some (.slice Av nv cv) := ⟨(HB.out.cell 5).trans rfl, c1, c2⟩
  clear hexit
  conv => arg 2; whnf
  refine wp_region_U (fun w' => w'.cell? ⟨p, 5, none⟩ = some (.slice A n c) ∧ w'.cell? ⟨q, 0, none⟩ = some (.slice Ak nk ck) ∧ w'.cell? ⟨q, 1, none⟩ = some (.slice Av nv cv)) 10 (by kernel_rfl) ?_
  refine wpU_free (i := 0) (v := ?_) rfl (by kernel_rfl) (by kernel_rfl) (by kernel_rfl) (by kernel_rfl) (by first | exact fun _ _ _ h => h | exact fun c a w h => HQP.out c _ a w h) (fun _ => S0) (Or.inl ⟨by kernel_rfl, ?_⟩) ?_
  rotate_left
  · intro w hSw
    go_simp
    try with_reducible rfl
  try simp only [Act.put, List.setIfInBounds_toArray, List.set_cons_zero, List.set_cons_succ]
  refine wpU_free (i := 1) (v := ?_) rfl (by kernel_rfl) (by kernel_rfl) (by kernel_rfl) (by kernel_rfl) (by first | exact fun _ _ _ h => h | exact fun c a w h => HQP.out c _ a w h) (fun _ => S0) (Or.inl ⟨by kernel_rfl, ?_⟩) ?_
  rotate_left
  · intro w hSw
    go_simp
    try with_reducible rfl
  try simp only [Act.put, List.setIfInBounds_toArray, List.set_cons_zero, List.set_cons_succ]
  refine wpU_free (i := 2) (v := ?_) rfl (by kernel_rfl) (by kernel_rfl) (by kernel_rfl) (by kernel_rfl) (by first | exact fun _ _ _ h => h | exact fun c a w h => HQP.out c _ a w h) (fun _ => S0) (Or.inl ⟨by kernel_rfl, ?_⟩) ?_
  rotate_left
  · intro w hSw
    go_simp
    try with_reducible rfl
  try simp only [Act.put, List.setIfInBounds_toArray, List.set_cons_zero, List.set_cons_succ]
  refine wpU_free (i := 3) (v := ?_) rfl (by kernel_rfl) (by kernel_rfl) (by kernel_rfl) (by kernel_rfl) (by first | exact fun _ _ _ h => h | exact fun c a w h => HQP.out c _ a w h) (fun _ => S0) (Or.inl ⟨by kernel_rfl, ?_⟩) ?_
  rotate_left
  · intro w hSw
    go_simp
    try with_reducible rfl
  try simp only [Act.put, List.setIfInBounds_toArray, List.set_cons_zero, List.set_cons_succ]
  refine wpU_take (i := 4) (v := ?_) rfl (by kernel_rfl) (by kernel_rfl) (by kernel_rfl) (by kernel_rfl) (by first | exact fun _ _ _ h => h | exact fun c a w h => HQP.out c _ a w h) S0 (Or.inl ⟨by kernel_rfl, ?_⟩) ?_
  rotate_left
  · intro w hSw
    obtain ⟨s0, s1, s2⟩ := hSw
    go_simp
    try with_reducible rfl
  try simp only [Act.put, List.setIfInBounds_toArray, List.set_cons_zero, List.set_cons_succ]
  refine wpU_take (i := 5) (v := ?_) rfl (by kernel_rfl) (by kernel_rfl) (by kernel_rfl) (by kernel_rfl) (by first | exact fun _ _ _ h => h | exact fun c a w h => HQP.out c _ a w h) S0 (Or.inl ⟨by kernel_rfl, ?_⟩) ?_
  rotate_left
  · intro w hSw
    obtain ⟨s0, s1, s2⟩ := hSw
    go_simp
    try with_reducible rfl
  try simp only [Act.put, List.setIfInBounds_toArray, List.set_cons_zero, List.set_cons_succ]
  refine wpU_one (i := 6) (by kernel_rfl) rfl (fun K hK => ?_)
  go_simp
  have hb3 : Below w.drew.heap.size w.drew (w.drew.alloc (.cells #[.slice Ak nk ck, .slice Av nv cv] 43)) := (Below.refl _ _).alloc (Nat.le_refl _) _; have HB3 : Hid (Below w.heap.size w (w.drew.alloc (.cells #[.slice Ak nk ck, .slice Av nv cv] 43))) := Lib.hid ((Below.refl _ _).drew.trans hb3); have S3 : (w.drew.alloc (.cells #[.slice Ak nk ck, .slice Av nv cv] 43)).cell? ⟨p, 5, none⟩ = some (.slice A n c) ∧ (w.drew.alloc (.cells #[.slice Ak nk ck, .slice Av nv cv] 43)).cell? ⟨q, 0, none⟩ = some (.slice Ak nk ck) ∧ (w.drew.alloc (.cells #[.slice Ak nk ck, .slice Av nv cv] 43)).cell? ⟨q, 1, none⟩ = some (.slice Av nv cv) := ⟨bkeep hb3 S0.1, bkeep hb3 S0.2.1, bkeep hb3 S0.2.2⟩
  refine hK.out _ _ (fun _ => S3) ?_
  clear hK K
  try simp only [Act.put, List.setIfInBounds_toArray, List.set_cons_zero, List.set_cons_succ]
  refine wpU_one (i := 7) (by kernel_rfl) rfl (fun K hK => ?_)
  refine step_append_any _ rfl (.tmp 56) (.tmp 58) _ rfl 0 43 i0 _ 2 48 Try.underlying37 hi0 iz0 iz1 iz2 rfl (by omega) (.slice A n c) n us rfl (own_below HO.out HB3.out) (From w.heap.size) (some ⟨w.heap.size, 0, none⟩) 1 1 [.slice Ak nk ck, .slice Av nv cv] rfl (Rd.two w.drew _ _ _) (by intro u hu; simp at hu; rcases hu with hu | hu <;> subst hu <;> rfl) (by simp only [maxLen]; omega) (by omega) (by omega) ?_; intro x w4 hown4 hg4 hat4; obtain ⟨K4, kc4, hv4, _, _⟩ := own_val hown4; subst hv4; have HO4 := Lib.hid hown4; have HG4 := Lib.hid hg4; have HA4 := Lib.hid hat4; have hqf : w4.cell? ⟨p, 5, none⟩ = some (.slice A n c) := (Chg.of_grown hg4).cell hT S3.1; have hf4 : ∀ o, w4.frozen? ⟨p, o, none⟩ = false := ((HB.out.below HB3.out).chg (Chg.of_grown hg4) hT).frozen; have S4 : w4.cell? ⟨p, 5, none⟩ = some (.slice A n c) ∧ w4.cell? ⟨q, 0, none⟩ = some (.slice Ak nk ck) ∧ w4.cell? ⟨q, 1, none⟩ = some (.slice Av nv cv) := ⟨hqf, (Chg.of_grown hg4).cell hqo S3.2.1, (Chg.of_grown hg4).cell hqo S3.2.2⟩; clear hown4 hg4 hat4
  refine hK.out _ _ (fun _ => S4) ?_
  clear hK K
  try simp only [Act.put, List.setIfInBounds_toArray, List.set_cons_zero, List.set_cons_succ]
  refine wpU_free (i := 8) (v := ?_) rfl (by kernel_rfl) (by kernel_rfl) (by kernel_rfl) (by kernel_rfl) (by first | exact fun _ _ _ h => h | exact fun c a w h => HQP.out c _ a w h) (fun _ => S4) (Or.inl ⟨by kernel_rfl, ?_⟩) ?_
  rotate_left
  · intro w hSw
    go_simp
    try with_reducible rfl
  try simp only [Act.put, List.setIfInBounds_toArray, List.set_cons_zero, List.set_cons_succ]
  refine wpU_free (i := 9) (v := ?_) rfl (by kernel_rfl) (by kernel_rfl) (by kernel_rfl) (by kernel_rfl) (by first | exact fun _ _ _ h => h | exact fun c a w h => HQP.out c _ a w h) (fun _ => S4) (Or.inl ⟨by kernel_rfl, ?_⟩) ?_
  rotate_left
  · intro w hSw
    go_simp
    try with_reducible rfl
  try simp only [Act.put, List.setIfInBounds_toArray, List.set_cons_zero, List.set_cons_succ]
  refine wpU_one (i := 10) (by kernel_rfl) rfl (fun K hK => ?_)
  go_simp
  refine hK.out _ _ (fun h => absurd h (by decide)) ?_
  clear hK K
  try simp only [Act.put, List.setIfInBounds_toArray, List.set_cons_zero, List.set_cons_succ]
  refine wpU_done (by kernel_rfl) ?_ _
  exact HEX.out _ _ _ _ _ _ _ _ _ _ _ _ w4 HB3.out HO4.out HG4.out HA4.out
end Go.Proofs.Ytgjphmlmndcaeaa
