/- WALKS: two arenas that hold the same are found the same: slot by slot. WALKS: two arenas that hold the same are found the same. WALKS: the statement PackBuilds, whatever the entries (short enough). -/
import Derived.Test.YtgjphmlmndcaeaaPb19
import Derived.Test.YtgjphmlmndcaeaaPb20
import Derived.Test.YtgjphmlmndcaeaaPb18
set_option linter.unusedVariables false
set_option linter.unusedSimpArgs false
namespace Go.Proofs.Ytgjphmlmndcaeaa
open Go.RowKit

/-- what a slot's number answers: the slot, the error -/
def slotOr (sl : List Slt) (id : Int) : Slt × Int := if 1 ≤ id ∧ id ≤ sl.length then (sl.getD (id.toNat - 1) (0, Nd.zero), 0) else ((0, Nd.zero), 101)
theorem slotOr_in {sl : List Slt} {id : Int} (h1 : 1 ≤ id) (h2 : id ≤ sl.length) : ∃ s, sl[id.toNat - 1]? = some s ∧ slotOr sl id = (s, 0) := by
  have hl : id.toNat - 1 < sl.length := by omega
  refine ⟨sl[id.toNat - 1], List.getElem?_eq_getElem hl, ?_⟩
  rw [slotOr, if_pos ⟨h1, h2⟩, List.getD_eq_getElem?_getD, List.getElem?_eq_getElem hl]
  rfl
theorem slotOr_out {sl : List Slt} {id : Int} (h : id < 1 ∨ (sl.length : Int) < id) : slotOr sl id = ((0, Nd.zero), 101) := by
  rw [slotOr, if_neg (by omega)]
theorem slotOr_small {sl : List Slt} (h : ∀ s ∈ sl, Small s.2) (id : Int) : Small (slotOr sl id).1.2 := by
  by_cases hi : 1 ≤ id ∧ id ≤ (sl.length : Int)
  · obtain ⟨s, h1, h2⟩ := slotOr_in hi.1 hi.2
    rw [h2]
    exact h s (List.mem_of_getElem? h1)
  · rw [slotOr_out (by omega)]
    exact ⟨by simp [Nd.zero], by simp [Nd.zero], by simp [Nd.zero], by simp [Nd.zero], by simp [Nd.zero], by simp [Nd.zero]⟩

theorem word_or (F : Nat → Prop) (p : Nat) (nodes root : Int) (sl : List Slt) (id : Int) (w : World) (h : ArX w F p nodes sl root) (hn : sl.length ≤ 65536) (s : Slt) (x : Int) (hs : slotOr sl id = (s, x)) :
    Calls Try.prog 83 #[.pointer (some ⟨p, 0, none⟩), .int .i64 id] w fun e w' => e = .returned (.tuple #[.int .u64 s.1, .int .i64 x]) ∧ w = w' := by
  by_cases hi : 1 ≤ id ∧ id ≤ (sl.length : Int)
  · obtain ⟨s', h1, h2⟩ := slotOr_in hi.1 hi.2
    rw [h2] at hs; injection hs with e1 e2; subst e1; subst e2
    exact word_in F p nodes root sl id s' w h hi.1 hi.2 hn h1
  · rw [slotOr_out (by omega)] at hs; injection hs with e1 e2; subst e1; subst e2
    exact word_out F p nodes root sl id w h (by omega)
theorem rword_or (F : Nat → Prop) (p : Nat) (nodes root : Int) (sl : List Slt) (id : Int) (w : World) (h : ArR w F p nodes sl root) (hn : sl.length ≤ 65536) (s : Slt) (x : Int) (hs : slotOr sl id = (s, x)) :
    Calls Try.prog 84 #[.pointer (some ⟨p, 0, none⟩), .int .i64 id] w fun e w' => e = .returned (.tuple #[.int .u64 s.1, .int .i64 x]) ∧ w = w' := by
  by_cases hi : 1 ≤ id ∧ id ≤ (sl.length : Int)
  · obtain ⟨s', h1, h2⟩ := slotOr_in hi.1 hi.2
    rw [h2] at hs; injection hs with e1 e2; subst e1; subst e2
    exact rword_in F p nodes root sl id s' w h hi.1 hi.2 hn h1
  · rw [slotOr_out (by omega)] at hs; injection hs with e1 e2; subst e1; subst e2
    exact rword_out F p nodes root sl id w h (by omega)
theorem head_or (F : Nat → Prop) (p : Nat) (nodes root : Int) (sl : List Slt) (id : Int) (w : World) (h : ArX w F p nodes sl root) (hn : sl.length ≤ 65536) (hsm : ∀ s ∈ sl, Small s.2) (s : Slt) (x : Int) (hs : slotOr sl id = (s, x)) :
    Calls Try.prog 79 #[.pointer (some ⟨p, 0, none⟩), .int .i64 id] w (NewHeadS w s.2.lev s.2.high s.2.right x) := by
  by_cases hi : 1 ≤ id ∧ id ≤ (sl.length : Int)
  · obtain ⟨s', h1, h2⟩ := slotOr_in hi.1 hi.2
    rw [h2] at hs; injection hs with e1 e2; subst e1; subst e2
    exact head_in F p nodes root sl id s' w h hi.1 hi.2 hn h1 (hsm _ (List.mem_of_getElem? h1)).1
  · rw [slotOr_out (by omega)] at hs; injection hs with e1 e2; subst e1; subst e2
    exact head_out F p nodes root sl id w h (by omega)
theorem rhead_or (F : Nat → Prop) (p : Nat) (nodes root : Int) (sl : List Slt) (id : Int) (w : World) (h : ArR w F p nodes sl root) (hn : sl.length ≤ 65536) (hsm : ∀ s ∈ sl, Small s.2) (s : Slt) (x : Int) (hs : slotOr sl id = (s, x)) :
    Calls Try.prog 85 #[.pointer (some ⟨p, 0, none⟩), .int .i64 id] w (NewHead w s.2.lev s.2.high s.2.right x) := by
  by_cases hi : 1 ≤ id ∧ id ≤ (sl.length : Int)
  · obtain ⟨s', h1, h2⟩ := slotOr_in hi.1 hi.2
    rw [h2] at hs; injection hs with e1 e2; subst e1; subst e2
    exact rhead_in F p nodes root sl id s' w h hi.1 hi.2 hn h1 (hsm _ (List.mem_of_getElem? h1))
  · rw [slotOr_out (by omega)] at hs; injection hs with e1 e2; subst e1; subst e2
    exact rhead_out F p nodes root sl id w h (by omega)
theorem body_or (F : Nat → Prop) (p : Nat) (nodes root : Int) (sl : List Slt) (id : Int) (w : World) (h : ArX w F p nodes sl root) (hn : sl.length ≤ 65536) (hsm : ∀ s ∈ sl, Small s.2) (s : Slt) (x : Int) (hs : slotOr sl id = (s, x)) :
    Calls Try.prog 80 #[.pointer (some ⟨p, 0, none⟩), .int .i64 id] w (NewBodyS w s.2.keys s.2.vals s.2.kids x) := by
  by_cases hi : 1 ≤ id ∧ id ≤ (sl.length : Int)
  · obtain ⟨s', h1, h2⟩ := slotOr_in hi.1 hi.2
    rw [h2] at hs; injection hs with e1 e2; subst e1; subst e2
    exact body_in F p nodes root sl id s' w h hi.1 hi.2 hn h1 (hsm _ (List.mem_of_getElem? h1))
  · rw [slotOr_out (by omega)] at hs; injection hs with e1 e2; subst e1; subst e2
    exact body_out F p nodes root sl id w h (by omega)
theorem rbody_or (F : Nat → Prop) (p : Nat) (nodes root : Int) (sl : List Slt) (id : Int) (w : World) (h : ArR w F p nodes sl root) (hn : sl.length ≤ 65536) (hsm : ∀ s ∈ sl, Small s.2) (s : Slt) (x : Int) (hs : slotOr sl id = (s, x)) :
    Calls Try.prog 86 #[.pointer (some ⟨p, 0, none⟩), .int .i64 id] w (NewBody w s.2.keys s.2.vals s.2.kids x) := by
  by_cases hi : 1 ≤ id ∧ id ≤ (sl.length : Int)
  · obtain ⟨s', h1, h2⟩ := slotOr_in hi.1 hi.2
    rw [h2] at hs; injection hs with e1 e2; subst e1; subst e2
    exact rbody_in F p nodes root sl id s' w h hi.1 hi.2 hn h1 (hsm _ (List.mem_of_getElem? h1))
  · rw [slotOr_out (by omega)] at hs; injection hs with e1 e2; subst e1; subst e2
    exact rbody_out F p nodes root sl id w h (by omega)
/-- what of a body may be written over -/
theorem NewBodyS.cells {w w' : World} {keys : List (List UInt8)} {kids : List Int} {A C : Option Addr} {n c l k : Nat}
    (h : keys = [] ∧ n = 0 ∧ kids = [] ∧ l = 0 ∨ ∃ g hi, w.heap.size ≤ g ∧ TxS w' g hi A n c keys ∧ It w' (Soft (From hi) w') C l k kids) :
    ∃ g hi, w.heap.size ≤ g ∧ g < hi ∧ Rows w' g (fun b => g < b ∧ b < hi) A n ∧ Cells w' (From hi) IsI64 C l := by
  rcases h with ⟨rfl, rfl, rfl, rfl⟩ | ⟨g, hi, h1, h2, h3⟩
  · exact ⟨w.heap.size, w.heap.size + 1, Nat.le_refl _, by omega, Rows.none_ _ _ _ _, Cells.none_ _ _ _ _⟩
  · exact ⟨g, hi, h1, h2.2.2.2.2.1, Rows.of_texts h2, Cells.of_ints h3⟩

set_option maxRecDepth 100000 in
theorem node_alike (F G : Nat → Prop) (q p r : Nat) (nodes root : Int) (sl : List Slt) (id : Int) (w : World) (hq : Blk w q 75 #[.pointer (some ⟨p, 0, none⟩), .pointer (some ⟨r, 0, none⟩)]) (hx : ArX w F p nodes sl root) (hy : ArR w G r nodes sl root)
    (hn : sl.length ≤ 65536) (hsm : ∀ s ∈ sl, Small s.2) :
    Calls Try.prog 59 #[.pointer (some ⟨q, 0, none⟩), .int .i64 id] w fun e w' => e = .returned (.bool true) ∧ Below w.heap.size w w' := by
  obtain ⟨s, x, hs⟩ : ∃ s x, slotOr sl id = (s, x) := ⟨_, _, rfl⟩
  have HX := Lib.hid hx
  have HY := Lib.hid hy
  have HQ := Lib.hid hq
  have HM := Lib.hid hsm
  have HS := Lib.hid hs
  obtain ⟨l1, l2, l3, l4, _, _⟩ : Small s.2 := by have := slotOr_small hsm id; rw [hs] at this; exact this
  have c0 : w.cell? ⟨q, 0, none⟩ = some (.pointer (some ⟨p, 0, none⟩)) := by rw [hq.cell]; rfl
  have c1 : w.cell? ⟨q, 1, none⟩ = some (.pointer (some ⟨r, 0, none⟩)) := by rw [hq.cell]; rfl
  clear hx hy hq hsm hs
  go_enter Try.func59, Try.ntmps59
  go_wp2_with (first | (go_at_call 83; refine (word_or F p nodes root sl id _ HX.out hn s x HS.out).mono ?_; rintro e w' ⟨rfl, rfl⟩) | (go_at_call 84; refine (rword_or G r nodes root sl id _ HY.out hn s x HS.out).mono ?_; rintro e w' ⟨rfl, rfl⟩) | (go_at_call 79; refine (head_or F p nodes root sl id _ HX.out hn HM.out s x HS.out).mono ?_; rintro e w1 ⟨A1, n1, d1, rfl, r1, hb1⟩; have y0 := bkeep hb1 c0; have y1 := bkeep hb1 c1; have yl := cell_lt y0; have i1 : Below w.heap.size w (w1.alloc (.cells #[.int .i64 s.2.lev, .slice A1 n1 d1, .int .i64 s.2.right] 88)) := hb1.alloc hb1.size _) | (go_at_call 85; refine (rhead_or G r nodes root sl id _ (HY.out.below i1) hn HM.out s x HS.out).mono ?_; rintro e w2 ⟨A2, n2, d2, rfl, r2, hb2⟩; have M2 : Below w1.heap.size w1 w2 := ((Below.refl _ _).alloc (Nat.le_refl _) _).trans (hb2.mono (by simp)); have j2 := i1.trans (hb2.mono i1.size); have u0 := bkeep j2 c0; have u1 := bkeep j2 c1; have ul := cell_lt u0; have i2 : Below w.heap.size w (w2.alloc (.cells #[.int .i64 s.2.lev, .slice A2 n2 d2, .int .i64 s.2.right] 88)) := j2.alloc j2.size _) | (go_at_call 80; refine (body_or F p nodes root sl id _ (HX.out.below i2) hn HM.out s x HS.out).mono ?_; rintro e w3 ⟨A3, n3, d3, A4, n4, d4, A5, n5, d5, rfl, r3, r4, r5, r6, hb3⟩; have M3 : Below w2.heap.size w2 w3 := ((Below.refl _ _).alloc (Nat.le_refl _) _).trans (hb3.mono (by simp)); have j3 := i2.trans (hb3.mono i2.size); have v0 := bkeep j3 c0; have v1 := bkeep j3 c1; have vl := cell_lt v0; have i3 : Below w.heap.size w (w3.alloc (.cells #[.slice A3 n3 d3, .slice A4 n4 d4, .slice A5 n5 d5] 91)) := j3.alloc j3.size _) | (go_at_call 86; refine (rbody_or G r nodes root sl id _ (HY.out.below i3) hn HM.out s x HS.out).mono ?_; rintro e w4 ⟨B3, m3, e3, B4, m4, e4, B5, m5, e5, rfl, t3, t4, t5, hb4⟩; have M4 : Below w3.heap.size w3 w4 := ((Below.refl _ _).alloc (Nat.le_refl _) _).trans (hb4.mono (by simp)); have M5 : Below w4.heap.size w4 (w4.alloc (.cells #[.slice B3 m3 e3, .slice B4 m4 e4, .slice B5 m5 e5] 91)) := (Below.refl _ _).alloc (Nat.le_refl _) _; have j4 := i3.trans (hb4.mono i3.size); have i4 : Below w.heap.size w (w4.alloc (.cells #[.slice B3 m3 e3, .slice B4 m4 e4, .slice B5 m5 e5] 91)) := j4.alloc j4.size _; have k1 : Blk w4 w1.heap.size 88 #[.int .i64 s.2.lev, .slice A1 n1 d1, .int .i64 s.2.right] := ((((Blk.new w1 _ _).below hb2).alloc _).below hb3 |>.alloc _).below hb4; have k2 : Blk w4 w2.heap.size 88 #[.int .i64 s.2.lev, .slice A2 n2 d2, .int .i64 s.2.right] := (((Blk.new w2 _ _).below hb3).alloc _).below hb4; have k3 : Blk w4 w3.heap.size 91 #[.slice A3 n3 d3, .slice A4 n4 d4, .slice A5 n5 d5] := (Blk.new w3 _ _).below hb4; obtain ⟨a0, a1, a2, a3⟩ := blk3 k1; obtain ⟨b0, b1, b2, b3⟩ := blk3 k2; obtain ⟨f0, f1, f2, f3⟩ := blk3 k3; have g1 := k1.lt; have g2 := k2.lt; have g3 := k3.lt) | (go_at_call 87; refine (sameHead_eq _ _ A1 A2 n1 d1 n2 d2 s.2.high s.2.lev s.2.right _ ((((r1.below M2).below M3).below M4).below M5) (((r2.below M3).below M4).below M5)).mono ?_; rintro e w5 ⟨rfl, hb5⟩; have j5 := i4.trans (hb5.mono i4.size); have k3' := ((k3.alloc (.cells #[.slice B3 m3 e3, .slice B4 m4 e4, .slice B5 m5 e5] 91)).below hb5); have k4' := (Blk.new w4 91 #[.slice B3 m3 e3, .slice B4 m4 e4, .slice B5 m5 e5]).below hb5; obtain ⟨o0, o1, o2, o3⟩ := blk3 k3'; obtain ⟨p0, p1, p2, p3⟩ := blk3 k4') | (go_at_call 88; refine (sameBody_eq _ _ A3 A4 A5 B3 B4 B5 n3 d3 n4 d4 n5 d5 m3 e3 m4 e4 m5 e5 s.2.keys s.2.vals s.2.kids _ (((r4.below M4).below M5).below hb5) (((r5.below M4).below M5).below hb5) (((r6.below M4).below M5).below hb5) ((t3.below M5).below hb5) ((t4.below M5).below hb5) ((t5.below M5).below hb5) (by rw [r4.len]; exact l2) (by rw [r5.len]; exact l3) (by rw [r6.len]; exact l4)).mono ?_; rintro e w6 ⟨rfl, hb6⟩))
  have J6 := Lib.hid (j5.trans (hb6.mono j5.size))
  have s12 := M2.size
  have s23 := M3.size
  have s34 := M4.size
  have E1 := Lib.hid (((k1.alloc (.cells #[.slice B3 m3 e3, .slice B4 m4 e4, .slice B5 m5 e5] 91)).below hb5).below hb6)
  have E3 := Lib.hid (k3'.below hb6)
  have up6 : Below w1.heap.size w1 w6 := M2.trans ((M3.mono s12).trans ((M4.mono (Nat.le_trans s12 s23)).trans ((M5.mono (by omega)).trans ((hb5.mono (by simp; omega)).trans (hb6.mono (by have := hb5.size; simp at this; omega))))))
  have up63 : Below w3.heap.size w3 w6 := M4.trans ((M5.mono s34).trans ((hb5.mono (by simp; omega)).trans (hb6.mono (by have := hb5.size; simp at this; omega))))
  have C1 := Lib.hid ((Cells.of_bytes r1).lt.chg (S := Nil) (Chg.of_below up6) (fun _ _ hf => hf))
  obtain ⟨g, hi, hgw, hgh, R3, C3⟩ := NewBodyS.cells r3
  have hgl : 0 < n3 → g < w3.heap.size := fun h => let ⟨_, _, _, _, h1, _⟩ := R3.2 0 h; h1
  have R3' := Lib.hid (R3.lt.chg (S := Nil) (Chg.of_below up63) (fun hf => hf) (fun _ _ hf => hf))
  have C5 := Lib.hid (C3.lt.chg (S := Nil) (Chg.of_below up63) (fun _ _ hf => hf))
  have N1 : n1 ≤ maxLen := Nat.le_trans r1.1 r1.2.1
  have N3 : n3 ≤ maxLen := Nat.le_trans r4.1 r4.2.1
  have N5 : n5 ≤ maxLen := Nat.le_trans r6.1 r6.2.1
  simp only [maxLen] at N1 N3 N5
  have HW : w.heap.size ≤ w1.heap.size := hb1.size
  have hg2 : w2.heap.size + 1 ≤ g := by simpa using hgw
  have hs6 := up63.size
  clear hb1 hb2 hb3 hb4 hb5 hb6 i1 i2 i3 i4 j2 j3 j4 j5 M2 M3 M4 M5 k1 k2 k3 k3' k4' a0 a1 a2 a3 b0 b1 b2 b3 f0 f1 f2 f3 o0 o1 o2 o3 p0 p1 p2 p3 r1 r2 r3 r4 r5 r6 t3 t4 t5 R3 C3 up6 up63 hgw y0 y1 u0 u1 v0 v1 yl ul vl g1 g2 g3
  go_loopg [19] n1 (fun g i wr => ∃ (k : Nat), g = n1 - k ∧ k ≤ n1 ∧ i = .int .i64 k ∧ Chg (fun b => w.heap.size ≤ b ∧ b < w1.heap.size) w6 wr ∧ Cells wr (fun b => From w.heap.size b ∧ b < w1.heap.size) IsU8 A1 n1)
  case atStart => exact ⟨0, by omega, by omega, rfl, Chg.refl _ _, C1.out⟩
  case round =>
    obtain ⟨k, hg, hk, rfl, hch, hce⟩ := hrel
    have HG := Lib.hid hg
    have HC := Lib.hid hch
    have HE := Lib.hid hce
    obtain ⟨a0, a1, a2, a3⟩ := blk3 (E1.out.chg hch (fun h => by omega))
    clear hg hch hce
    by_cases hlt : k < n1
    · obtain ⟨b, o, u, rfl, hF, _, hsf, hcell, x, rfl⟩ := HE.out.2 k hlt
      have hf := hsf (o + k)
      go_wp2
      go_roundg (n1 - (k + 1))
      case measure => have := HG.out; omega
      case rel => exact ⟨k + 1, rfl, by omega, by go_num, HC.out.setCell (p := ⟨b, o + k, none⟩) (fun _ => hF) _, HE.out.put _ ⟨_, rfl⟩⟩
    · have z7 := HC.out.size
      have R7 := Lib.hid (R3'.out.chg HC.out (fun h => by omega) (fun b hb h => by omega))
      have C7 := Lib.hid (C5.out.chg HC.out (fun b hb h => by simp only [From] at hb; omega))
      have E7 := Lib.hid (E3.out.chg HC.out (fun h => by omega))
      clear HE
      go_wp2
      go_loopg [20] n3 (fun g' i wz => ∃ (k : Nat), g' = n3 - k ∧ k ≤ n3 ∧ i = .int .i64 k ∧ Chg (fun b => g ≤ b ∧ b < hi ∧ b < w3.heap.size) wr wz ∧ Rows wz g (fun b => (g < b ∧ b < hi) ∧ b < w3.heap.size) A3 n3)
      case atStart => exact ⟨0, by omega, by omega, rfl, Chg.refl _ _, R7.out⟩
      case round =>
        obtain ⟨z, hg', hz, rfl, hch, hro⟩ := hrel
        have HG2 := Lib.hid hg'
        have HC2 := Lib.hid hch
        have HR2 := Lib.hid hro
        obtain ⟨f0, f1, f2, f3⟩ := blk3 (E7.out.chg hch (fun h => by omega))
        clear hg' hch hro
        by_cases hlt : z < n3
        · have hgl' := hgl (by omega)
          obtain ⟨Az, nz, cz, rfl, _, hsg, hcz, hCz⟩ := HR2.out.2 z hlt
          have NZ := hCz.1
          simp only [maxLen] at NZ
          have HZ := Lib.hid hcz
          clear hCz hsg
          go_wp2
          clear hcz
          go_loopg [21] nz (fun g' i wy => ∃ (k : Nat), g' = nz - k ∧ k ≤ nz ∧ i = .int .i64 k ∧ Chg (fun b => (g < b ∧ b < hi) ∧ b < w3.heap.size) wr wy ∧ wy.cell? ⟨g, z, none⟩ = some (.slice Az nz cz) ∧ Rows wy g (fun b => (g < b ∧ b < hi) ∧ b < w3.heap.size) (some ⟨g, 0, none⟩) n3)
          case atStart => exact ⟨0, by omega, by omega, rfl, Chg.refl _ _, HZ.out, HR2.out⟩
          case round =>
            obtain ⟨y, hg'', hy, rfl, hch, hcz, hro⟩ := hrel
            have HG3 := Lib.hid hg''
            have HC3 := Lib.hid hch
            have HR3 := Lib.hid hro
            have HZ3 := Lib.hid hcz
            obtain ⟨o0, o1, o2, o3⟩ := blk3 ((E7.out.chg HC2.out (fun h => by omega)).chg hch (fun h => by omega))
            obtain ⟨Az', nz', cz', _, _, hsg, hcz', hCz⟩ := hro.2 z hlt
            rw [hcz] at hcz'
            injection hcz' with hcz'
            injection hcz' with e1 e2 e3
            subst e1; subst e2; subst e3
            clear hg'' hch hro
            by_cases hly : y < nz
            · obtain ⟨b, o, u, rfl, hF, _, hsf, hcell, x, rfl⟩ := hCz.2 y hly
              have hf := hsf (o + y)
              clear hCz hsf
              go_wp2
              go_roundg (nz - (y + 1))
              case measure => have := HG3.out; omega
              case rel => exact ⟨y + 1, rfl, by omega, by go_num, HC3.out.setCell (p := ⟨b, o + y, none⟩) (fun _ => hF) _, by rw [World.cell?_setCell_other _ _ _ _ (fun e => by injection e with e1; have := hF.1.1; omega)]; exact HZ3.out, HR3.out.put _ ⟨_, rfl⟩ (by have := hF.1.1; show b ≠ g; omega)⟩
            · have hf := hsg z
              clear hCz hsg
              go_wp2
              go_roundg (n3 - (z + 1))
              case measure => have := HG2.out; omega
              case rel => exact ⟨z + 1, rfl, by omega, by go_num, (HC2.out.trans HC3.out (fun b _ h => ⟨by omega, h.1.2, h.2⟩)).setCell (p := ⟨g, z, none⟩) (fun _ => ⟨Nat.le_refl _, hgh, hgl'⟩) _, HR3.out.nil_ z (by omega)⟩
        · have HC6 := Lib.hid (HC.out.below_of (B := w.heap.size) (Nat.le_trans HW (by omega)) (fun b hb h => by omega))
          have HC7 := Lib.hid (HC2.out.below_of (B := w.heap.size) (Nat.le_trans HW (by omega)) (fun b hb h => by omega))
          have C8 := Lib.hid (C7.out.chg HC2.out (fun b hb h => by simp only [From] at hb; omega))
          have E8 := Lib.hid (E7.out.chg HC2.out (fun h => by omega))
          have z8 := HC2.out.size
          clear HR2
          go_wp2
          go_loopg [22] n5 (fun g' i wz => ∃ (k : Nat), g' = n5 - k ∧ k ≤ n5 ∧ i = .int .i64 k ∧ Chg (fun b => hi ≤ b ∧ b < w3.heap.size) wr wz ∧ Cells wz (fun b => From hi b ∧ b < w3.heap.size) IsI64 A5 n5)
          case atStart => exact ⟨0, by omega, by omega, rfl, Chg.refl _ _, C8.out⟩
          case round =>
            obtain ⟨y, hg'', hy, rfl, hch, hce⟩ := hrel
            have HG3 := Lib.hid hg''
            have HC3 := Lib.hid hch
            have HE3 := Lib.hid hce
            obtain ⟨o0, o1, o2, o3⟩ := blk3 (E8.out.chg hch (fun h => by omega))
            clear hg'' hch hce
            by_cases hly : y < n5
            · obtain ⟨b, o, u, rfl, hF, _, hsf, hcell, x, rfl⟩ := HE3.out.2 y hly
              have hf := hsf (o + y)
              clear hsf
              go_wp2
              go_roundg (n5 - (y + 1))
              case measure => have := HG3.out; omega
              case rel => exact ⟨y + 1, rfl, by omega, by go_num, HC3.out.setCell (p := ⟨b, o + y, none⟩) (fun _ => hF) _, HE3.out.put _ ⟨_, rfl⟩⟩
            · go_wp2
              go_ret
              exact ⟨rfl, J6.out.trans (HC6.out.trans (HC7.out.trans (HC3.out.below_of (Nat.le_trans HW (by omega)) (fun b hb h => by omega))))⟩
end Go.Proofs.Ytgjphmlmndcaeaa

namespace Go.Proofs.Ytgjphmlmndcaeaa
open Go.RowKit

theorem ArX.drewN {F : Nat → Prop} {w : World} {p : Nat} {nodes root : Int} {sl : List Slt} (h : ArX w F p nodes sl root) (k : Nat) : ArX (w.drewN k) F p nodes sl root := h.chg (S := Nil) (Chg.of_below (below_drewN (Below.refl _ _) k)) (fun _ _ hf => hf)
theorem ArR.drewN {F : Nat → Prop} {w : World} {p : Nat} {nodes root : Int} {sl : List Slt} (h : ArR w F p nodes sl root) (k : Nat) : ArR (w.drewN k) F p nodes sl root := h.chg (S := Nil) (Chg.of_below (below_drewN (Below.refl _ _) k)) (fun _ _ hf => hf)
theorem quiet_ex {P : Program} {f : Nat} {args : Array Value} {w : World} {v : Value} (h : Calls P f args w fun e w' => e = .returned v ∧ ∃ q, w' = w.drewN q) : Calls P f args w fun e w' => e = .returned v ∧ ∃ m, w' = w.drewN m := h

set_option maxRecDepth 100000 in
theorem same_alike (F G : Nat → Prop) (q p r : Nat) (nodes root : Int) (sl : List Slt) (w : World) (hq : Blk w q 75 #[.pointer (some ⟨p, 0, none⟩), .pointer (some ⟨r, 0, none⟩)]) (hx : ArX w F p nodes sl root) (hy : ArR w G r nodes sl root)
    (hn : sl.length ≤ 65536) (hn0 : 0 ≤ nodes) (hn1 : nodes ≤ 65536) (hsm : ∀ s ∈ sl, Small s.2) (hev : ∀ s ∈ sl, 0 ≤ s.1 ∧ s.1 ≤ 4611686018427387904 ∧ s.1 % 2 = 0) :
    Calls Try.prog 32 #[.pointer (some ⟨q, 0, none⟩)] w fun e w' => e = .returned (.bool true) ∧ Below w.heap.size w w' := by
  have HX := Lib.hid hx
  have HY := Lib.hid hy
  have HQ := Lib.hid hq
  have HM := Lib.hid hsm
  have HE : Hid (heldTo sl sl.length = []) := Lib.hid (heldTo_even (fun s hs => (hev s hs).2.2) _)
  have HV := Lib.hid (fun s hs => ⟨(hev s hs).1, (hev s hs).2.1⟩ : ∀ s ∈ sl, 0 ≤ s.1 ∧ s.1 ≤ 4611686018427387904)
  have c0 : w.cell? ⟨q, 0, none⟩ = some (.pointer (some ⟨p, 0, none⟩)) := by rw [hq.cell]; rfl
  have c1 : w.cell? ⟨q, 1, none⟩ = some (.pointer (some ⟨r, 0, none⟩)) := by rw [hq.cell]; rfl
  clear hx hy hq hsm hev
  go_enter Try.func32, Try.ntmps32
  go_wp2_with (first | (go_at_call 54; refine (rused_any G r nodes root sl _ HY.out).mono ?_; rintro e w' ⟨rfl, rfl⟩) | (go_at_call 29; refine (held_any F p nodes root sl _ HX.out hn HV.out).mono ?_; rw [HE.out]; rintro e w1 ⟨A1, n1, d1, rfl, r1, _, hb1⟩; obtain rfl : n1 = 0 := r1.len; have y0 := bkeep hb1 c0; have y1 := bkeep hb1 c1) | (go_at_call 55; refine (rheld_any G r nodes root sl _ (HY.out.below hb1) hn HV.out).mono ?_; rw [HE.out]; rintro e w2 ⟨A2, n2, d2, rfl, r2, _, hb2⟩; obtain rfl : n2 = 0 := r2.len; have hb12 := hb1.trans (hb2.mono hb1.size); have z0 := bkeep hb12 c0; have z1 := bkeep hb12 c1))
  have HX2 := Lib.hid (HX.out.below hb12)
  have HY2 := Lib.hid (HY.out.below hb12)
  clear r1 r2
  go_quiet (first | (go_at_call 28; exact quiet_left (used_any F p nodes root sl _ (HX2.out.drewN _))) | (go_at_call 56; exact Calls.quiet_of (left_any F p nodes root sl _ (HX2.out.drewN _) hn hn0 hn1)) | (go_at_call 57; exact Calls.quiet_of (rleft_any G r nodes root sl _ (HY2.out.drewN _) hn hn0 hn1)) | (go_at_call 48; exact quiet_left (root_any F p nodes root sl _ (HX2.out.drewN _))) | (go_at_call 58; exact quiet_left (rroot_any G r nodes root sl _ (HY2.out.drewN _))))
  go_wp2
  go_loopg [6] 0 (fun g i wr => g = 0 ∧ i = .int .i64 0 ∧ Below w2.heap.size w2 wr)
  case atStart => exact ⟨rfl, rfl, below_drewN (Below.refl _ _) _⟩
  case round =>
    obtain ⟨hg, rfl, hbl⟩ := hrel
    have HB := Lib.hid (hb12.trans (hbl.mono hb12.size))
    clear hg hbl hb1 hb2 hb12 y0 y1 z0 z1 HX2 HY2
    have e1 := IntWalk.i64_in ((sl.length : Int) + 1) (by omega)
    go_wp2
    go_loopg [7] (sl.length + 2) (fun g i wz => ∃ k : Nat, g = sl.length + 2 - k ∧ k ≤ sl.length + 2 ∧ i = .int .i64 k ∧ Below w.heap.size w wz)
    case atStart => exact ⟨0, by omega, by omega, rfl, HB.out⟩
    case round =>
      obtain ⟨k, hg, hk, rfl, hbl⟩ := hrel
      have HG := Lib.hid hg
      clear hg
      by_cases hlt : (k : Int) ≤ sl.length + 1
      · go_wp2_with (go_at_call 59; refine (node_alike F G q p r nodes root sl k _ (HQ.out.below hbl) (HX.out.below hbl) (HY.out.below hbl) hn HM.out).mono ?_; rintro e w3 ⟨rfl, hb3⟩)
        go_roundg (sl.length + 2 - (k + 1))
        case measure => have := HG.out; omega
        case rel => exact ⟨k + 1, rfl, by omega, by go_num, hbl.trans (hb3.mono hbl.size)⟩
      · go_wp2
        go_ret
        exact ⟨rfl, hbl⟩

theorem both_nil (w : World) : Calls Try.prog 12 #[.pointer none, .pointer none] w fun e w' => e = .returned (.bool true) ∧ w = w' := by
  go_enter Try.func12, Try.ntmps12
  go_wp2
  go_ret
  exact ⟨rfl, rfl⟩
theorem both_alike (F G : Nat → Prop) (p r : Nat) (nodes root : Int) (sl : List Slt) (w : World) (hx : ArX w F p nodes sl root) (hy : ArR w G r nodes sl root)
    (hn : sl.length ≤ 65536) (hn0 : 0 ≤ nodes) (hn1 : nodes ≤ 65536) (hsm : ∀ s ∈ sl, Small s.2) (hev : ∀ s ∈ sl, 0 ≤ s.1 ∧ s.1 ≤ 4611686018427387904 ∧ s.1 % 2 = 0) :
    Calls Try.prog 12 #[.pointer (some ⟨p, 0, none⟩), .pointer (some ⟨r, 0, none⟩)] w fun e w' => e = .returned (.bool true) ∧ Below w.heap.size w w' := by
  have b1 : Below w.heap.size w (w.alloc (.cells #[.pointer (some ⟨p, 0, none⟩), .pointer (some ⟨r, 0, none⟩)] 75)) := (Below.refl _ _).alloc (Nat.le_refl _) _
  have HX := Lib.hid (hx.below b1)
  have HY := Lib.hid (hy.below b1)
  have HM := Lib.hid hsm
  have HE := Lib.hid hev
  have hq : Blk (w.alloc (.cells #[.pointer (some ⟨p, 0, none⟩), .pointer (some ⟨r, 0, none⟩)] 75)) w.heap.size 75 #[.pointer (some ⟨p, 0, none⟩), .pointer (some ⟨r, 0, none⟩)] := Blk.new _ _ _
  clear hx hy hsm hev
  go_enter Try.func12, Try.ntmps12
  go_wp2_with (go_at_call 32; refine (same_alike F G w.heap.size p r nodes root sl _ hq HX.out HY.out hn hn0 hn1 HM.out HE.out).mono ?_; rintro e w3 ⟨rfl, hb3⟩)
  go_ret
  exact ⟨rfl, b1.trans (hb3.mono b1.size)⟩
end Go.Proofs.Ytgjphmlmndcaeaa

namespace Go.Proofs.Ytgjphmlmndcaeaa
open Go.RowKit

/-- what a build answers: the error, and the place -/
def buildE (nd lf inn fl bl : Int) (l : List Ent) : Int × Int :=
  if ¬ cfgOk nd lf inn fl bl then (1, 0) else if (sortedOf l).2 ≠ 0 then ((sortedOf l).2, (sortedOf l).1) else ((nodesOf nd lf inn fl bl l.length).2, 0)
/-- the program's build, whatever comes -/
def AnyX (w : World) (nodes : Int) (E : Int × Int) (t : List Slt × Int) (e : Ending) (w' : World) : Prop :=
  ∃ pv, e = .returned (.tuple #[pv, .int .i64 E.1, .int .i64 E.2]) ∧ Below w.heap.size w w' ∧ ((E.1 ≠ 0 ∧ pv = .pointer none) ∨ (E.1 = 0 ∧ ∃ p, pv = .pointer (some ⟨p, 0, none⟩) ∧ ArX w' (From w.heap.size) p nodes t.1 t.2))
def AnyR (w : World) (nodes : Int) (E : Int × Int) (t : List Slt × Int) (e : Ending) (w' : World) : Prop :=
  ∃ pv, e = .returned (.tuple #[pv, .int .i64 E.1, .int .i64 E.2]) ∧ Below w.heap.size w w' ∧ ((E.1 ≠ 0 ∧ pv = .pointer none) ∨ (E.1 = 0 ∧ ∃ p, pv = .pointer (some ⟨p, 0, none⟩) ∧ ArR w' (From w.heap.size) p nodes t.1 t.2))

section
variable (nd lf inn fl bl : Int) (A : Option Addr) (n c : Nat) (F : Nat → Prop) (l : List Ent) (w : World)
theorem pbuild_any (hE : Ents w F A n l) (hnc : n ≤ c) (hcm : c ≤ maxLen) (hn : n ≤ 1152921504606) (hsm : ∀ e ∈ l, e.1.length ≤ 1152921504606 ∧ e.2.length ≤ 1152921504606) :
    Calls Try.prog 20 #[.agg #[.int .i64 nd, .int .i64 lf, .int .i64 inn, .int .i64 fl, .int .i64 bl], .slice A n c] w (AnyX w nd (buildE nd lf inn fl bl l) (treeOf fl.toNat inn.toNat l)) := by
  have hl := hE.len
  by_cases hc : cfgOk nd lf inn fl bl
  · by_cases hs : (sortedOf l).2 = 0
    · have hs' : sortedOf l = (0, 0) := by rw [sorted_ok ((sorted_iff l).1 hs)]
      by_cases hf : (nodesOf nd lf inn fl bl n).2 = 0
      · have e : buildE nd lf inn fl bl l = (0, 0) := by unfold buildE; rw [if_neg (by simpa using hc), if_neg (by simpa using hs), ← hl, hf]
        rw [e]
        obtain ⟨c1, c2, c3, c4, c5, c6, c7, c8, c9, c10⟩ := hc
        obtain ⟨i, rfl⟩ : ∃ i : Nat, inn = i := ⟨inn.toNat, by omega⟩
        obtain ⟨f, rfl⟩ : ∃ f : Nat, fl = f := ⟨fl.toNat, by omega⟩
        refine (pbuild_ok nd lf bl i f A n c F l w hE hnc hcm hn hsm ⟨c1, c2, c3, c4, c5, c6, c7, c8, c9, c10⟩ hs' hf).mono ?_
        rintro e' w' ⟨p, rfl, h1, h2⟩
        exact ⟨_, rfl, h2, .inr ⟨rfl, p, rfl, by simpa using h1⟩⟩
      · have e : buildE nd lf inn fl bl l = ((nodesOf nd lf inn fl bl n).2, 0) := by unfold buildE; rw [if_neg (by simpa using hc), if_neg (by simpa using hs), ← hl]
        rw [e]
        refine (build_full nd lf inn fl bl A n c F l w hE hn hsm hc hs' hf).mono ?_
        rintro e' w' ⟨rfl, h2⟩
        exact ⟨_, rfl, h2, .inl ⟨hf, rfl⟩⟩
    · have e : buildE nd lf inn fl bl l = ((sortedOf l).2, (sortedOf l).1) := by unfold buildE; rw [if_neg (by simpa using hc), if_pos (by simpa using hs)]
      rw [e]
      refine (build_srt nd lf inn fl bl A n c F l w hE hn hsm hc hs).mono ?_
      rintro e' w' ⟨rfl, h2⟩
      exact ⟨_, rfl, h2, .inl ⟨hs, rfl⟩⟩
  · have e : buildE nd lf inn fl bl l = (1, 0) := by unfold buildE; rw [if_pos (by simpa using hc)]
    rw [e]
    refine (build_cfg nd lf inn fl bl A n c w hc).mono ?_
    rintro e' w' ⟨rfl, h2⟩
    exact ⟨_, rfl, h2, .inl ⟨by decide, rfl⟩⟩
theorem rbuild_any (hE : Ents w F A n l) (hnc : n ≤ c) (hcm : c ≤ maxLen) (hn : n ≤ 1152921504606) (hsm : ∀ e ∈ l, e.1.length ≤ 1152921504606 ∧ e.2.length ≤ 1152921504606) :
    Calls Try.prog 21 #[.agg #[.int .i64 nd, .int .i64 lf, .int .i64 inn, .int .i64 fl, .int .i64 bl], .slice A n c] w (AnyR w nd (buildE nd lf inn fl bl l) (treeOf fl.toNat inn.toNat l)) := by
  have hl := hE.len
  by_cases hc : cfgOk nd lf inn fl bl
  · by_cases hs : (sortedOf l).2 = 0
    · have hs' : sortedOf l = (0, 0) := by rw [sorted_ok ((sorted_iff l).1 hs)]
      by_cases hf : (nodesOf nd lf inn fl bl n).2 = 0
      · have e : buildE nd lf inn fl bl l = (0, 0) := by unfold buildE; rw [if_neg (by simpa using hc), if_neg (by simpa using hs), ← hl, hf]
        rw [e]
        have hc0 := hc
        obtain ⟨c1, c2, c3, c4, c5, c6, c7, c8, c9, c10⟩ := hc
        obtain ⟨i, rfl⟩ : ∃ i : Nat, inn = i := ⟨inn.toNat, by omega⟩
        obtain ⟨f, rfl⟩ : ∃ f : Nat, fl = f := ⟨fl.toNat, by omega⟩
        have hf0 := hf
        rw [nodesOf_ok hc0 (by omega)] at hf
        have ht : treeOf f i l = rtreeOf f i l := tree_same (nd := nd) (by omega) (by omega) (by rw [← hl]; exact hf)
        simp only [Int.toNat_natCast]
        rw [ht]
        rcases Nat.eq_zero_or_pos n with h0 | h0
        · subst h0
          have hnil : l = [] := List.eq_nil_of_length_eq_zero hl.symm
          subst hnil
          refine (rbuild_nil nd lf bl i f A c F w hE hc0 hf0).mono ?_
          rintro e' w' ⟨p, rfl, h1, h2⟩
          exact ⟨_, rfl, h2, .inr ⟨rfl, p, rfl, by simpa [rtreeOf] using h1⟩⟩
        · refine (rbuild_cons nd lf bl i f A n c F l w hE hnc hcm hn h0 hsm hc0 hs' hf0).mono ?_
          rintro e' w' ⟨p, rfl, h1, h2⟩
          exact ⟨_, rfl, h2, .inr ⟨rfl, p, rfl, h1⟩⟩
      · have e : buildE nd lf inn fl bl l = ((nodesOf nd lf inn fl bl n).2, 0) := by unfold buildE; rw [if_neg (by simpa using hc), if_neg (by simpa using hs), ← hl]
        rw [e]
        refine (rbuild_full nd lf inn fl bl A n c F l w hE hn hsm hc hs' hf).mono ?_
        rintro e' w' ⟨rfl, h2⟩
        exact ⟨_, rfl, h2, .inl ⟨hf, rfl⟩⟩
    · have e : buildE nd lf inn fl bl l = ((sortedOf l).2, (sortedOf l).1) := by unfold buildE; rw [if_neg (by simpa using hc), if_pos (by simpa using hs)]
      rw [e]
      refine (rbuild_srt nd lf inn fl bl A n c F l w hE hn hsm hc hs).mono ?_
      rintro e' w' ⟨rfl, h2⟩
      exact ⟨_, rfl, h2, .inl ⟨hs, rfl⟩⟩
  · have e : buildE nd lf inn fl bl l = (1, 0) := by unfold buildE; rw [if_pos (by simpa using hc)]
    rw [e]
    refine (rbuild_cfg nd lf inn fl bl A n c w hc).mono ?_
    rintro e' w' ⟨rfl, h2⟩
    exact ⟨_, rfl, h2, .inl ⟨by decide, rfl⟩⟩
end

/-- all slots of the document's tree are free, and small; there are not too many -/
theorem rups_ok {nd : Int} {inn : Nat} (h1 : 1 ≤ inn) (hi : inn ≤ 64) : ∀ (f : Nat) (lev : Int) (sl : List Slt) (lvl : List Nd), (lv nd inn f (lvl.length : Int) (sl.length : Int)).2 = 0 → (∀ s ∈ sl, Small s.2 ∧ s.1 = 2) → (∀ s ∈ lvl, Small s) →
    (∀ s ∈ (rups inn f lev sl lvl).1, Small s.2 ∧ s.1 = 2) ∧ ((rups inn f lev sl lvl).1.length : Int) ≤ nd := by
  intro f
  induction f with
  | zero => intro lev sl lvl h; simp [lv] at h
  | succ f ih =>
    intro lev sl lvl h hs hl
    have hf : ¬ nd - (sl.length : Int) < (lvl.length : Int) := by
      intro hx
      rw [lv_full hx] at h
      simp at h
    have hs' : ∀ s ∈ sl ++ (List.range lvl.length).map (slotN lvl ((sl.length : Int) + 1)), Small s.2 ∧ s.1 = 2 := by
      intro s hm
      rcases List.mem_append.1 hm with hm | hm
      · exact hs s hm
      · obtain ⟨i, hi', rfl⟩ := List.mem_map.1 hm
        have := hl _ (getD_mem (d := Nd.zero) (show i < lvl.length by simpa using hi'))
        exact ⟨⟨this.1, this.2.1, this.2.2.1, this.2.2.2.1, this.2.2.2.2.1, this.2.2.2.2.2⟩, rfl⟩
    by_cases hone : lvl.length = 1
    · rw [rups, if_pos hone]
      exact ⟨hs', by simp; omega⟩
    · rw [rups, if_neg hone]
      rw [lv_step hf (by omega), ← pn_cast lvl.length inn h1] at h
      refine ih (lev + 1) _ _ ?_ hs' ?_
      · simp only [List.length_append, List.length_map, List.length_range, Int.natCast_add]
        exact h
      · intro s hm
        obtain ⟨i, _, rfl⟩ := List.mem_map.1 hm
        exact small_aboveN hi hl _ _ i
theorem tree_ok {nd lf bl : Int} {inn fill : Nat} {l : List Ent} (hc : cfgOk nd lf inn fill bl) (hsm : ∀ e ∈ l, e.1.length ≤ 1152921504606 ∧ e.2.length ≤ 1152921504606) (hf : (nodesOf nd lf inn fill bl l.length).2 = 0) :
    (treeOf fill inn l).1.length ≤ 65536 ∧ (∀ s ∈ (treeOf fill inn l).1, Small s.2) ∧ ∀ s ∈ (treeOf fill inn l).1, 0 ≤ s.1 ∧ s.1 ≤ 4611686018427387904 ∧ s.1 % 2 = 0 := by
  rw [nodesOf_ok hc (by omega)] at hf
  obtain ⟨c1, c2, c3, c4, c5, c6, c7, c8, c9, c10⟩ := hc
  rw [tree_same (nd := nd) (by omega) (by omega) hf]
  unfold rtreeOf
  by_cases hl : l = []
  · rw [if_pos hl]
    refine ⟨by simp, fun s hs => ?_, fun s hs => ?_⟩
    · have : s = (0, Nd.zero) := by simpa using hs
      subst this
      exact ⟨by simp [Nd.zero], by simp [Nd.zero], by simp [Nd.zero], by simp [Nd.zero], by simp [Nd.zero], by simp [Nd.zero]⟩
    · have : s = (0, Nd.zero) := by simpa using hs
      subst this
      decide
  · rw [if_neg hl]
    have hll : (leavesN fill l).length = pn l.length fill := by simp [leavesN]
    obtain ⟨h1, h2⟩ := rups_ok (nd := nd) (inn := inn) (by omega) (by omega) 32 0 [] (leavesN fill l) (by rw [hll, pn_cast _ _ (by omega)]; exact hf) (by simp) (fun s hs => by obtain ⟨i, _, rfl⟩ := List.mem_map.1 hs; exact small_leafN (by omega) hsm i)
    exact ⟨by omega, fun s hs => (h1 s hs).1, fun s hs => by have := (h1 s hs).2; omega⟩
theorem buildE_ok {nd lf inn fl bl : Int} {l : List Ent} (h : (buildE nd lf inn fl bl l).1 = 0) : cfgOk nd lf inn fl bl ∧ (nodesOf nd lf inn fl bl l.length).2 = 0 := by
  unfold buildE at h
  by_cases hc : cfgOk nd lf inn fl bl
  · rw [if_neg (by simpa using hc)] at h
    by_cases hs : (sortedOf l).2 = 0
    · rw [if_neg (by simpa using hs)] at h; exact ⟨hc, h⟩
    · rw [if_pos (by simpa using hs)] at h; exact absurd h hs
  · rw [if_pos (by simpa using hc)] at h; cases h
end Go.Proofs.Ytgjphmlmndcaeaa
