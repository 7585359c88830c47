/- WALKS: the document's node in new memory. WALKS: the program's arena, reading. WALKS: the program's arena, writing. WALKS: a node is laid into the next slot (pack). -/
import Derived.Test.YtgjphmlmndcaeaaPs05
import Derived.Test.YtgjphmlmndcaeaaPs04
import Derived.Test.YtgjphmlmndcaeaaPs03
set_option linter.unusedVariables false
set_option linter.unusedSimpArgs false
namespace Go.Proofs.Ytgjphmlmndcaeaa
open Go.RowKit

theorem three_blk (w : World) (t : TypeId) (c0 c1 c2 : Array Value) :
    Blk (((w.alloc (.cells c0 t)).alloc (.cells c1 t)).alloc (.cells c2 t)) w.heap.size t c0 ∧ Blk (((w.alloc (.cells c0 t)).alloc (.cells c1 t)).alloc (.cells c2 t)) (w.heap.size + 1) t c1 ∧
    Blk (((w.alloc (.cells c0 t)).alloc (.cells c1 t)).alloc (.cells c2 t)) (w.heap.size + 1 + 1) t c2 ∧ Below w.heap.size w (((w.alloc (.cells c0 t)).alloc (.cells c1 t)).alloc (.cells c2 t)) := by
  refine ⟨((Blk.new w t c0).alloc _).alloc _, ?_, ?_, (((Below.refl _ _).alloc (Nat.le_refl _) _).alloc (by simp) _).alloc (by simp; omega) _⟩
  · have := (Blk.new (w.alloc (.cells c0 t)) t c1).alloc (.cells c2 t)
    simpa using this
  · have := Blk.new ((w.alloc (.cells c0 t)).alloc (.cells c1 t)) t c2
    simpa using this
/-- what a block of six cells gives a walk -/
theorem blk6 {w : World} {g : Nat} {t : TypeId} {v0 v1 v2 v3 v4 v5 : Value} (h : Blk w g t #[v0, v1, v2, v3, v4, v5]) :
    w.cell? ⟨g, 0, none⟩ = some v0 ∧ w.cell? ⟨g, 1, none⟩ = some v1 ∧ w.cell? ⟨g, 2, none⟩ = some v2 ∧ w.cell? ⟨g, 3, none⟩ = some v3 ∧ w.cell? ⟨g, 4, none⟩ = some v4 ∧ w.cell? ⟨g, 5, none⟩ = some v5 ∧ (∀ o, w.frozen? ⟨g, o, none⟩ = false) :=
  ⟨by rw [h.cell]; rfl, by rw [h.cell]; rfl, by rw [h.cell]; rfl, by rw [h.cell]; rfl, by rw [h.cell]; rfl, by rw [h.cell]; rfl, h.frozen⟩

theorem chg1 (w : World) (g i : Nat) (u : Value) : Chg (One g) w (w.setCell ⟨g, i, none⟩ u) := Chg.set1 w g i u
theorem chg2 (w : World) (g i j : Nat) (u v : Value) : Chg (One g) w ((w.setCell ⟨g, i, none⟩ u).setCell ⟨g, j, none⟩ v) := (chg1 w g i u).setCell (p := ⟨g, j, none⟩) (fun _ => rfl) v
theorem one_ne {a b : Nat} (h : a ≠ b) : ¬ One b a := fun e => h e

set_option maxRecDepth 100000 in
set_option maxHeartbeats 4000000 in
theorem rnclone_any (nd : Nd) (F : Nat → Prop) (hA kA vA dA : Option Addr) (hn hc kn kc vn vc dn dc : Nat) (w : World)
    (h1 : Bt w F hA hn hc nd.high) (h2 : Tx w F kA kn kc nd.keys) (h3 : Tx w F vA vn vc nd.vals) (h4 : It w F dA dn dc nd.kids) (hs : Small nd) :
    Calls Try.prog 44 #[.agg #[.int .i64 nd.lev, .slice hA hn hc, .int .i64 nd.right, .slice kA kn kc, .slice vA vn vc, .slice dA dn dc]] w (NewNode w nd) := by
  obtain ⟨i0, hi0, iz0, iz1, iz2⟩ := info_parts int_info
  have H1 := Lib.hid h1
  have H2 := Lib.hid h2
  have H3 := Lib.hid h3
  have H4 := Lib.hid h4
  have HS := Lib.hid hs
  have l1 : hn ≤ 1152921504606 := by have := h1.len; have := hs.1; omega
  have l2 : kn ≤ 1152921504606 := by have := h2.len; have := hs.2.1; omega
  have l3 : vn ≤ 1152921504606 := by have := h3.len; have := hs.2.2.1; omega
  have l4 : dn ≤ 1152921504606 := by have := h4.len; have := hs.2.2.2.1; omega
  clear h1 h2 h3 h4 hs
  go_enter Try.func44, Try.ntmps44
  go_wp2_with fail
  obtain ⟨k0, k1, k2, hB0⟩ := three_blk w 93 #[.int .i64 nd.lev, .slice hA hn hc, .int .i64 nd.right, .slice kA kn kc, .slice vA vn vc, .slice dA dn dc] #[.int .i64 0, .slice none 0 0, .int .i64 0, .slice none 0 0, .slice none 0 0, .slice none 0 0] #[.int .i64 nd.lev, .slice none 0 0, .int .i64 0, .slice none 0 0, .slice none 0 0, .slice none 0 0]
  have s0 := k2.lt
  refine (rbytes_any _ _ _ F nd.high _ (H1.out.2.2.2.below hB0) H1.out.2.2.1 l1).mono ?_
  rintro e w1 ⟨A1, n1, c1, rfl, p1, p2, p3, p4, hb1⟩
  have k0 := k0.below hb1
  have k1 := k1.below hb1
  have k2 := k2.below hb1
  have hB1 := hB0.trans (hb1.mono hB0.size)
  obtain ⟨a0, a1, a2, a3, a4, a5, a6⟩ := blk6 k0
  obtain ⟨b0, b1, b2, b3, b4, b5, b6⟩ := blk6 k2
  go_wp2_with fail
  have e1 := chg2 w1 (w.heap.size + 1 + 1) 1 2 (.slice A1 n1 c1) (.int .i64 nd.right)
  have j0 := k0.chg e1 (one_ne (by omega))
  have j1 := k1.chg e1 (one_ne (by omega))
  have j2 : Blk ((w1.setCell ⟨w.heap.size + 1 + 1, 1, none⟩ (.slice A1 n1 c1)).setCell ⟨w.heap.size + 1 + 1, 2, none⟩ (.int .i64 nd.right)) (w.heap.size + 1 + 1) 93 #[.int .i64 nd.lev, .slice A1 n1 c1, .int .i64 nd.right, .slice none 0 0, .slice none 0 0, .slice none 0 0] := (k2.set_ 1 _).set_ 2 _
  have hC1 : Below w.heap.size w ((w1.setCell ⟨w.heap.size + 1 + 1, 1, none⟩ (.slice A1 n1 c1)).setCell ⟨w.heap.size + 1 + 1, 2, none⟩ (.int .i64 nd.right)) := hB1.trans (e1.below_of hB1.size (fun b hb e => by have e : b = w.heap.size + 1 + 1 := e; omega))
  clear k0 k1 k2 a0 a1 a2 a3 a4 a5 a6 b0 b1 b2 b3 b4 b5 b6
  refine (rtexts_any _ _ _ F nd.keys _ (H2.out.below hC1) l2 HS.out.2.2.2.2.1).mono ?_
  rintro e w2 ⟨A2, n2, c2, rfl, q2, hb2⟩
  have k0 := j0.below hb2
  have k1 := j1.below hb2
  have k2 := j2.below hb2
  have hB2 := hC1.trans (hb2.mono hC1.size)
  clear j0 j1 j2
  obtain ⟨a0, a1, a2, a3, a4, a5, a6⟩ := blk6 k0
  obtain ⟨b0, b1, b2, b3, b4, b5, b6⟩ := blk6 k2
  go_wp2_with fail
  have e2 := chg1 w2 (w.heap.size + 1 + 1) 3 (.slice A2 n2 c2)
  have j0 := k0.chg e2 (one_ne (by omega))
  have j1 := k1.chg e2 (one_ne (by omega))
  have j2 : Blk (w2.setCell ⟨w.heap.size + 1 + 1, 3, none⟩ (.slice A2 n2 c2)) (w.heap.size + 1 + 1) 93 #[.int .i64 nd.lev, .slice A1 n1 c1, .int .i64 nd.right, .slice A2 n2 c2, .slice none 0 0, .slice none 0 0] := k2.set_ 3 _
  have hC2 : Below w.heap.size w (w2.setCell ⟨w.heap.size + 1 + 1, 3, none⟩ (.slice A2 n2 c2)) := hB2.trans (e2.below_of hB2.size (fun b hb e => by have e : b = w.heap.size + 1 + 1 := e; omega))
  clear k0 k1 k2 a0 a1 a2 a3 a4 a5 a6 b0 b1 b2 b3 b4 b5 b6
  refine (rtexts_any _ _ _ F nd.vals _ (H3.out.below hC2) l3 HS.out.2.2.2.2.2).mono ?_
  rintro e w3 ⟨A3, n3, c3, rfl, q3, hb3⟩
  have k0 := j0.below hb3
  have k1 := j1.below hb3
  have k2 := j2.below hb3
  have hB3 := hC2.trans (hb3.mono hC2.size)
  clear j0 j1 j2
  have e3 := chg1 w3 (w.heap.size + 1 + 1) 4 (.slice A3 n3 c3)
  have j0 := k0.chg e3 (one_ne (by omega))
  have j1 := k1.chg e3 (one_ne (by omega))
  have j2 : Blk (w3.setCell ⟨w.heap.size + 1 + 1, 4, none⟩ (.slice A3 n3 c3)) (w.heap.size + 1 + 1) 93 #[.int .i64 nd.lev, .slice A1 n1 c1, .int .i64 nd.right, .slice A2 n2 c2, .slice A3 n3 c3, .slice none 0 0] := k2.set_ 4 _
  have hC3 : Below w.heap.size w (w3.setCell ⟨w.heap.size + 1 + 1, 4, none⟩ (.slice A3 n3 c3)) := hB3.trans (e3.below_of hB3.size (fun b hb e => by have e : b = w.heap.size + 1 + 1 := e; omega))
  obtain ⟨a0, a1, a2, a3, a4, a5, a6⟩ := blk6 k0
  obtain ⟨b0, b1, b2, b3, b4, b5, b6⟩ := blk6 k2
  go_wp2_with (at_builtin; refine wpList_append_any _ rfl (.tmp 34) (.tmp 37) _ rfl (w3.setCell ⟨w.heap.size + 1 + 1, 4, none⟩ (.slice A3 n3 c3)).heap.size 3 i0 _ 1 8 Try.underlying24 hi0 iz0 iz1 iz2 rfl (by omega) (.slice none 0 0) 0 [] rfl (World.ownsRow_nil _ _ _ _) F dA dn dc (nd.kids.map (Value.int .i64)) rfl (H4.out.2.2.2.below hC3) (ints_one _) (by simp only [maxLen]; omega) (by omega) (Nat.le_refl _) ?_; intro v4 w4 hown4 hg4 hat4; have hb4 : Below (w3.setCell ⟨w.heap.size + 1 + 1, 4, none⟩ (.slice A3 n3 c3)).heap.size (w3.setCell ⟨w.heap.size + 1 + 1, 4, none⟩ (.slice A3 n3 c3)) w4 := (Below.refl _ _).grown hg4 (Nat.le_refl _) (fun k hk => by simp [Value.ownBlock] at hk); obtain ⟨A4, c4, hv4, r1, r2⟩ := own_val hown4; subst hv4; have k0' := j0.below hb4; have k1' := j1.below hb4; have k2' := j2.below hb4; obtain ⟨y0, y1, y2, y3, y4, y5, y6⟩ := blk6 k0'; obtain ⟨x0, x1, x2, x3, x4, x5, x6⟩ := blk6 k1'; obtain ⟨u0, u1, u2, u3, u4, u5, u6⟩ := blk6 k2')
  refine bodyPost_ret (v := .agg #[.int .i64 nd.lev, .slice A1 n1 c1, .int .i64 nd.right, .slice A2 n2 c2, .slice A3 n3 c3, .slice A4 dn c4]) (by simp [results, Try.results44, go_sem, *]) rfl ?_
  have hch : Chg (fun b => w.heap.size ≤ b ∧ b ≤ w.heap.size + 1 + 1) w4 (((((((w4.setCell ⟨w.heap.size + 1 + 1, 5, none⟩ (.slice A4 dn c4)).setCell ⟨w.heap.size + 1, 0, none⟩ (.int .i64 nd.lev)).setCell ⟨w.heap.size + 1, 1, none⟩ (.slice A1 n1 c1)).setCell ⟨w.heap.size + 1, 2, none⟩ (.int .i64 nd.right)).setCell ⟨w.heap.size + 1, 3, none⟩ (.slice A2 n2 c2)).setCell ⟨w.heap.size + 1, 4, none⟩ (.slice A3 n3 c3)).setCell ⟨w.heap.size + 1, 5, none⟩ (.slice A4 dn c4)) := by
    repeat (refine Chg.setCell ?_ (p := ⟨_, _, none⟩) (fun _ => by simp; try omega) _)
    exact Chg.refl _ _
  have hn : ∀ b, From (w.heap.size + 3) b → ¬ (w.heap.size ≤ b ∧ b ≤ w.heap.size + 1 + 1) := fun b hb h => by have hb : w.heap.size + 3 ≤ b := hb; omega
  have hs1 : ∀ b, From (w.heap.size + 3) b → ¬ One (w.heap.size + 1 + 1) b := fun b hb h => by have hb : w.heap.size + 3 ≤ b := hb; have h : b = w.heap.size + 1 + 1 := h; omega
  have z1 := hb1.size
  have z2 := hb2.size
  have z3 := hb3.size
  have t1 := e1.size
  have t2 := e2.size
  have t3 := e3.size
  have g1 : Bt w4 (From (w.heap.size + 3)) A1 n1 c1 nd.high := ((((((show Bt w1 (From (w.heap.size + 3)) A1 n1 c1 nd.high from ⟨p1, p2, p3, p4.weak (fun b hb => by have hb := hb.1; simp only [From, World.size_alloc] at hb ⊢; omega)⟩).chg e1 hs1).below hb2).chg e2 hs1).below hb3).chg e3 hs1).below hb4
  have g2 : Tx w4 (From (w.heap.size + 3)) A2 n2 c2 nd.keys := ((((q2.weak (G := From (w.heap.size + 3)) (fun b hb => by simp only [From] at hb ⊢; omega)).chg e2 hs1).below hb3).chg e3 hs1).below hb4
  have g3 : Tx w4 (From (w.heap.size + 3)) A3 n3 c3 nd.vals := ((q3.weak (G := From (w.heap.size + 3)) (fun b hb => by simp only [From] at hb ⊢; omega)).chg e3 hs1).below hb4
  have g4 : It w4 (From (w.heap.size + 3)) A4 dn c4 nd.kids := by
    simp only [Nat.zero_add, List.nil_append] at hown4
    exact ⟨by omega, r2, H4.out.2.2.1, (Rd.of_own hown4).weak (fun b hb => by simp only [From] at hb ⊢; omega)⟩
  have up : ∀ b, From (w.heap.size + 3) b → From w.heap.size b := fun b hb => by have hb : w.heap.size + 3 ≤ b := hb; show w.heap.size ≤ b; omega
  have hB4 := hC3.trans (hb4.mono hC3.size)
  exact ⟨_, _, _, _, _, _, _, _, _, _, _, _, rfl, (g1.chg hch hn).weak up, (g2.chg hch hn).weak up, (g3.chg hch hn).weak up, (g4.chg hch hn).weak up, hB4.trans (hch.below_of hB4.size (fun b hb h => by omega))⟩
end Go.Proofs.Ytgjphmlmndcaeaa

namespace Go.Proofs.Ytgjphmlmndcaeaa
open Go.RowKit

theorem at_in (F : Nat → Prop) (p : Nat) (nodes root : Int) (sl : List Slt) (A : Option Addr) (n c : Nat) (bs : List Nat) (id : Int) (w : World) (h : ArY w F p nodes sl root A n c bs) (h1 : 1 ≤ id) (h2 : id ≤ n) (hn : n ≤ 65536) (g : Nat) (hg : bs[id.toNat - 1]? = some g) :
    Calls Try.prog 94 #[.pointer (some ⟨p, 0, none⟩), .int .i64 id] w fun e w' => e = .returned (.pointer (some ⟨g, 0, none⟩)) ∧ w = w' := by
  obtain ⟨c0, c1, c2, cf⟩ := h.cells
  obtain ⟨r, g', rfl, hg', cr⟩ := h.at_ (k := id.toNat - 1) (by omega)
  rw [hg] at hg'
  injection hg' with hg'
  subst hg'
  clear hg h
  go_enter Try.func94, Try.ntmps94
  go_wp2
  go_ret
  exact ⟨rfl, rfl⟩
theorem at_out (F : Nat → Prop) (p : Nat) (nodes root : Int) (sl : List Slt) (A : Option Addr) (n c : Nat) (bs : List Nat) (id : Int) (w : World) (h : ArY w F p nodes sl root A n c bs) (h1 : id < 1 ∨ (n : Int) < id) :
    Calls Try.prog 94 #[.pointer (some ⟨p, 0, none⟩), .int .i64 id] w fun e w' => e = .returned (.pointer none) ∧ w = w' := by
  obtain ⟨c0, c1, c2, cf⟩ := h.cells
  clear h
  rcases Int.lt_or_le id 1 with h0 | h0
  · go_enter Try.func94, Try.ntmps94
    go_wp2
    go_ret
    exact ⟨rfl, rfl⟩
  · have h3 : (n : Int) < id := by omega
    clear h1
    go_enter Try.func94, Try.ntmps94
    go_wp2
    go_ret
    exact ⟨rfl, rfl⟩

theorem fld_head (a b c d e f : Value) (w : World) : (Instr.field 93 (.agg #[a, b, c, d, e, f]) 0).run Try.prog w = .ok (.agg #[a, b, c]) w := by kernel_rfl
theorem fld_body (a b c d e f : Value) (w : World) : (Instr.field 93 (.agg #[a, b, c, d, e, f]) 1).run Try.prog w = .ok (.agg #[d, e, f]) w := by kernel_rfl

/-- what a block of seven cells gives a walk -/
theorem blk7 {w : World} {g : Nat} {t : TypeId} {v0 v1 v2 v3 v4 v5 v6 : Value} (h : Blk w g t #[v0, v1, v2, v3, v4, v5, v6]) :
    w.cell? ⟨g, 0, none⟩ = some v0 ∧ w.cell? ⟨g, 1, none⟩ = some v1 ∧ w.cell? ⟨g, 2, none⟩ = some v2 ∧ w.cell? ⟨g, 3, none⟩ = some v3 ∧ w.cell? ⟨g, 4, none⟩ = some v4 ∧ w.cell? ⟨g, 5, none⟩ = some v5 ∧ w.cell? ⟨g, 6, none⟩ = some v6 ∧ (∀ o, w.frozen? ⟨g, o, none⟩ = false) :=
  ⟨by rw [h.cell]; rfl, by rw [h.cell]; rfl, by rw [h.cell]; rfl, by rw [h.cell]; rfl, by rw [h.cell]; rfl, by rw [h.cell]; rfl, by rw [h.cell]; rfl, h.frozen⟩

/-- a slot that is there: its block, its place in the list -/
theorem ArY.slot_at {F : Nat → Prop} {w : World} {p : Nat} {nodes root : Int} {sl : List Slt} {A : Option Addr} {n c : Nat} {bs : List Nat} (h : ArY w F p nodes sl root A n c bs) {id : Int} (h1 : 1 ≤ id) (h2 : id ≤ n) :
    ∃ g s, bs[id.toNat - 1]? = some g ∧ sl[id.toNat - 1]? = some s ∧ F g ∧ SlotX w (fun b => F b ∧ ¬ Mut p (.slice A n c) bs b) g s := by
  have e1 : n = sl.length := h.len
  have e2 : bs.length = n := h.blen
  have l1 : id.toNat - 1 < bs.length := by omega
  have l2 : id.toNat - 1 < sl.length := by omega
  exact ⟨bs[id.toNat - 1], sl[id.toNat - 1], List.getElem?_eq_getElem l1, List.getElem?_eq_getElem l2, h.fbs _ (List.getElem_mem l1), h.slot _ _ _ (List.getElem?_eq_getElem l1) (List.getElem?_eq_getElem l2)⟩

theorem word_in (F : Nat → Prop) (p : Nat) (nodes root : Int) (sl : List Slt) (id : Int) (s : Slt) (w : World) (h : ArX w F p nodes sl root) (h1 : 1 ≤ id) (h2 : id ≤ sl.length) (hn : sl.length ≤ 65536) (hs : sl[id.toNat - 1]? = some s) :
    Calls Try.prog 83 #[.pointer (some ⟨p, 0, none⟩), .int .i64 id] w fun e w' => e = .returned (.tuple #[.int .u64 s.1, .int .i64 0]) ∧ w = w' := by
  obtain ⟨A, n, c, bs, hY⟩ := h
  have e1 : n = sl.length := hY.len
  obtain ⟨g, s', hg, hs', _, hx⟩ := hY.slot_at h1 (by omega)
  rw [hs] at hs'
  injection hs' with hs'
  subst hs'
  obtain ⟨hA, hn', hc, kA, kn, kc, vA, vn, vc, dA, dn, dc, hb, _⟩ := hx
  obtain ⟨z0, z1, z2, z3, z4, z5, z6, z7⟩ := blk7 hb
  have h3 : id ≤ n := by omega
  have h4 : n ≤ 65536 := by omega
  have HG := Lib.hid hg
  clear hg hs h2 hn e1 hb
  go_enter Try.func83, Try.ntmps83
  go_wp2_with (first | (go_at_call 94; refine (at_in F p nodes root sl A n c bs id _ hY h1 h3 h4 g HG.out).mono ?_; rintro e w' ⟨rfl, rfl⟩) | (go_at_call 52; refine (u64load_any _ _ _ _ z0).mono ?_; rintro e w' ⟨rfl, rfl⟩))
  go_ret2
  exact ⟨rfl, rfl⟩
theorem word_out (F : Nat → Prop) (p : Nat) (nodes root : Int) (sl : List Slt) (id : Int) (w : World) (h : ArX w F p nodes sl root) (h1 : id < 1 ∨ (sl.length : Int) < id) :
    Calls Try.prog 83 #[.pointer (some ⟨p, 0, none⟩), .int .i64 id] w fun e w' => e = .returned (.tuple #[.int .u64 0, .int .i64 101]) ∧ w = w' := by
  obtain ⟨A, n, c, bs, hY⟩ := h
  have e1 : n = sl.length := hY.len
  have h3 : id < 1 ∨ (n : Int) < id := by omega
  clear h1 e1
  go_enter Try.func83, Try.ntmps83
  go_wp2_with (first | (go_at_call 94; refine (at_out F p nodes root sl A n c bs id _ hY h3).mono ?_; rintro e w' ⟨rfl, rfl⟩))
  go_ret2
  exact ⟨rfl, rfl⟩

/-- the answer is a head in new memory, and an error -/
def NewHead (w : World) (lev : Int) (high : List UInt8) (right x : Int) (e : Ending) (w' : World) : Prop :=
  ∃ A n c, e = .returned (.tuple #[.agg #[.int .i64 lev, .slice A n c, .int .i64 right], .int .i64 x]) ∧ Bt w' (From w.heap.size) A n c high ∧ Below w.heap.size w w'
/-- the answer is a body in new memory, and an error -/
def NewBody (w : World) (keys vals : List (List UInt8)) (kids : List Int) (x : Int) (e : Ending) (w' : World) : Prop :=
  ∃ A n c B m d C l k, e = .returned (.tuple #[.agg #[.slice A n c, .slice B m d, .slice C l k], .int .i64 x]) ∧ Tx w' (From w.heap.size) A n c keys ∧ Tx w' (From w.heap.size) B m d vals ∧ It w' (From w.heap.size) C l k kids ∧ Below w.heap.size w w'

/-- .. nothing of it frozen -/
def NewHeadS (w : World) (lev : Int) (high : List UInt8) (right x : Int) (e : Ending) (w' : World) : Prop :=
  ∃ A n c, e = .returned (.tuple #[.agg #[.int .i64 lev, .slice A n c, .int .i64 right], .int .i64 x]) ∧ Bt w' (Soft (From w.heap.size) w') A n c high ∧ Below w.heap.size w w'
/-- .. the keys in a row of their own, the kids behind them, nothing frozen -/
def NewBodyS (w : World) (keys vals : List (List UInt8)) (kids : List Int) (x : Int) (e : Ending) (w' : World) : Prop :=
  ∃ A n c B m d C l k, e = .returned (.tuple #[.agg #[.slice A n c, .slice B m d, .slice C l k], .int .i64 x]) ∧ (keys = [] ∧ n = 0 ∧ kids = [] ∧ l = 0 ∨ ∃ g hi, w.heap.size ≤ g ∧ TxS w' g hi A n c keys ∧ It w' (Soft (From hi) w') C l k kids) ∧
    Tx w' (From w.heap.size) A n c keys ∧ Tx w' (From w.heap.size) B m d vals ∧ It w' (From w.heap.size) C l k kids ∧ Below w.heap.size w w'

set_option maxRecDepth 100000 in
theorem head_in (F : Nat → Prop) (p : Nat) (nodes root : Int) (sl : List Slt) (id : Int) (s : Slt) (w : World) (h : ArX w F p nodes sl root) (h1 : 1 ≤ id) (h2 : id ≤ sl.length) (hn : sl.length ≤ 65536) (hs : sl[id.toNat - 1]? = some s) (hsm : s.2.high.length ≤ 1152921504606) :
    Calls Try.prog 79 #[.pointer (some ⟨p, 0, none⟩), .int .i64 id] w (NewHeadS w s.2.lev s.2.high s.2.right 0) := by
  obtain ⟨A, n, c, bs, hY⟩ := h
  have e1 : n = sl.length := hY.len
  obtain ⟨g, s', hg, hs', _, hx⟩ := hY.slot_at h1 (by omega)
  rw [hs] at hs'
  injection hs' with hs'
  subst hs'
  obtain ⟨hA, hn', hc, kA, kn, kc, vA, vn, vc, dA, dn, dc, hb, q1, q2, q3, q4⟩ := hx
  have b1 : Below w.heap.size w (w.alloc (.cells #[.int .i64 0, .slice none 0 0, .int .i64 0] 88)) := (Below.refl _ _).alloc (Nat.le_refl _) _
  obtain ⟨z0, z1, z2, z3, z4, z5, z6, z7⟩ := blk7 (hb.below b1)
  have hY1 := hY.below b1
  have h3 : id ≤ n := by omega
  have h4 : n ≤ 65536 := by omega
  have HG := Lib.hid hg
  have Q1 := Lib.hid (q1.below b1)
  have HSM := Lib.hid hsm
  clear hg hs h2 hn e1 hb q1 q2 q3 q4 hY hsm
  have hfld := fld_head
  go_enter Try.func79, Try.ntmps79
  go_wp2_with (first | (go_at_call 94; refine (at_in F p nodes root sl A n c bs id _ hY1 h1 h3 h4 g HG.out).mono ?_; rintro e w' ⟨rfl, rfl⟩) | (go_at_call 99; refine (nclone_S ⟨s.2.lev, s.2.high, s.2.right, [], [], []⟩ (fun b => F b ∧ ¬ Mut p (.slice A n c) bs b) hA none none none hn' hc 0 0 0 0 0 0 _ Q1.out (Tx.nil _ _) (Tx.nil _ _) (It.nil _ _) ⟨HSM.out, by simp, by simp, by simp, by simp, by simp⟩).mono ?_; rintro e w1 ⟨A1, n1, c1, A2, n2, c2, A3, n3, c3, A4, n4, c4, gk, hk, rfl, hgk, r1, r2, r3, r4, hb1⟩; have y0 := bkeep (b := w.heap.size) (o := 0) (v := .int .i64 0) hb1 (by simp); have y1 := bkeep (b := w.heap.size) (o := 1) (v := .slice none 0 0) hb1 (by simp); have y2 := bkeep (b := w.heap.size) (o := 2) (v := .int .i64 0) hb1 (by simp); have yf : ∀ o, w1.frozen? ⟨w.heap.size, o, none⟩ = false := ((Blk.new w 88 #[.int .i64 0, .slice none 0 0, .int .i64 0]).below hb1).frozen))
  refine bodyPost_ret (v := .tuple #[.agg #[.int .i64 s.2.lev, .slice A1 n1 c1, .int .i64 s.2.right], .int .i64 0]) (by simp [results, Try.results79, go_sem, *]) rfl ?_
  have hch : Chg (One w.heap.size) w1 (((w1.setCell ⟨w.heap.size, 0, none⟩ (.int .i64 s.2.lev)).setCell ⟨w.heap.size, 1, none⟩ (.slice A1 n1 c1)).setCell ⟨w.heap.size, 2, none⟩ (.int .i64 s.2.right)) := (chg2 w1 w.heap.size 0 1 _ _).setCell (p := ⟨w.heap.size, 2, none⟩) (fun _ => rfl) _
  have hB1 := b1.trans (hb1.mono b1.size)
  have no : ∀ b, From (w.heap.size + 1) b → ¬ One w.heap.size b := fun b hb e => by simp only [From, One] at hb e; omega
  refine ⟨A1, n1, c1, rfl, ((r1.weak (G := Soft (From (w.heap.size + 1)) w1) (Soft.weak (fun b hb => by simpa [From] using hb))).soft_chg hch no).weak (Soft.weak (fun b hb => ?_)), hB1.trans (hch.below_of hB1.size (fun b hb e => ?_))⟩
  · simp only [From] at hb ⊢; omega
  · simp only [One] at e; omega

set_option maxRecDepth 100000 in
theorem body_in (F : Nat → Prop) (p : Nat) (nodes root : Int) (sl : List Slt) (id : Int) (s : Slt) (w : World) (h : ArX w F p nodes sl root) (h1 : 1 ≤ id) (h2 : id ≤ sl.length) (hn : sl.length ≤ 65536) (hs : sl[id.toNat - 1]? = some s) (hsm : Small s.2) :
    Calls Try.prog 80 #[.pointer (some ⟨p, 0, none⟩), .int .i64 id] w (NewBodyS w s.2.keys s.2.vals s.2.kids 0) := by
  obtain ⟨A, n, c, bs, hY⟩ := h
  have e1 : n = sl.length := hY.len
  obtain ⟨g, s', hg, hs', _, hx⟩ := hY.slot_at h1 (by omega)
  rw [hs] at hs'
  injection hs' with hs'
  subst hs'
  obtain ⟨hA, hn', hc, kA, kn, kc, vA, vn, vc, dA, dn, dc, hb, q1, q2, q3, q4⟩ := hx
  have b1 : Below w.heap.size w (w.alloc (.cells #[.slice none 0 0, .slice none 0 0, .slice none 0 0] 91)) := (Below.refl _ _).alloc (Nat.le_refl _) _
  obtain ⟨z0, z1, z2, z3, z4, z5, z6, z7⟩ := blk7 (hb.below b1)
  have hY1 := hY.below b1
  have h3 : id ≤ n := by omega
  have h4 : n ≤ 65536 := by omega
  have HG := Lib.hid hg
  have Q2 := Lib.hid (q2.below b1)
  have Q3 := Lib.hid (q3.below b1)
  have Q4 := Lib.hid (q4.below b1)
  have HSM := Lib.hid hsm
  clear hg hs h2 hn e1 hb q1 q2 q3 q4 hY hsm
  have hfld := fld_body
  go_enter Try.func80, Try.ntmps80
  go_wp2_with (first | (go_at_call 94; refine (at_in F p nodes root sl A n c bs id _ hY1 h1 h3 h4 g HG.out).mono ?_; rintro e w' ⟨rfl, rfl⟩) | (go_at_call 99; refine (nclone_S ⟨0, [], 0, s.2.keys, s.2.vals, s.2.kids⟩ (fun b => F b ∧ ¬ Mut p (.slice A n c) bs b) none kA vA dA 0 0 kn kc vn vc dn dc _ (Bt.nil _ _) Q2.out Q3.out Q4.out ⟨by simp, HSM.out.2.1, HSM.out.2.2.1, HSM.out.2.2.2.1, HSM.out.2.2.2.2.1, HSM.out.2.2.2.2.2⟩).mono ?_; rintro e w1 ⟨A1, n1, c1, A2, n2, c2, A3, n3, c3, A4, n4, c4, gk, hk, rfl, hgk, r1, r2, r3, r4, hb1⟩; have y0 := bkeep (b := w.heap.size) (o := 0) (v := .slice none 0 0) hb1 (by simp); have y1 := bkeep (b := w.heap.size) (o := 1) (v := .slice none 0 0) hb1 (by simp); have y2 := bkeep (b := w.heap.size) (o := 2) (v := .slice none 0 0) hb1 (by simp); have yf : ∀ o, w1.frozen? ⟨w.heap.size, o, none⟩ = false := ((Blk.new w 91 #[.slice none 0 0, .slice none 0 0, .slice none 0 0]).below hb1).frozen))
  refine bodyPost_ret (v := .tuple #[.agg #[.slice A2 n2 c2, .slice A3 n3 c3, .slice A4 n4 c4], .int .i64 0]) (by simp [results, Try.results80, go_sem, *]) rfl ?_
  have hch : Chg (One w.heap.size) w1 (((w1.setCell ⟨w.heap.size, 0, none⟩ (.slice A2 n2 c2)).setCell ⟨w.heap.size, 1, none⟩ (.slice A3 n3 c3)).setCell ⟨w.heap.size, 2, none⟩ (.slice A4 n4 c4)) := (chg2 w1 w.heap.size 0 1 _ _).setCell (p := ⟨w.heap.size, 2, none⟩) (fun _ => rfl) _
  have hB1 := b1.trans (hb1.mono b1.size)
  have up : ∀ b, From (w.heap.size + 1) b → From w.heap.size b := fun b hb => by simp only [From] at hb ⊢; omega
  have no : ∀ b, From (w.heap.size + 1) b → ¬ One w.heap.size b := fun b hb e => by simp only [From, One] at hb e; omega
  have hgs : w.heap.size + 1 ≤ gk := by simpa using hgk
  have R2 : TxS _ gk hk A2 n2 c2 s.2.keys := r2.chg hch (fun b h1 _ e => by simp only [One] at e; omega)
  have hlt : gk < hk := r2.2.2.2.2.1
  have R4 := r4.soft_chg hch (fun b hb e => by simp only [From, One] at hb e; omega)
  exact ⟨A2, n2, c2, A3, n3, c3, A4, n4, c4, rfl, .inr ⟨gk, hk, by omega, R2, R4⟩, R2.tx (by omega), ((r3.weak (G := From (w.heap.size + 1)) (fun b hb => by simpa [From] using hb)).chg hch no).weak up,
    R4.weak (fun b hb => by have hb := hb.1; simp only [From] at hb ⊢; omega), hB1.trans (hch.below_of hB1.size (fun b hb e => by simp only [One] at e; omega))⟩

set_option maxRecDepth 100000 in
theorem head_out (F : Nat → Prop) (p : Nat) (nodes root : Int) (sl : List Slt) (id : Int) (w : World) (h : ArX w F p nodes sl root) (h1 : id < 1 ∨ (sl.length : Int) < id) :
    Calls Try.prog 79 #[.pointer (some ⟨p, 0, none⟩), .int .i64 id] w (NewHeadS w 0 [] 0 101) := by
  obtain ⟨A, n, c, bs, hY⟩ := h
  have e1 : n = sl.length := hY.len
  have h3 : id < 1 ∨ (n : Int) < id := by omega
  have b1 : Below w.heap.size w (w.alloc (.cells #[.int .i64 0, .slice none 0 0, .int .i64 0] 88)) := (Below.refl _ _).alloc (Nat.le_refl _) _
  have hY1 := hY.below b1
  clear h1 e1 hY
  go_enter Try.func79, Try.ntmps79
  go_wp2_with (first | (go_at_call 94; refine (at_out F p nodes root sl A n c bs id _ hY1 h3).mono ?_; rintro e w' ⟨rfl, rfl⟩))
  refine bodyPost_ret (v := .tuple #[.agg #[.int .i64 0, .slice none 0 0, .int .i64 0], .int .i64 101]) (by simp [results, Try.results79, go_sem]) rfl ?_
  exact ⟨none, 0, 0, rfl, Bt.nil _ _, b1⟩
set_option maxRecDepth 100000 in
theorem body_out (F : Nat → Prop) (p : Nat) (nodes root : Int) (sl : List Slt) (id : Int) (w : World) (h : ArX w F p nodes sl root) (h1 : id < 1 ∨ (sl.length : Int) < id) :
    Calls Try.prog 80 #[.pointer (some ⟨p, 0, none⟩), .int .i64 id] w (NewBodyS w [] [] [] 101) := by
  obtain ⟨A, n, c, bs, hY⟩ := h
  have e1 : n = sl.length := hY.len
  have h3 : id < 1 ∨ (n : Int) < id := by omega
  have b1 : Below w.heap.size w (w.alloc (.cells #[.slice none 0 0, .slice none 0 0, .slice none 0 0] 91)) := (Below.refl _ _).alloc (Nat.le_refl _) _
  have hY1 := hY.below b1
  clear h1 e1 hY
  go_enter Try.func80, Try.ntmps80
  go_wp2_with (first | (go_at_call 94; refine (at_out F p nodes root sl A n c bs id _ hY1 h3).mono ?_; rintro e w' ⟨rfl, rfl⟩))
  refine bodyPost_ret (v := .tuple #[.agg #[.slice none 0 0, .slice none 0 0, .slice none 0 0], .int .i64 101]) (by simp [results, Try.results80, go_sem]) rfl ?_
  exact ⟨none, 0, 0, none, 0, 0, none, 0, 0, rfl, .inl ⟨rfl, rfl, rfl, rfl⟩, Tx.nil _ _, Tx.nil _ _, It.nil _ _, b1⟩

theorem used_any (F : Nat → Prop) (p : Nat) (nodes root : Int) (sl : List Slt) (w : World) (h : ArX w F p nodes sl root) :
    Calls Try.prog 28 #[.pointer (some ⟨p, 0, none⟩)] w fun e w' => e = .returned (.int .i64 sl.length) ∧ w = w' := by
  obtain ⟨A, n, c, bs, hY⟩ := h
  have HL := Lib.hid hY.len
  obtain ⟨c0, c1, c2, cf⟩ := hY.cells
  clear hY
  go_enter Try.func28, Try.ntmps28
  go_wp2
  go_ret
  exact ⟨ret_int (by have : n = sl.length := HL.out.out; omega), rfl⟩
theorem left_any (F : Nat → Prop) (p : Nat) (nodes root : Int) (sl : List Slt) (w : World) (h : ArX w F p nodes sl root) (h1 : sl.length ≤ 65536) (h2 : 0 ≤ nodes) (h3 : nodes ≤ 65536) :
    Calls Try.prog 56 #[.pointer (some ⟨p, 0, none⟩)] w fun e w' => e = .returned (.int .i64 (nodes - sl.length)) ∧ ∃ q, w' = w.drewN q := by
  obtain ⟨A, n, c, bs, hY⟩ := h
  have HL := Lib.hid hY.len
  have h4 : n ≤ 65536 := by have : n = sl.length := hY.len; omega
  obtain ⟨c0, c1, c2, cf⟩ := hY.cells
  clear hY h1
  go_enter Try.func56, Try.ntmps56
  have e1 := IntWalk.i64_in (nodes - (n : Int)) (by omega)
  go_wp2
  go_quiet (fail)
  go_wp2
  go_ret
  exact ⟨ret_int (by have : n = sl.length := HL.out.out; omega), _, rfl⟩
theorem root_any (F : Nat → Prop) (p : Nat) (nodes root : Int) (sl : List Slt) (w : World) (h : ArX w F p nodes sl root) :
    Calls Try.prog 48 #[.pointer (some ⟨p, 0, none⟩)] w fun e w' => e = .returned (.int .i64 root) ∧ w = w' := by
  obtain ⟨A, n, c, bs, hY⟩ := h
  obtain ⟨c0, c1, c2, cf⟩ := hY.cells
  clear hY
  go_enter Try.func48, Try.ntmps48
  go_wp2_with (first | (go_at_call 78; refine (i64load_any _ _ _ _ c2).mono ?_; rintro e w' ⟨rfl, rfl⟩))
  go_ret
  exact ⟨rfl, rfl⟩
end Go.Proofs.Ytgjphmlmndcaeaa

namespace Go.Proofs.Ytgjphmlmndcaeaa
open Go.RowKit

theorem ptr_info : (Try.prog.info? 120).map (fun i => (i.zero, i.size, i.bytes)) = some (some (.pointer none), 1, 8) := by kernel_rfl

set_option maxRecDepth 100000 in
theorem alloc_full (F : Nat → Prop) (p : Nat) (nodes root : Int) (sl : List Slt) (w : World) (h : ArX w F p nodes sl root) (hf : (sl.length : Int) = nodes) :
    Calls Try.prog 105 #[.pointer (some ⟨p, 0, none⟩)] w fun e w' => e = .returned (.tuple #[.int .i64 0, .int .i64 2]) ∧ ∃ q, w' = w.drewN q := by
  obtain ⟨A, n, c, bs, hY⟩ := h
  have e1 : n = sl.length := hY.len
  have hb : ((n : Int) == nodes) = true := by rw [beq_iff_eq]; omega
  obtain ⟨c0, c1, c2, cf⟩ := hY.cells
  clear e1 hf hY
  go_enter Try.func105, Try.ntmps105
  go_wp2
  go_quiet (fail)
  go_wp2
  go_ret2
  exact ⟨rfl, _, rfl⟩

/-- what a block of three cells gives a walk -/
theorem blk3 {w : World} {g : Nat} {t : TypeId} {v0 v1 v2 : Value} (h : Blk w g t #[v0, v1, v2]) :
    w.cell? ⟨g, 0, none⟩ = some v0 ∧ w.cell? ⟨g, 1, none⟩ = some v1 ∧ w.cell? ⟨g, 2, none⟩ = some v2 ∧ (∀ o, w.frozen? ⟨g, o, none⟩ = false) :=
  ⟨by rw [h.cell]; rfl, by rw [h.cell]; rfl, by rw [h.cell]; rfl, h.frozen⟩
theorem arow_p2 {w w' : World} {p : Nat} {t : TypeId} {cs : Array Value} {v : Value} (h : Blk w p t cs) (hg : w.grownBy w' v.ownBlock) (hp : v.ownBlock ≠ some p) : Blk w' p t cs :=
  h.chg ((Chg.refl (fun b => v.ownBlock = some b) w).grown hg (fun b _ _ => by assumption)) hp

/-- a slot more -/
def Allocd (w : World) (F : Nat → Prop) (p : Nat) (nodes root : Int) (sl : List Slt) (e : Ending) (w' : World) : Prop :=
  e = .returned (.tuple #[.int .i64 ((sl.length : Int) + 1), .int .i64 0]) ∧ ArX w' (fun b => F b ∨ w.heap.size ≤ b) p nodes (sl ++ [(1, Nd.zero)]) root ∧ Chg F w w'

set_option maxRecDepth 100000 in
theorem alloc_ok (F : Nat → Prop) (p : Nat) (nodes root : Int) (sl : List Slt) (w : World) (h : ArX w F p nodes sl root) (hf : (sl.length : Int) < nodes) (hn : nodes ≤ 65536) :
    Calls Try.prog 105 #[.pointer (some ⟨p, 0, none⟩)] w (Allocd w F p nodes root sl) := by
  obtain ⟨i0, hi0, iz0, iz1, iz2⟩ := info_parts ptr_info
  obtain ⟨A, n, c, bs, hY⟩ := h
  have e1 : n = sl.length := hY.len
  have HL := Lib.hid e1
  have hb : ((n : Int) == nodes) = false := by rw [beq_eq_false_iff_ne]; omega
  have hn2 : n ≤ 65536 := by omega
  obtain ⟨c0, c1, c2, cf⟩ := hY.cells
  have HY := Lib.hid hY
  have hpl := hY.blk.lt
  clear e1 hf hY
  go_enter Try.func105, Try.ntmps105
  go_wp2
  go_quiet (fail)
  rename_i nq
  have kx : Blk ((w.drewN nq).alloc (.cells (slot0 0) 124)) w.heap.size 124 (slot0 0) := Blk.new (w.drewN nq) _ _
  go_wp2_with fail
  refine (u64store_any _ _ (.int .u64 0) _ _ (kx.cell 0) (kx.frozen 0)).mono ?_
  rintro e w1 ⟨rfl, hw1⟩
  have k1 : Blk w1 w.heap.size 124 (slot0 1) := by rw [← hw1]; exact kx.set_ 0 _
  have hb1 : Below w.heap.size w w1 := by rw [← hw1]; exact ((below_drewN (Below.refl _ _) nq).alloc (Nat.le_refl _) _).setCell (p := ⟨w.heap.size, 0, none⟩) (Nat.le_refl _) _
  clear hw1 kx
  have hY1 := HY.out.below hb1
  obtain ⟨d0, d1, d2, df⟩ := hY1.cells
  have HR1 := Lib.hid hY1.row
  have HY1 := Lib.hid hY1
  clear hY1
  go_wp2_with (at_builtin; go_loud (refine wpList_append_any _ rfl (.tmp 25) (.tmp 27) _ rfl 0 120 i0 _ 1 8 Try.underlying112 hi0 iz0 iz1 iz2 rfl (by omega) (.slice A n c) n (bs.map ptr) rfl (HR1.out.alloc _) (From w1.heap.size) (some ⟨w1.heap.size, 0, none⟩) 1 1 [ptr w.heap.size] rfl (Rd.one w1 _ _) (by intro u hu; simp at hu; subst hu; rfl) (by simp only [maxLen]; omega) (by omega) (by simp) ?_); intro v2 w2 hown2 hg2 hat2; obtain ⟨A2, c2', hv2, r1, r2⟩ := own_val hown2; subst hv2; have hp2 := arow_p2 (HY1.out.blk.alloc (.cells #[.pointer (some ⟨w.heap.size, 0, none⟩)] 120)) hg2 HY1.out.row_p; obtain ⟨p0, p1, p2, pf⟩ := blk3 hp2; have HO2 := Lib.hid hown2; have HA2 := Lib.hid hat2; clear hown2 hat2)
  go_ret2
  obtain ⟨q1, q2⟩ := HY.out.push rfl (hb1.alloc hb1.size _) (k1.alloc (.cells #[.pointer (some ⟨w.heap.size, 0, none⟩)] 120)) HO2.out hg2 HA2.out rfl
  exact ⟨by rw [HL.out]; rfl, ⟨A2, n + 1, c2', _, q1⟩, q2⟩

/-- a latch is taken -/
theorem lock_hit (F : Nat → Prop) (p : Nat) (nodes root : Int) (sl : List Slt) (id : Int) (s : Slt) (w : World) (h : ArX w F p nodes sl root) (h1 : 1 ≤ id) (h2 : id ≤ sl.length) (hn : sl.length ≤ 65536) (hs : sl[id.toNat - 1]? = some s) (h0 : 0 ≤ s.1) (hm : s.1 ≤ 4611686018427387904)
    (he : s.1 % 2 = 0) :
    Calls Try.prog 104 #[.pointer (some ⟨p, 0, none⟩), .int .i64 id, .int .u64 s.1] w fun e w' => e = .returned (.tuple #[.bool true, .int .i64 0]) ∧ ArX w' F p nodes (sl.set (id.toNat - 1) (s.1 + 1, s.2)) root ∧ Chg F w w' := by
  obtain ⟨A, n, c, bs, hY⟩ := h
  have e1 : n = sl.length := hY.len
  obtain ⟨g, s', hg, hs', hFg, hx⟩ := hY.slot_at h1 (by omega)
  rw [hs] at hs'
  injection hs' with hs'
  subst hs'
  have HX := Lib.hid hx
  have HF := Lib.hid hFg
  have hgm : g ∈ bs := List.mem_of_getElem? hg
  obtain ⟨hA, hn', hc, kA, kn, kc, vA, vn, vc, dA, dn, dc, hb, q1, q2, q3, q4⟩ := hx
  obtain ⟨z0, z1, z2, z3, z4, z5, z6, z7⟩ := blk7 hb
  have zf : w.frozen? ⟨g, 0, none⟩ = false := z7 0
  have h3 : id ≤ n := by omega
  have h4 : n ≤ 65536 := by omega
  have HG := Lib.hid hg
  have HB := Lib.hid hb
  have hand : bits BinOp.and IntKind.u64 s.1 1 = s.1 % 2 := and_one_u64 s.1 h0 (by omega)
  have hev : (s.1 % 2 == 0) = true := by rw [beq_iff_eq]; exact he
  clear hg hs h2 hn e1 hb he hFg
  go_enter Try.func104, Try.ntmps104
  go_wp2_with (first | (go_at_call 94; refine (at_in F p nodes root sl A n c bs id _ hY h1 h3 h4 g HG.out).mono ?_; rintro e w' ⟨rfl, rfl⟩) | (go_at_call 118; refine (u64cas_hit _ _ _ _ _ z0 zf).mono ?_; rintro e w' ⟨rfl, rfl⟩))
  go_ret2
  have hch := Chg.set1 w g 0 (.int .u64 (s.1 + 1))
  exact ⟨rfl, ⟨A, n, c, bs, hY.upd HG.out hch (fun _ h => h) (HX.out.setWord (fun hc => hc.2 (.inr (.inr hgm))) _)⟩, hch.mono (fun b _ e => (show b = g from e) ▸ HF.out)⟩

/-- a slot whose latch is held -/
theorem under_ok (F : Nat → Prop) (p : Nat) (nodes root : Int) (sl : List Slt) (A : Option Addr) (n c : Nat) (bs : List Nat) (id : Int) (s : Slt) (w : World) (hY : ArY w F p nodes sl root A n c bs) (h1 : 1 ≤ id) (h3 : id ≤ n) (h4 : n ≤ 65536) (g : Nat) (hg : bs[id.toNat - 1]? = some g) (hs : sl[id.toNat - 1]? = some s) (h0 : 0 ≤ s.1) (hm : s.1 ≤ 4611686018427387904)
    (he : s.1 % 2 = 1) :
    Calls Try.prog 120 #[.pointer (some ⟨p, 0, none⟩), .int .i64 id] w fun e w' => e = .returned (.tuple #[.pointer (some ⟨g, 0, none⟩), .int .i64 0]) ∧ w = w' := by
  obtain ⟨hA, hn', hc, kA, kn, kc, vA, vn, vc, dA, dn, dc, hb, q1, q2, q3, q4⟩ := hY.slot _ g s hg hs
  obtain ⟨z0, z1, z2, z3, z4, z5, z6, z7⟩ := blk7 hb
  have HG := Lib.hid hg
  have hand : bits BinOp.and IntKind.u64 s.1 1 = s.1 % 2 := and_one_u64 s.1 h0 (by omega)
  have hev : (s.1 % 2 == 0) = false := by rw [beq_eq_false_iff_ne]; omega
  clear hg hs hb he
  go_enter Try.func120, Try.ntmps120
  go_wp2_with (first | (go_at_call 94; refine (at_in F p nodes root sl A n c bs id _ hY h1 h3 h4 g HG.out).mono ?_; rintro e w' ⟨rfl, rfl⟩) | (go_at_call 52; refine (u64load_any _ _ _ _ z0).mono ?_; rintro e w' ⟨rfl, rfl⟩))
  go_ret2
  exact ⟨rfl, rfl⟩

/-- a latch is given back, behind a change -/
theorem unlock_true (F : Nat → Prop) (p : Nat) (nodes root : Int) (sl : List Slt) (id : Int) (s : Slt) (w : World) (h : ArX w F p nodes sl root) (h1 : 1 ≤ id) (h2 : id ≤ sl.length) (hn : sl.length ≤ 65536) (hs : sl[id.toNat - 1]? = some s) (h0 : 0 ≤ s.1) (hm : s.1 ≤ 4611686018427387904)
    (he : s.1 % 2 = 1) :
    Calls Try.prog 108 #[.pointer (some ⟨p, 0, none⟩), .int .i64 id, .bool true] w fun e w' => e = .returned (.int .i64 0) ∧ ArX w' F p nodes (sl.set (id.toNat - 1) (s.1 + 1, s.2)) root ∧ Chg F w w' := by
  have HS := Lib.hid hs
  obtain ⟨A, n, c, bs, hY⟩ := h
  have e1 : n = sl.length := hY.len
  obtain ⟨g, s', hg, hs', hFg, hx⟩ := hY.slot_at h1 (by omega)
  rw [hs] at hs'
  injection hs' with hs'
  subst hs'
  have HX := Lib.hid hx
  have HF := Lib.hid hFg
  have hgm : g ∈ bs := List.mem_of_getElem? hg
  obtain ⟨hA, hn', hc, kA, kn, kc, vA, vn, vc, dA, dn, dc, hb, q1, q2, q3, q4⟩ := hx
  obtain ⟨z0, z1, z2, z3, z4, z5, z6, z7⟩ := blk7 hb
  have zf : w.frozen? ⟨g, 0, none⟩ = false := z7 0
  have h3 : id ≤ n := by omega
  have h4 : n ≤ 65536 := by omega
  have HG := Lib.hid hg
  have HB := Lib.hid hb
  have hand : bits BinOp.and IntKind.u64 s.1 1 = s.1 % 2 := and_one_u64 s.1 h0 (by omega)
  have HW : Hid (IntKind.u64.wrap (s.1 + 1) = s.1 + 1) := Lib.hid (IntWalk.u64_in _ (by omega))
  have HE := Lib.hid he
  clear hg hs h2 hn e1 hb he hFg hand
  go_enter Try.func108, Try.ntmps108
  go_wp2_with (first | (go_at_call 120; refine (under_ok F p nodes root sl A n c bs id s _ hY h1 h3 h4 g HG.out HS.out h0 hm HE.out).mono ?_; rintro e w' ⟨rfl, rfl⟩) | (go_at_call 121; refine (u64add_any _ _ _ _ _ z0 zf).mono ?_; rintro e w' ⟨rfl, rfl⟩; rw [HW.out]))
  go_ret
  have hch := Chg.set1 w g 0 (.int .u64 (s.1 + 1))
  exact ⟨rfl, ⟨A, n, c, bs, hY.upd HG.out hch (fun _ h => h) (HX.out.setWord (fun hc => hc.2 (.inr (.inr hgm))) _)⟩, hch.mono (fun b _ e => (show b = g from e) ▸ HF.out)⟩

set_option maxRecDepth 100000 in
theorem setHead_ok (F : Nat → Prop) (p : Nat) (nodes root : Int) (sl : List Slt) (id : Int) (s : Slt) (w : World) (h : ArX w F p nodes sl root) (h1 : 1 ≤ id) (h2 : id ≤ sl.length) (hn : sl.length ≤ 65536) (hs : sl[id.toNat - 1]? = some s) (h0 : 0 ≤ s.1) (hm : s.1 ≤ 4611686018427387904)
    (he : s.1 % 2 = 1) (G : Nat → Prop) (B : Option Addr) (m d : Nat) (lev right : Int) (high : List UInt8) (hB : Bt w G B m d high) (hsm : high.length ≤ 1152921504606) :
    Calls Try.prog 106 #[.pointer (some ⟨p, 0, none⟩), .int .i64 id, .agg #[.int .i64 lev, .slice B m d, .int .i64 right]] w fun e w' =>
      e = .returned (.int .i64 0) ∧ ArX w' (fun b => F b ∨ w.heap.size ≤ b) p nodes (sl.set (id.toNat - 1) (s.1, ⟨lev, high, right, s.2.keys, s.2.vals, s.2.kids⟩)) root ∧ Chg F w w' := by
  have HS := Lib.hid hs
  obtain ⟨A, n, c, bs, hY⟩ := h
  have e1 : n = sl.length := hY.len
  obtain ⟨g, s', hg, hs', hFg, hx⟩ := hY.slot_at h1 (by omega)
  rw [hs] at hs'
  injection hs' with hs'
  subst hs'
  have HX := Lib.hid hx
  have HF := Lib.hid hFg
  have hgm : g ∈ bs := List.mem_of_getElem? hg
  obtain ⟨hA, hn', hc, kA, kn, kc, vA, vn, vc, dA, dn, dc, hb, q1, q2, q3, q4⟩ := hx
  obtain ⟨z0, z1, z2, z3, z4, z5, z6, z7⟩ := blk7 hb
  have zf : w.frozen? ⟨g, 0, none⟩ = false := z7 0
  have h3 : id ≤ n := by omega
  have h4 : n ≤ 65536 := by omega
  have HG := Lib.hid hg
  have HB := Lib.hid hb
  have hand : bits BinOp.and IntKind.u64 s.1 1 = s.1 % 2 := and_one_u64 s.1 h0 (by omega)
  have b1 : Below w.heap.size w (w.alloc (.cells #[.int .i64 lev, .slice B m d, .int .i64 right] 88)) := (Below.refl _ _).alloc (Nat.le_refl _) _
  have hY1 := hY.below b1
  have HBB := Lib.hid (hB.below b1)
  have HSM := Lib.hid hsm
  have HE := Lib.hid he
  have hfld := fld_head
  have HY := Lib.hid hY
  have hgs := hY.lt_bs hgm
  clear hg hs h2 hn e1 hb he hFg hand hB hsm hY z0 z1 z2 z3 z4 z5 z6 z7 zf
  go_enter Try.func106, Try.ntmps106
  go_wp2_with (first | (go_at_call 120; refine (under_ok F p nodes root sl A n c bs id s _ hY1 h1 h3 h4 g HG.out HS.out h0 hm HE.out).mono ?_; rintro e w' ⟨rfl, rfl⟩))
  refine (nclone_any ⟨lev, high, right, [], [], []⟩ G B none none none m d 0 0 0 0 0 0 _ HBB.out (Tx.nil _ _) (Tx.nil _ _) (It.nil _ _) ⟨HSM.out, by simp, by simp, by simp, by simp, by simp⟩).mono ?_
  rintro e w1 ⟨A1, n1, c1, A2, n2, c2, A3, n3, c3, A4, n4, c4, rfl, r1, r2, r3, r4, hb1⟩
  have hB1 : Below w.heap.size w w1 := b1.trans (hb1.mono b1.size)
  obtain ⟨z0, z1, z2, z3, z4, z5, z6, z7⟩ := blk7 (HB.out.below hB1)
  go_wp2
  go_ret
  have hch := set3_chg w1 g 1 2 3 (.int .i64 lev) (.slice A1 n1 c1) (.int .i64 right)
  have hx1 : SlotX w1 (fun b => (F b ∨ w.heap.size ≤ b) ∧ ¬ Mut p (.slice A n c) bs b) g s := (HX.out.chg (Chg.of_below (S := Nil) hB1) (fun hf => hf) (fun _ _ hf => hf)).weak (fun b hb => ⟨.inl hb.1, hb.2⟩)
  have hYl := HY.out
  have hr1 : Bt w1 (fun b => (F b ∨ w.heap.size ≤ b) ∧ ¬ Mut p (.slice A n c) bs b) A1 n1 c1 high := r1.weak (fun b hb => ⟨.inr (by simp only [From, World.size_alloc] at hb; omega), hYl.mut_lt (by simp only [From, World.size_alloc] at hb; omega)⟩)
  refine ⟨rfl, ⟨A, n, c, bs, (hYl.below hB1).upd HG.out hch (fun b hb => .inl hb) (hx1.setHead (fun hc => hc.2 (.inr (.inr hgm))) hr1)⟩, ?_⟩
  exact (Chg.of_below (S := F) hB1).trans hch (fun b _ e => (show b = g from e) ▸ HF.out)

set_option maxRecDepth 100000 in
theorem setBody_ok (F : Nat → Prop) (p : Nat) (nodes root : Int) (sl : List Slt) (id : Int) (s : Slt) (w : World) (h : ArX w F p nodes sl root) (h1 : 1 ≤ id) (h2 : id ≤ sl.length) (hn : sl.length ≤ 65536) (hs : sl[id.toNat - 1]? = some s) (h0 : 0 ≤ s.1) (hm : s.1 ≤ 4611686018427387904)
    (he : s.1 % 2 = 1) (G : Nat → Prop) (B1 B2 B3 : Option Addr) (m1 d1 m2 d2 m3 d3 : Nat) (keys vals : List (List UInt8)) (kids : List Int) (hK : Tx w G B1 m1 d1 keys) (hV : Tx w G B2 m2 d2 vals) (hI : It w G B3 m3 d3 kids) (hsm : Small ⟨0, [], 0, keys, vals, kids⟩) :
    Calls Try.prog 107 #[.pointer (some ⟨p, 0, none⟩), .int .i64 id, .agg #[.slice B1 m1 d1, .slice B2 m2 d2, .slice B3 m3 d3]] w fun e w' =>
      e = .returned (.int .i64 0) ∧ ArX w' (fun b => F b ∨ w.heap.size ≤ b) p nodes (sl.set (id.toNat - 1) (s.1, ⟨s.2.lev, s.2.high, s.2.right, keys, vals, kids⟩)) root ∧ Chg F w w' := by
  have HS := Lib.hid hs
  obtain ⟨A, n, c, bs, hY⟩ := h
  have e1 : n = sl.length := hY.len
  obtain ⟨g, s', hg, hs', hFg, hx⟩ := hY.slot_at h1 (by omega)
  rw [hs] at hs'
  injection hs' with hs'
  subst hs'
  have HX := Lib.hid hx
  have HF := Lib.hid hFg
  have hgm : g ∈ bs := List.mem_of_getElem? hg
  obtain ⟨hA, hn', hc, kA, kn, kc, vA, vn, vc, dA, dn, dc, hb, q1, q2, q3, q4⟩ := hx
  have h3 : id ≤ n := by omega
  have h4 : n ≤ 65536 := by omega
  have HG := Lib.hid hg
  have HB := Lib.hid hb
  have b1 : Below w.heap.size w (w.alloc (.cells #[.slice B1 m1 d1, .slice B2 m2 d2, .slice B3 m3 d3] 91)) := (Below.refl _ _).alloc (Nat.le_refl _) _
  have hY1 := hY.below b1
  have HK := Lib.hid (hK.below b1)
  have HV := Lib.hid (hV.below b1)
  have HI := Lib.hid (hI.below b1)
  have HSM := Lib.hid hsm
  have HE := Lib.hid he
  have hfld := fld_body
  have HY := Lib.hid hY
  have hgs := hY.lt_bs hgm
  clear hg hs h2 hn e1 hb he hFg hK hV hI hsm hY
  go_enter Try.func107, Try.ntmps107
  go_wp2_with (first | (go_at_call 120; refine (under_ok F p nodes root sl A n c bs id s _ hY1 h1 h3 h4 g HG.out HS.out h0 hm HE.out).mono ?_; rintro e w' ⟨rfl, rfl⟩))
  refine (nclone_any ⟨0, [], 0, keys, vals, kids⟩ G none B1 B2 B3 0 0 m1 d1 m2 d2 m3 d3 _ (Bt.nil _ _) HK.out HV.out HI.out HSM.out).mono ?_
  rintro e w1 ⟨A1, n1, c1, A2, n2, c2, A3, n3, c3, A4, n4, c4, rfl, r1, r2, r3, r4, hb1⟩
  have hB1 : Below w.heap.size w w1 := b1.trans (hb1.mono b1.size)
  obtain ⟨z0, z1, z2, z3, z4, z5, z6, z7⟩ := blk7 (HB.out.below hB1)
  go_wp2
  go_ret
  have hch := set3_chg w1 g 4 5 6 (.slice A2 n2 c2) (.slice A3 n3 c3) (.slice A4 n4 c4)
  have hx1 : SlotX w1 (fun b => (F b ∨ w.heap.size ≤ b) ∧ ¬ Mut p (.slice A n c) bs b) g s := (HX.out.chg (Chg.of_below (S := Nil) hB1) (fun hf => hf) (fun _ _ hf => hf)).weak (fun b hb => ⟨.inl hb.1, hb.2⟩)
  have hYl := HY.out
  have up : ∀ b, From (w.alloc (.cells #[.slice B1 m1 d1, .slice B2 m2 d2, .slice B3 m3 d3] 91)).heap.size b → ((F b ∨ w.heap.size ≤ b) ∧ ¬ Mut p (.slice A n c) bs b) := fun b hb => ⟨.inr (by simp only [From, World.size_alloc] at hb; omega), hYl.mut_lt (by simp only [From, World.size_alloc] at hb; omega)⟩
  refine ⟨rfl, ⟨A, n, c, bs, (hYl.below hB1).upd HG.out hch (fun b hb => .inl hb) (hx1.setBody (fun hc => hc.2 (.inr (.inr hgm))) (r2.weak up) (r3.weak up) (r4.weak up))⟩, ?_⟩
  exact (Chg.of_below (S := F) hB1).trans hch (fun b _ e => (show b = g from e) ▸ HF.out)

theorem grow_hit (F : Nat → Prop) (p : Nat) (nodes root : Int) (sl : List Slt) (id : Int) (w : World) (h : ArX w F p nodes sl root) (h1 : 1 ≤ id) (h2 : id ≤ sl.length) (hn : sl.length ≤ 65536) (hr : -9223372036854775808 ≤ root ∧ root ≤ 9223372036854775807) :
    Calls Try.prog 63 #[.pointer (some ⟨p, 0, none⟩), .int .i64 root, .int .i64 id] w fun e w' => e = .returned (.tuple #[.bool true, .int .i64 0]) ∧ ArX w' F p nodes sl id ∧ Chg F w w' := by
  obtain ⟨A, n, c, bs, hY⟩ := h
  have e1 : n = sl.length := hY.len
  obtain ⟨g, s', hg, hs', hFg, hx⟩ := hY.slot_at h1 (by omega)
  obtain ⟨c0, c1, c2, cf⟩ := hY.cells
  have zf : w.frozen? ⟨p, 2, none⟩ = false := cf 2
  have h3 : id ≤ n := by omega
  have h4 : n ≤ 65536 := by omega
  have HG := Lib.hid hg
  have HY := Lib.hid hY
  clear hg hs' h2 hn e1 hx hFg
  go_enter Try.func63, Try.ntmps63
  go_wp2_with (first | (go_at_call 94; refine (at_in F p nodes root sl A n c bs id _ HY.out h1 h3 h4 g HG.out).mono ?_; rintro e w' ⟨rfl, rfl⟩) | (go_at_call 95; refine (i64cas_hit _ _ _ _ _ c2 zf).mono ?_; rintro e w' ⟨rfl, rfl⟩))
  go_ret2
  exact ⟨rfl, ⟨A, n, c, bs, HY.out.setRoot id⟩, (Chg.set1 w p 2 _).mono (fun b _ e => (show b = p from e) ▸ HY.out.fp)⟩

/-- an arena of one slot -/
def NewArena (w : World) (nodes : Int) (e : Ending) (w' : World) : Prop :=
  ∃ p, e = .returned (.tuple #[.pointer (some ⟨p, 0, none⟩), .int .i64 0]) ∧ ArX w' (From w.heap.size) p nodes [(0, Nd.zero)] 1 ∧ Below w.heap.size w w'
theorem three_blk' (w : World) (t0 t1 t2 : TypeId) (c0 c1 c2 : Array Value) :
    Blk (((w.alloc (.cells c0 t0)).alloc (.cells c1 t1)).alloc (.cells c2 t2)) w.heap.size t0 c0 ∧ Blk (((w.alloc (.cells c0 t0)).alloc (.cells c1 t1)).alloc (.cells c2 t2)) (w.heap.size + 1) t1 c1 ∧
    Blk (((w.alloc (.cells c0 t0)).alloc (.cells c1 t1)).alloc (.cells c2 t2)) (w.heap.size + 1 + 1) t2 c2 ∧ Below w.heap.size w (((w.alloc (.cells c0 t0)).alloc (.cells c1 t1)).alloc (.cells c2 t2)) := by
  refine ⟨((Blk.new w t0 c0).alloc _).alloc _, ?_, ?_, (((Below.refl _ _).alloc (Nat.le_refl _) _).alloc (by simp) _).alloc (by simp; omega) _⟩
  · have := (Blk.new (w.alloc (.cells c0 t0)) t1 c1).alloc (.cells c2 t2)
    simpa using this
  · have := Blk.new ((w.alloc (.cells c0 t0)).alloc (.cells c1 t1)) t2 c2
    simpa using this
theorem anew_is {w w1 : World} {g r p : Nat} {nodes : Int} {F : Nat → Prop} (k0 : Blk w1 g 124 (slot0 0)) (k1 : Blk w1 r 120 #[ptr g]) (k2 : Blk w1 p 119 #[.int .i64 nodes, .slice (some ⟨r, 0, none⟩) 1 1, .int .i64 0]) (h0 : F g) (h1 : F r) (h2 : F p) :
    ArY w1 F p nodes [(0, Nd.zero)] 0 (some ⟨r, 0, none⟩) 1 1 [g] := by
  refine ⟨rfl, rfl, k2, ⟨rfl, .inr ⟨r, 1, #[ptr g], rfl, Nat.zero_le _, k1, Nat.le_refl _, by simp [maxLen], rfl, rfl⟩⟩, h2, fun b hb => ?_, fun b hb => ?_, by simp, fun i g' s hg hs => ?_⟩
  · have hb : r = b := by simpa [Value.ownBlock] using hb
    exact hb ▸ h1
  · have hb : b = g := by simpa using hb
    exact hb ▸ h0
  · match i with
    | 0 =>
      have e1 : g' = g := by simpa using hg.symm
      have e2 : s = (0, Nd.zero) := by simpa using hs.symm
      subst e1; subst e2
      exact slot0_is _ k0
    | i + 1 => simp at hg
theorem anew_ok (nodes : Int) (h1 : 1 ≤ nodes) (h2 : nodes ≤ 65536) (w : World) : Calls Try.prog 60 #[.int .i64 nodes] w (NewArena w nodes) := by
  go_enter Try.func60, Try.ntmps60
  go_wp2_with fail
  obtain ⟨k0, k1, k2, hb⟩ := three_blk' w 124 120 119 (slot0 0) #[ptr w.heap.size] #[.int .i64 nodes, .slice (some ⟨w.heap.size + 1, 0, none⟩) 1 1, .int .i64 0]
  have hY := anew_is (w := w) (F := From w.heap.size) k0 k1 k2 (Nat.le_refl _) (by show w.heap.size ≤ w.heap.size + 1; omega) (by show w.heap.size ≤ w.heap.size + 1 + 1; omega)
  have HY := Lib.hid hY
  have HB := Lib.hid hb
  refine (i64store_any _ _ (.int .i64 0) _ _ (k2.cell 2) (k2.frozen 2)).mono ?_
  clear hY hb k0 k1 k2
  rintro e w1 ⟨rfl, hw1⟩
  have q1 : ArX w1 (From w.heap.size) (w.heap.size + 1 + 1) nodes [(0, Nd.zero)] 1 := by rw [← hw1]; exact ⟨_, _, _, _, HY.out.setRoot 1⟩
  have q2 : Below w.heap.size w w1 := by rw [← hw1]; exact HB.out.setCell (p := ⟨w.heap.size + 1 + 1, 2, none⟩) (by show w.heap.size ≤ w.heap.size + 1 + 1; omega) _
  clear hw1
  go_wp2
  go_ret2
  exact ⟨_, rfl, q1, q2⟩
end Go.Proofs.Ytgjphmlmndcaeaa

namespace Go.Proofs.Ytgjphmlmndcaeaa
open Go.RowKit

section
variable {F G S : Nat → Prop} {w w' : World} {p : Nat} {nodes root : Int} {sl : List Slt}
/-- all blocks of an arena are there -/
theorem ArX.lt (h : ArX w F p nodes sl root) : ArX w (fun b => F b ∧ b < w.heap.size) p nodes sl root := by
  obtain ⟨A, n, c, bs, hY⟩ := h
  have hb : ∀ b ∈ bs, b < w.heap.size := by
    intro b hb
    obtain ⟨i, hi⟩ := List.mem_iff_getElem?.1 hb
    have hl : i < sl.length := by have := (List.getElem?_eq_some_iff.1 hi).1; have e1 : n = sl.length := hY.len; have e2 : bs.length = n := hY.blen; omega
    obtain ⟨hA, hn', hc, kA, kn, kc, vA, vn, vc, dA, dn, dc, hk, _⟩ := hY.slot i b _ hi (List.getElem?_eq_getElem hl)
    exact hk.lt
  exact ⟨A, n, c, bs, ⟨hY.len, hY.blen, hY.blk, hY.row, ⟨hY.fp, hY.blk.lt⟩, fun b hb => ⟨hY.frow b hb, (own_lt hY.row b hb).2⟩, fun b h => ⟨hY.fbs b h, hb b h⟩, hY.nodup, fun i g s hg hs => (hY.slot i g s hg hs).lt.weak (fun b hb => ⟨⟨hb.1.1, hb.2⟩, hb.1.2⟩)⟩⟩
end
/-- F, and what has been made since -/
def Grown (F : Nat → Prop) (w w' : World) : Nat → Prop := fun b => F b ∨ (w.heap.size ≤ b ∧ b < w'.heap.size)
theorem ArX.drew {F : Nat → Prop} {w : World} {p : Nat} {nodes root : Int} {sl : List Slt} (h : ArX w F p nodes sl root) : ArX w.drew F p nodes sl root := h.chg (S := Nil) (Chg.of_below (Below.refl _ _).drew) (fun _ _ hf => hf)
theorem ArX.grown {F : Nat → Prop} {w w0 : World} {p : Nat} {nodes root : Int} {sl : List Slt} (h : ArX w (fun b => F b ∨ w0.heap.size ≤ b) p nodes sl root) : ArX w (Grown F w0 w) p nodes sl root :=
  h.lt.weak (fun b hb => hb.1.elim .inl (fun h => .inr ⟨h, hb.2⟩))
theorem Grown.trans {F : Nat → Prop} {w w1 w2 : World} (h1 : w.heap.size ≤ w1.heap.size) (h2 : w1.heap.size ≤ w2.heap.size) : ∀ b, Grown (Grown F w w1) w1 w2 b → Grown F w w2 b := by
  intro b hb
  rcases hb with (h | h) | h
  · exact .inl h
  · exact .inr ⟨h.1, by omega⟩
  · exact .inr ⟨by omega, h.2⟩
theorem Chg.grownF {F : Nat → Prop} {w w1 w2 : World} (h : Chg (Grown F w w1) w1 w2) (k : Chg F w w1) : Chg F w w2 :=
  k.trans h (fun b hb hT => hT.elim id (fun h => absurd h.1 (by omega)))

/-- the slot behind a node has been laid: the node, the word -/
def LaidNode (w : World) (F : Nat → Prop) (p mm : Nat) (nodes root : Int) (sl' : List Slt) (id : Int) (e : Ending) (w' : World) : Prop :=
  e = .returned (.int .i64 id) ∧ ArX w' (Grown F w w') p nodes sl' root ∧ Blk w' mm 132 #[.pointer (some ⟨p, 0, none⟩), .bool false] ∧ Chg (fun b => F b ∨ b = mm) w w'

/-- of F, and there at the beginning -/
def Soft0 (F : Nat → Prop) (w : World) : Nat → Prop := fun b => F b ∧ b < w.heap.size
set_option maxRecDepth 100000 in
set_option maxHeartbeats 4000000 in
theorem layFresh (more : Bool) (F G : Nat → Prop) (p mm : Nat) (nodes root : Int) (nd : Nd) (hA kA vA dA : Option Addr) (hn hc kn kc vn vc dn dc : Nat) (w : World)
    (hx : ArX w F p nodes [(0, Nd.zero)] root) (hm : Blk w mm 132 #[.pointer (some ⟨p, 0, none⟩), .bool true]) (hmF : ¬ F mm)
    (h1 : Bt w G hA hn hc nd.high) (h2 : Tx w G kA kn kc nd.keys) (h3 : Tx w G vA vn vc nd.vals) (h4 : It w G dA dn dc nd.kids) (hG : ∀ b, G b → ¬ F b ∧ b ≠ mm) (hs : Small nd) (rt : Int) (hrt : rt = if more then 2 else nd.right) :
    Calls Try.prog 92 #[.pointer (some ⟨mm, 0, none⟩), .agg #[.int .i64 nd.lev, .slice hA hn hc, .int .i64 nd.right, .slice kA kn kc, .slice vA vn vc, .slice dA dn dc], .bool more] w
      (LaidNode w F p mm nodes root [(2, ⟨nd.lev, nd.high, rt, nd.keys, nd.vals, nd.kids⟩)] 1) := by
  have b1 : Below w.heap.size w (w.alloc (.cells #[.int .i64 nd.lev, .slice hA hn hc, .int .i64 nd.right, .slice kA kn kc, .slice vA vn vc, .slice dA dn dc] 93)) := (Below.refl _ _).alloc (Nat.le_refl _) _
  have HX := Lib.hid ((show ArX w (Soft0 F w) p nodes _ root from hx.lt).below b1)
  have HM := Lib.hid (hm.below b1)
  have HB := Lib.hid (Blk.new w 93 #[.int .i64 nd.lev, .slice hA hn hc, .int .i64 nd.right, .slice kA kn kc, .slice vA vn vc, .slice dA dn dc])
  obtain ⟨m0, m1, mf⟩ : (w.alloc (.cells #[.int .i64 nd.lev, .slice hA hn hc, .int .i64 nd.right, .slice kA kn kc, .slice vA vn vc, .slice dA dn dc] 93)).cell? ⟨mm, 0, none⟩ = some (.pointer (some ⟨p, 0, none⟩)) ∧ (w.alloc (.cells #[.int .i64 nd.lev, .slice hA hn hc, .int .i64 nd.right, .slice kA kn kc, .slice vA vn vc, .slice dA dn dc] 93)).cell? ⟨mm, 1, none⟩ = some (.bool true) ∧ SoftAt w mm :=
    ⟨by rw [HM.out.cell]; rfl, by rw [HM.out.cell]; rfl, hm.soft⟩
  have hml := hm.lt
  have H1 := Lib.hid (show Bt w (Soft0 G w) hA hn hc nd.high from h1.lt)
  have H2 := Lib.hid (show Tx w (Soft0 G w) kA kn kc nd.keys from h2.lt)
  have H3 := Lib.hid (show Tx w (Soft0 G w) vA vn vc nd.vals from h3.lt)
  have H4 := Lib.hid (show It w (Soft0 G w) dA dn dc nd.kids from h4.lt)
  have HS := Lib.hid hs
  clear hx hm h1 h2 h3 h4 hs
  have LK := Lib.hid (lock_hit (Soft0 F w) p nodes root [(0, Nd.zero)] 1 (0, Nd.zero) _ HX.out (by omega) (by simp) (by simp) (by simp) (by simp) (by simp) (by simp))
  cases more
  · go_enter Try.func92, Try.ntmps92
    go_wp2_with (first | (go_at_call 104; go_loud (refine (LK.out).mono ?_); go_loud (rintro e w2 ⟨rfl, hx2, hc2⟩; have HX2 := Lib.hid hx2; have HC2 := Lib.hid hc2; have HM2 := Lib.hid (HM.out.chg hc2 (fun h => hmF h.1)); have HB2 := Lib.hid (HB.out.chg hc2 (fun h => by have := h.2; omega)); have n0 : w2.cell? ⟨mm, 0, none⟩ = some (.pointer (some ⟨p, 0, none⟩)) := (HM2.out.cell _).trans rfl; have n1 : w2.cell? ⟨mm, 1, none⟩ = some (.bool true) := (HM2.out.cell _).trans rfl; have nf : ∀ o, w2.frozen? ⟨mm, o, none⟩ = false := HM2.out.frozen; clear hx2 hc2)))
    have HMV : Hid (Blk (w2.setCell ⟨mm, 1, none⟩ (.bool false)) mm 132 #[.pointer (some ⟨p, 0, none⟩), .bool false]) := Lib.hid (HM2.out.set_ 1 (.bool false))
    have HBV := Lib.hid (HB2.out.far (p := ⟨mm, 1, none⟩) (by show w.heap.size ≠ mm; omega) (.bool false))
    have HXV : Hid (ArX (w2.setCell ⟨mm, 1, none⟩ (.bool false)) (Soft0 F w) p nodes [(1, Nd.zero)] root) := Lib.hid (HX2.out.chg (Chg.set1 w2 mm 1 _) (fun b hb e => hmF (by have e : b = mm := e; exact e ▸ hb.1)))
    have HCV : Hid (Chg (fun b => (Soft0 F w b ∨ b = mm) ∨ w.heap.size ≤ b) w (w2.setCell ⟨mm, 1, none⟩ (.bool false))) := Lib.hid (((Chg.of_below b1).trans HC2.out (fun b _ h => .inl (.inl h))).setCell (p := ⟨mm, 1, none⟩) (fun _ => .inl (.inr rfl)) _)
    have hI1 : (1 : Int) ≤ 1 := by omega
    have hI2 : (1 : Int) ≤ (([(1, Nd.zero)] : List Slt).length : Int) := by simp
    have hI3 : ([(1, Nd.zero)] : List Slt).length ≤ 65536 := by simp
    have hS1 : ([(1, Nd.zero)] : List Slt)[(1 : Int).toNat - 1]? = some (1, Nd.zero) := rfl
    have hfin : ([(1, Nd.zero)] : List Slt).set ((1 : Int).toNat - 1) (2, ⟨nd.lev, nd.high, nd.right, nd.keys, nd.vals, nd.kids⟩) = [(2, ⟨nd.lev, nd.high, rt, nd.keys, nd.vals, nd.kids⟩)] := by rw [hrt]; rfl
    clear b1 HX HM HB HX2 HC2 HM2 HB2 n0 n1 nf m0 m1 mf LK
    have fv : ∀ b, Soft0 F w b → Soft0 F w b ∨ (w.heap.size < b ∧ b < (w2.setCell ⟨mm, 1, none⟩ (.bool false)).heap.size) := fun b h => .inl h
    -- the slot is held: the head, the body, the latch
    have b0 : (w2.setCell ⟨mm, 1, none⟩ (.bool false)).cell? ⟨mm, 0, none⟩ = some (.pointer (some ⟨p, 0, none⟩)) := by rw [HMV.out.cell]; rfl
    have x0 : (w2.setCell ⟨mm, 1, none⟩ (.bool false)).cell? ⟨w.heap.size, 0, none⟩ = some (.int .i64 nd.lev) := by rw [HBV.out.cell]; rfl
    have x1 : (w2.setCell ⟨mm, 1, none⟩ (.bool false)).cell? ⟨w.heap.size, 1, none⟩ = some (.slice hA hn hc) := by rw [HBV.out.cell]; rfl
    have x2 : (w2.setCell ⟨mm, 1, none⟩ (.bool false)).cell? ⟨w.heap.size, 2, none⟩ = some (.int .i64 nd.right) := by rw [HBV.out.cell]; rfl
    have x3 : (w2.setCell ⟨mm, 1, none⟩ (.bool false)).cell? ⟨w.heap.size, 3, none⟩ = some (.slice kA kn kc) := by rw [HBV.out.cell]; rfl
    have x4 : (w2.setCell ⟨mm, 1, none⟩ (.bool false)).cell? ⟨w.heap.size, 4, none⟩ = some (.slice vA vn vc) := by rw [HBV.out.cell]; rfl
    have x5 : (w2.setCell ⟨mm, 1, none⟩ (.bool false)).cell? ⟨w.heap.size, 5, none⟩ = some (.slice dA dn dc) := by rw [HBV.out.cell]; rfl
    obtain ⟨V, hV⟩ : ∃ V, V = w2.setCell ⟨mm, 1, none⟩ (.bool false) := ⟨_, rfl⟩
    rw [← hV] at fv b0 x0 x1 x2 x3 x4 x5 HMV HBV HXV HCV ⊢
    clear hV
    have zV := HCV.out.size
    have gV : ∀ b, Soft0 G w b → ¬ ((Soft0 F w b ∨ b = mm) ∨ w.heap.size ≤ b) := fun b hb h => h.elim (fun h => h.elim (fun h => (hG b hb.1).1 h.1) (hG b hb.1).2) (fun h => by have := hb.2; omega)
    have T1 := Lib.hid ((H1.out.chg HCV.out gV).below (Below.refl _ _).drew)
    have T2 := Lib.hid ((H2.out.chg HCV.out gV).below (Below.refl _ _).drew)
    have T3 := Lib.hid ((H3.out.chg HCV.out gV).below (Below.refl _ _).drew)
    have T4 := Lib.hid ((H4.out.chg HCV.out gV).below (Below.refl _ _).drew)
    have gF : ∀ b, Soft0 G w b → ¬ (Soft0 F w) b := fun b hb h => (fv b h).elim (fun h => (hG b hb.1).1 h.1) (fun h => by have := hb.2; omega)
    have nm : ¬ (Soft0 F w) mm := fun h => (fv _ h).elim (fun h => hmF h.1) (fun h => by omega)
    have nb : ¬ (Soft0 F w) w.heap.size := fun h => (fv _ h).elim (fun h => by have := h.2; omega) (fun h => by omega)
    refine wp_region_U (fun w' => w'.cell? ⟨mm, 0, none⟩ = some (.pointer (some ⟨p, 0, none⟩)) ∧ w'.cell? ⟨w.heap.size, 0, none⟩ = some (.int .i64 nd.lev) ∧ w'.cell? ⟨w.heap.size, 1, none⟩ = some (.slice hA hn hc) ∧ w'.cell? ⟨w.heap.size, 2, none⟩ = some (.int .i64 nd.right)) 7 (by kernel_rfl) ?_
    have S0 : V.drew.cell? ⟨mm, 0, none⟩ = some (.pointer (some ⟨p, 0, none⟩)) ∧ V.drew.cell? ⟨w.heap.size, 0, none⟩ = some (.int .i64 nd.lev) ∧ V.drew.cell? ⟨w.heap.size, 1, none⟩ = some (.slice hA hn hc) ∧ V.drew.cell? ⟨w.heap.size, 2, none⟩ = some (.int .i64 nd.right) := ⟨b0, x0, x1, x2⟩
    refine wpU_free (i := 0) (v := ?_) rfl (by kernel_rfl) (by kernel_rfl) (by kernel_rfl) (by kernel_rfl) (by first | exact fun _ _ _ h => h | exact fun c a w h => HQP.out c _ a w h) (fun _ => S0) (Or.inl ⟨by kernel_rfl, ?_⟩) ?_
    rotate_left
    · intro w hSw
      go_simp
      try with_reducible rfl
    try simp only [Act.put, List.setIfInBounds_toArray, List.set_cons_zero, List.set_cons_succ]
    refine wpU_free (i := 1) (v := ?_) rfl (by kernel_rfl) (by kernel_rfl) (by kernel_rfl) (by kernel_rfl) (by first | exact fun _ _ _ h => h | exact fun c a w h => HQP.out c _ a w h) (fun _ => S0) (Or.inl ⟨by kernel_rfl, ?_⟩) ?_
    rotate_left
    · intro w hSw
      go_simp
      try with_reducible rfl
    try simp only [Act.put, List.setIfInBounds_toArray, List.set_cons_zero, List.set_cons_succ]
    refine wpU_free (i := 2) (v := ?_) rfl (by kernel_rfl) (by kernel_rfl) (by kernel_rfl) (by kernel_rfl) (by first | exact fun _ _ _ h => h | exact fun c a w h => HQP.out c _ a w h) (fun _ => S0) (Or.inl ⟨by kernel_rfl, ?_⟩) ?_
    rotate_left
    · intro w hSw
      go_simp
      try with_reducible rfl
    try simp only [Act.put, List.setIfInBounds_toArray, List.set_cons_zero, List.set_cons_succ]
    refine wpU_free (i := 4) (v := ?_) rfl (by kernel_rfl) (by kernel_rfl) (by kernel_rfl) (by kernel_rfl) (by first | exact fun _ _ _ h => h | exact fun c a w h => HQP.out c _ a w h) (fun _ => S0) (Or.inl ⟨by kernel_rfl, ?_⟩) ?_
    rotate_left
    · intro w hSw
      go_simp
      try with_reducible rfl
    try simp only [Act.put, List.setIfInBounds_toArray, List.set_cons_zero, List.set_cons_succ]
    refine wpU_free (i := 5) (v := ?_) rfl (by kernel_rfl) (by kernel_rfl) (by kernel_rfl) (by kernel_rfl) (by first | exact fun _ _ _ h => h | exact fun c a w h => HQP.out c _ a w h) (fun _ => S0) (Or.inl ⟨by kernel_rfl, ?_⟩) ?_
    rotate_left
    · intro w hSw
      go_simp
      try with_reducible rfl
    try simp only [Act.put, List.setIfInBounds_toArray, List.set_cons_zero, List.set_cons_succ]
    refine wpU_take (i := 3) (v := ?_) rfl (by kernel_rfl) (by kernel_rfl) (by kernel_rfl) (by kernel_rfl) (by first | exact fun _ _ _ h => h | exact fun c a w h => HQP.out c _ a w h) S0 (Or.inl ⟨by kernel_rfl, ?_⟩) ?_
    rotate_left
    · intro w hSw
      obtain ⟨s0, s1, s2, s3⟩ := hSw
      go_simp
      try with_reducible rfl
    try simp only [Act.put, List.setIfInBounds_toArray, List.set_cons_zero, List.set_cons_succ]
    refine wpU_take (i := 6) (v := ?_) rfl (by kernel_rfl) (by kernel_rfl) (by kernel_rfl) (by kernel_rfl) (by first | exact fun _ _ _ h => h | exact fun c a w h => HQP.out c _ a w h) S0 (Or.inl ⟨by kernel_rfl, ?_⟩) ?_
    rotate_left
    · intro w hSw
      obtain ⟨s0, s1, s2, s3⟩ := hSw
      go_simp
      try with_reducible rfl
    try simp only [Act.put, List.setIfInBounds_toArray, List.set_cons_zero, List.set_cons_succ]
    refine wpU_one (i := 7) (by kernel_rfl) rfl (fun K hK => ?_)
    go_simp
    refine (setHead_ok (Soft0 F w) p nodes root [(1, Nd.zero)] 1 (1, Nd.zero) V.drew HXV.out.drew hI1 hI2 hI3 hS1 (by simp) (by simp) (by simp) (Soft0 G w) hA hn hc nd.lev nd.right nd.high T1.out HS.out.1).mono ?_; rintro e w4 ⟨rfl, hx4, hc4⟩
    refine hK.out _ _ (fun h => absurd h (by decide)) ?_
    clear hK K
    try simp only [Act.put, List.setIfInBounds_toArray, List.set_cons_zero, List.set_cons_succ]
    refine wpU_done (by kernel_rfl) ?_ _
    have HX4 := Lib.hid hx4.grown
    have HC4 := Lib.hid hc4
    have U0 := hc4.cell nm b0
    have U3 := hc4.cell nb x3
    have U4 := hc4.cell nb x4
    have U5 := hc4.cell nb x5
    have V2 := Lib.hid ((T2.out.chg hc4 gF).below (Below.refl _ _).drew)
    have V3 := Lib.hid ((T3.out.chg hc4 gF).below (Below.refl _ _).drew)
    have V4 := Lib.hid ((T4.out.chg hc4 gF).below (Below.refl _ _).drew)
    have z4 : V.heap.size ≤ w4.heap.size := hc4.size
    have HM4 := Lib.hid (HMV.out.drew.chg hc4 nm)
    clear hx4 hc4 S0 b0 x0 x1 x2 x3 x4 x5
    go_wp2_with fail
    refine wp_region_U (fun w' => w'.cell? ⟨mm, 0, none⟩ = some (.pointer (some ⟨p, 0, none⟩)) ∧ w'.cell? ⟨w.heap.size, 3, none⟩ = some (.slice kA kn kc) ∧ w'.cell? ⟨w.heap.size, 4, none⟩ = some (.slice vA vn vc) ∧ w'.cell? ⟨w.heap.size, 5, none⟩ = some (.slice dA dn dc)) 7 (by kernel_rfl) ?_
    have S9 : w4.drew.cell? ⟨mm, 0, none⟩ = some (.pointer (some ⟨p, 0, none⟩)) ∧ w4.drew.cell? ⟨w.heap.size, 3, none⟩ = some (.slice kA kn kc) ∧ w4.drew.cell? ⟨w.heap.size, 4, none⟩ = some (.slice vA vn vc) ∧ w4.drew.cell? ⟨w.heap.size, 5, none⟩ = some (.slice dA dn dc) := ⟨U0, U3, U4, U5⟩
    refine wpU_free (i := 0) (v := ?_) rfl (by kernel_rfl) (by kernel_rfl) (by kernel_rfl) (by kernel_rfl) (by first | exact fun _ _ _ h => h | exact fun c a w h => HQP.out c _ a w h) (fun _ => S9) (Or.inl ⟨by kernel_rfl, ?_⟩) ?_
    rotate_left
    · intro w hSw
      go_simp
      try with_reducible rfl
    try simp only [Act.put, List.setIfInBounds_toArray, List.set_cons_zero, List.set_cons_succ]
    refine wpU_free (i := 1) (v := ?_) rfl (by kernel_rfl) (by kernel_rfl) (by kernel_rfl) (by kernel_rfl) (by first | exact fun _ _ _ h => h | exact fun c a w h => HQP.out c _ a w h) (fun _ => S9) (Or.inl ⟨by kernel_rfl, ?_⟩) ?_
    rotate_left
    · intro w hSw
      go_simp
      try with_reducible rfl
    try simp only [Act.put, List.setIfInBounds_toArray, List.set_cons_zero, List.set_cons_succ]
    refine wpU_free (i := 2) (v := ?_) rfl (by kernel_rfl) (by kernel_rfl) (by kernel_rfl) (by kernel_rfl) (by first | exact fun _ _ _ h => h | exact fun c a w h => HQP.out c _ a w h) (fun _ => S9) (Or.inl ⟨by kernel_rfl, ?_⟩) ?_
    rotate_left
    · intro w hSw
      go_simp
      try with_reducible rfl
    try simp only [Act.put, List.setIfInBounds_toArray, List.set_cons_zero, List.set_cons_succ]
    refine wpU_free (i := 4) (v := ?_) rfl (by kernel_rfl) (by kernel_rfl) (by kernel_rfl) (by kernel_rfl) (by first | exact fun _ _ _ h => h | exact fun c a w h => HQP.out c _ a w h) (fun _ => S9) (Or.inl ⟨by kernel_rfl, ?_⟩) ?_
    rotate_left
    · intro w hSw
      go_simp
      try with_reducible rfl
    try simp only [Act.put, List.setIfInBounds_toArray, List.set_cons_zero, List.set_cons_succ]
    refine wpU_free (i := 5) (v := ?_) rfl (by kernel_rfl) (by kernel_rfl) (by kernel_rfl) (by kernel_rfl) (by first | exact fun _ _ _ h => h | exact fun c a w h => HQP.out c _ a w h) (fun _ => S9) (Or.inl ⟨by kernel_rfl, ?_⟩) ?_
    rotate_left
    · intro w hSw
      go_simp
      try with_reducible rfl
    try simp only [Act.put, List.setIfInBounds_toArray, List.set_cons_zero, List.set_cons_succ]
    refine wpU_take (i := 3) (v := ?_) rfl (by kernel_rfl) (by kernel_rfl) (by kernel_rfl) (by kernel_rfl) (by first | exact fun _ _ _ h => h | exact fun c a w h => HQP.out c _ a w h) S9 (Or.inl ⟨by kernel_rfl, ?_⟩) ?_
    rotate_left
    · intro w hSw
      obtain ⟨s0, s1, s2, s3⟩ := hSw
      go_simp
      try with_reducible rfl
    try simp only [Act.put, List.setIfInBounds_toArray, List.set_cons_zero, List.set_cons_succ]
    refine wpU_take (i := 6) (v := ?_) rfl (by kernel_rfl) (by kernel_rfl) (by kernel_rfl) (by kernel_rfl) (by first | exact fun _ _ _ h => h | exact fun c a w h => HQP.out c _ a w h) S9 (Or.inl ⟨by kernel_rfl, ?_⟩) ?_
    rotate_left
    · intro w hSw
      obtain ⟨s0, s1, s2, s3⟩ := hSw
      go_simp
      try with_reducible rfl
    try simp only [Act.put, List.setIfInBounds_toArray, List.set_cons_zero, List.set_cons_succ]
    refine wpU_one (i := 7) (by kernel_rfl) rfl (fun K hK => ?_)
    go_simp
    refine (setBody_ok (Grown (Soft0 F w) V.drew w4) p nodes root _ 1 (1, ⟨nd.lev, nd.high, nd.right, [], [], []⟩) w4.drew HX4.out.drew hI1 (by rw [List.length_set]; exact hI2) (by rw [List.length_set]; exact hI3) (by rw [List.getElem?_set_self (List.getElem?_eq_some_iff.1 hS1).1]; rfl) (by simp) (by simp) (by simp) (Soft0 G w) kA vA dA kn kc vn vc dn dc nd.keys nd.vals nd.kids V2.out V3.out V4.out ⟨by simp, HS.out.2.1, HS.out.2.2.1, HS.out.2.2.2.1, HS.out.2.2.2.2.1, HS.out.2.2.2.2.2⟩).mono ?_; rintro e w5 ⟨rfl, hx5, hc5⟩
    refine hK.out _ _ (fun h => absurd h (by decide)) ?_
    clear hK K
    try simp only [Act.put, List.setIfInBounds_toArray, List.set_cons_zero, List.set_cons_succ]
    refine wpU_done (by kernel_rfl) ?_ _
    have nm5 : ¬ Grown (Soft0 F w) V.drew w4 mm := fun h => h.elim nm (fun h => by have h1 : V.heap.size ≤ mm := h.1; omega)
    have HX5 := Lib.hid hx5.grown
    have HC5 := Lib.hid hc5
    have W0 := hc5.cell nm5 U0
    have HM5 := Lib.hid (HM4.out.drew.chg hc5 nm5)
    have z5 : w4.heap.size ≤ w5.heap.size := hc5.size
    clear hx5 hc5 S9 U0 U3 U4 U5
    have UL := Lib.hid (unlock_true (Grown (Grown (Soft0 F w) V.drew w4) w4.drew w5) p nodes root _ 1 (1, ⟨nd.lev, nd.high, nd.right, nd.keys, nd.vals, nd.kids⟩) _ HX5.out hI1 (by rw [List.length_set, List.length_set]; exact hI2) (by rw [List.length_set, List.length_set]; exact hI3) (by rw [List.set_set, List.getElem?_set_self (List.getElem?_eq_some_iff.1 hS1).1]) (by simp) (by simp) (by simp))
    go_wp2_with (go_at_call 108; refine UL.out.mono ?_; rintro e w6 ⟨rfl, hx6, hc6⟩; have HX6 := Lib.hid hx6; have HC6 := Lib.hid hc6; clear hx6 hc6)
    go_ret
    have z6 := HC6.out.size
    refine ⟨rfl, ?_, HM5.out.chg HC6.out (fun h => h.elim nm5 (fun h => by have h1 : w4.heap.size ≤ mm := h.1; omega)), ?_⟩
    · have h := HX6.out
      rw [List.set_set, List.set_set] at h
      rw [← hfin]
      exact h.weak (fun b hb => hb.elim (fun h => h.elim (fun h => (fv b h).elim (fun h => .inl h.1) (fun h => .inr ⟨by omega, by omega⟩)) (fun h => by have h1 : V.heap.size ≤ b := h.1; exact .inr ⟨by omega, by omega⟩)) (fun h => by have h1 : w4.heap.size ≤ b := h.1; exact .inr ⟨by omega, by omega⟩))
    · refine (((HCV.out.mono (T := fun b => F b ∨ b = mm) (fun b hb h => h.elim (fun h => h.elim (fun h => .inl h.1) .inr) (fun h => absurd h (by omega)))).drew.trans HC4.out (fun b hb h => (fv b h).elim (fun h => .inl h.1) (fun h => by omega))).drew.trans HC5.out (fun b hb h => h.elim (fun h => (fv b h).elim (fun h => .inl h.1) (fun h => by omega)) (fun h => by have h1 : V.heap.size ≤ b := h.1; omega))).trans HC6.out (fun b hb h => h.elim (fun h => h.elim (fun h => (fv b h).elim (fun h => .inl h.1) (fun h => by omega)) (fun h => by have h1 : V.heap.size ≤ b := h.1; omega)) (fun h => by have h1 : w4.heap.size ≤ b := h.1; omega))
  · go_enter Try.func92, Try.ntmps92
    go_wp2_with (first | (go_at_call 104; go_loud (refine (LK.out).mono ?_); go_loud (rintro e w2 ⟨rfl, hx2, hc2⟩; have HX2 := Lib.hid hx2; have HC2 := Lib.hid hc2; have HM2 := Lib.hid (HM.out.chg hc2 (fun h => hmF h.1)); have HB2 := Lib.hid (HB.out.chg hc2 (fun h => by have := h.2; omega)); have n0 : w2.cell? ⟨mm, 0, none⟩ = some (.pointer (some ⟨p, 0, none⟩)) := (HM2.out.cell _).trans rfl; have n1 : w2.cell? ⟨mm, 1, none⟩ = some (.bool true) := (HM2.out.cell _).trans rfl; have nf : ∀ o, w2.frozen? ⟨mm, o, none⟩ = false := HM2.out.frozen; have n2 : w2.cell? ⟨w.heap.size, 2, none⟩ = some (.int .i64 nd.right) := (HB2.out.cell _).trans rfl; have nf2 : ∀ o, w2.frozen? ⟨w.heap.size, o, none⟩ = false := HB2.out.frozen; have hne : mm ≠ w.heap.size := Nat.ne_of_lt hml; clear hx2 hc2)))
    have HMV : Hid (Blk ((w2.setCell ⟨mm, 1, none⟩ (.bool false)).setCell ⟨w.heap.size, 2, none⟩ (.int .i64 2)) mm 132 #[.pointer (some ⟨p, 0, none⟩), .bool false]) := Lib.hid (Blk.far (HM2.out.set_ 1 (.bool false)) (p := ⟨w.heap.size, 2, none⟩) hne _)
    have HBV : Hid (Blk ((w2.setCell ⟨mm, 1, none⟩ (.bool false)).setCell ⟨w.heap.size, 2, none⟩ (.int .i64 2)) w.heap.size 93 #[.int .i64 nd.lev, .slice hA hn hc, .int .i64 2, .slice kA kn kc, .slice vA vn vc, .slice dA dn dc]) := Lib.hid ((HB2.out.far (p := ⟨mm, 1, none⟩) (by show w.heap.size ≠ mm; omega) (.bool false)).set_ 2 (.int .i64 2))
    have HXV : Hid (ArX ((w2.setCell ⟨mm, 1, none⟩ (.bool false)).setCell ⟨w.heap.size, 2, none⟩ (.int .i64 2)) (Soft0 F w) p nodes [(1, Nd.zero)] root) := Lib.hid ((HX2.out.chg (Chg.set1 w2 mm 1 _) (fun b hb e => hmF (by have e : b = mm := e; exact e ▸ hb.1))).chg (Chg.set1 _ w.heap.size 2 _) (fun b hb e => by have e : b = w.heap.size := e; have := hb.2; omega))
    have HCV : Hid (Chg (fun b => (Soft0 F w b ∨ b = mm) ∨ w.heap.size ≤ b) w ((w2.setCell ⟨mm, 1, none⟩ (.bool false)).setCell ⟨w.heap.size, 2, none⟩ (.int .i64 2))) := Lib.hid ((((Chg.of_below b1).trans HC2.out (fun b _ h => .inl (.inl h))).setCell (p := ⟨mm, 1, none⟩) (fun _ => .inl (.inr rfl)) _).setCell (p := ⟨w.heap.size, 2, none⟩) (fun _ => .inr (Nat.le_refl _)) _)
    have hI1 : (1 : Int) ≤ 1 := by omega
    have hI2 : (1 : Int) ≤ (([(1, Nd.zero)] : List Slt).length : Int) := by simp
    have hI3 : ([(1, Nd.zero)] : List Slt).length ≤ 65536 := by simp
    have hS1 : ([(1, Nd.zero)] : List Slt)[(1 : Int).toNat - 1]? = some (1, Nd.zero) := rfl
    have hfin : ([(1, Nd.zero)] : List Slt).set ((1 : Int).toNat - 1) (2, ⟨nd.lev, nd.high, 2, nd.keys, nd.vals, nd.kids⟩) = [(2, ⟨nd.lev, nd.high, rt, nd.keys, nd.vals, nd.kids⟩)] := by rw [hrt]; rfl
    clear b1 HX HM HB HX2 HC2 HM2 HB2 n0 n1 nf n2 nf2 m0 m1 mf LK
    have fv : ∀ b, Soft0 F w b → Soft0 F w b ∨ (w.heap.size < b ∧ b < ((w2.setCell ⟨mm, 1, none⟩ (.bool false)).setCell ⟨w.heap.size, 2, none⟩ (.int .i64 2)).heap.size) := fun b h => .inl h
    -- the slot is held: the head, the body, the latch
    have b0 : ((w2.setCell ⟨mm, 1, none⟩ (.bool false)).setCell ⟨w.heap.size, 2, none⟩ (.int .i64 2)).cell? ⟨mm, 0, none⟩ = some (.pointer (some ⟨p, 0, none⟩)) := by rw [HMV.out.cell]; rfl
    have x0 : ((w2.setCell ⟨mm, 1, none⟩ (.bool false)).setCell ⟨w.heap.size, 2, none⟩ (.int .i64 2)).cell? ⟨w.heap.size, 0, none⟩ = some (.int .i64 nd.lev) := by rw [HBV.out.cell]; rfl
    have x1 : ((w2.setCell ⟨mm, 1, none⟩ (.bool false)).setCell ⟨w.heap.size, 2, none⟩ (.int .i64 2)).cell? ⟨w.heap.size, 1, none⟩ = some (.slice hA hn hc) := by rw [HBV.out.cell]; rfl
    have x2 : ((w2.setCell ⟨mm, 1, none⟩ (.bool false)).setCell ⟨w.heap.size, 2, none⟩ (.int .i64 2)).cell? ⟨w.heap.size, 2, none⟩ = some (.int .i64 2) := by rw [HBV.out.cell]; rfl
    have x3 : ((w2.setCell ⟨mm, 1, none⟩ (.bool false)).setCell ⟨w.heap.size, 2, none⟩ (.int .i64 2)).cell? ⟨w.heap.size, 3, none⟩ = some (.slice kA kn kc) := by rw [HBV.out.cell]; rfl
    have x4 : ((w2.setCell ⟨mm, 1, none⟩ (.bool false)).setCell ⟨w.heap.size, 2, none⟩ (.int .i64 2)).cell? ⟨w.heap.size, 4, none⟩ = some (.slice vA vn vc) := by rw [HBV.out.cell]; rfl
    have x5 : ((w2.setCell ⟨mm, 1, none⟩ (.bool false)).setCell ⟨w.heap.size, 2, none⟩ (.int .i64 2)).cell? ⟨w.heap.size, 5, none⟩ = some (.slice dA dn dc) := by rw [HBV.out.cell]; rfl
    obtain ⟨V, hV⟩ : ∃ V, V = (w2.setCell ⟨mm, 1, none⟩ (.bool false)).setCell ⟨w.heap.size, 2, none⟩ (.int .i64 2) := ⟨_, rfl⟩
    rw [← hV] at fv b0 x0 x1 x2 x3 x4 x5 HMV HBV HXV HCV ⊢
    clear hV
    have zV := HCV.out.size
    have gV : ∀ b, Soft0 G w b → ¬ ((Soft0 F w b ∨ b = mm) ∨ w.heap.size ≤ b) := fun b hb h => h.elim (fun h => h.elim (fun h => (hG b hb.1).1 h.1) (hG b hb.1).2) (fun h => by have := hb.2; omega)
    have T1 := Lib.hid ((H1.out.chg HCV.out gV).below (Below.refl _ _).drew)
    have T2 := Lib.hid ((H2.out.chg HCV.out gV).below (Below.refl _ _).drew)
    have T3 := Lib.hid ((H3.out.chg HCV.out gV).below (Below.refl _ _).drew)
    have T4 := Lib.hid ((H4.out.chg HCV.out gV).below (Below.refl _ _).drew)
    have gF : ∀ b, Soft0 G w b → ¬ (Soft0 F w) b := fun b hb h => (fv b h).elim (fun h => (hG b hb.1).1 h.1) (fun h => by have := hb.2; omega)
    have nm : ¬ (Soft0 F w) mm := fun h => (fv _ h).elim (fun h => hmF h.1) (fun h => by omega)
    have nb : ¬ (Soft0 F w) w.heap.size := fun h => (fv _ h).elim (fun h => by have := h.2; omega) (fun h => by omega)
    refine wp_region_U (fun w' => w'.cell? ⟨mm, 0, none⟩ = some (.pointer (some ⟨p, 0, none⟩)) ∧ w'.cell? ⟨w.heap.size, 0, none⟩ = some (.int .i64 nd.lev) ∧ w'.cell? ⟨w.heap.size, 1, none⟩ = some (.slice hA hn hc) ∧ w'.cell? ⟨w.heap.size, 2, none⟩ = some (.int .i64 2)) 7 (by kernel_rfl) ?_
    have S0 : V.drew.cell? ⟨mm, 0, none⟩ = some (.pointer (some ⟨p, 0, none⟩)) ∧ V.drew.cell? ⟨w.heap.size, 0, none⟩ = some (.int .i64 nd.lev) ∧ V.drew.cell? ⟨w.heap.size, 1, none⟩ = some (.slice hA hn hc) ∧ V.drew.cell? ⟨w.heap.size, 2, none⟩ = some (.int .i64 2) := ⟨b0, x0, x1, x2⟩
    refine wpU_free (i := 0) (v := ?_) rfl (by kernel_rfl) (by kernel_rfl) (by kernel_rfl) (by kernel_rfl) (by first | exact fun _ _ _ h => h | exact fun c a w h => HQP.out c _ a w h) (fun _ => S0) (Or.inl ⟨by kernel_rfl, ?_⟩) ?_
    rotate_left
    · intro w hSw
      go_simp
      try with_reducible rfl
    try simp only [Act.put, List.setIfInBounds_toArray, List.set_cons_zero, List.set_cons_succ]
    refine wpU_free (i := 1) (v := ?_) rfl (by kernel_rfl) (by kernel_rfl) (by kernel_rfl) (by kernel_rfl) (by first | exact fun _ _ _ h => h | exact fun c a w h => HQP.out c _ a w h) (fun _ => S0) (Or.inl ⟨by kernel_rfl, ?_⟩) ?_
    rotate_left
    · intro w hSw
      go_simp
      try with_reducible rfl
    try simp only [Act.put, List.setIfInBounds_toArray, List.set_cons_zero, List.set_cons_succ]
    refine wpU_free (i := 2) (v := ?_) rfl (by kernel_rfl) (by kernel_rfl) (by kernel_rfl) (by kernel_rfl) (by first | exact fun _ _ _ h => h | exact fun c a w h => HQP.out c _ a w h) (fun _ => S0) (Or.inl ⟨by kernel_rfl, ?_⟩) ?_
    rotate_left
    · intro w hSw
      go_simp
      try with_reducible rfl
    try simp only [Act.put, List.setIfInBounds_toArray, List.set_cons_zero, List.set_cons_succ]
    refine wpU_free (i := 4) (v := ?_) rfl (by kernel_rfl) (by kernel_rfl) (by kernel_rfl) (by kernel_rfl) (by first | exact fun _ _ _ h => h | exact fun c a w h => HQP.out c _ a w h) (fun _ => S0) (Or.inl ⟨by kernel_rfl, ?_⟩) ?_
    rotate_left
    · intro w hSw
      go_simp
      try with_reducible rfl
    try simp only [Act.put, List.setIfInBounds_toArray, List.set_cons_zero, List.set_cons_succ]
    refine wpU_free (i := 5) (v := ?_) rfl (by kernel_rfl) (by kernel_rfl) (by kernel_rfl) (by kernel_rfl) (by first | exact fun _ _ _ h => h | exact fun c a w h => HQP.out c _ a w h) (fun _ => S0) (Or.inl ⟨by kernel_rfl, ?_⟩) ?_
    rotate_left
    · intro w hSw
      go_simp
      try with_reducible rfl
    try simp only [Act.put, List.setIfInBounds_toArray, List.set_cons_zero, List.set_cons_succ]
    refine wpU_take (i := 3) (v := ?_) rfl (by kernel_rfl) (by kernel_rfl) (by kernel_rfl) (by kernel_rfl) (by first | exact fun _ _ _ h => h | exact fun c a w h => HQP.out c _ a w h) S0 (Or.inl ⟨by kernel_rfl, ?_⟩) ?_
    rotate_left
    · intro w hSw
      obtain ⟨s0, s1, s2, s3⟩ := hSw
      go_simp
      try with_reducible rfl
    try simp only [Act.put, List.setIfInBounds_toArray, List.set_cons_zero, List.set_cons_succ]
    refine wpU_take (i := 6) (v := ?_) rfl (by kernel_rfl) (by kernel_rfl) (by kernel_rfl) (by kernel_rfl) (by first | exact fun _ _ _ h => h | exact fun c a w h => HQP.out c _ a w h) S0 (Or.inl ⟨by kernel_rfl, ?_⟩) ?_
    rotate_left
    · intro w hSw
      obtain ⟨s0, s1, s2, s3⟩ := hSw
      go_simp
      try with_reducible rfl
    try simp only [Act.put, List.setIfInBounds_toArray, List.set_cons_zero, List.set_cons_succ]
    refine wpU_one (i := 7) (by kernel_rfl) rfl (fun K hK => ?_)
    go_simp
    refine (setHead_ok (Soft0 F w) p nodes root [(1, Nd.zero)] 1 (1, Nd.zero) V.drew HXV.out.drew hI1 hI2 hI3 hS1 (by simp) (by simp) (by simp) (Soft0 G w) hA hn hc nd.lev 2 nd.high T1.out HS.out.1).mono ?_; rintro e w4 ⟨rfl, hx4, hc4⟩
    refine hK.out _ _ (fun h => absurd h (by decide)) ?_
    clear hK K
    try simp only [Act.put, List.setIfInBounds_toArray, List.set_cons_zero, List.set_cons_succ]
    refine wpU_done (by kernel_rfl) ?_ _
    have HX4 := Lib.hid hx4.grown
    have HC4 := Lib.hid hc4
    have U0 := hc4.cell nm b0
    have U3 := hc4.cell nb x3
    have U4 := hc4.cell nb x4
    have U5 := hc4.cell nb x5
    have V2 := Lib.hid ((T2.out.chg hc4 gF).below (Below.refl _ _).drew)
    have V3 := Lib.hid ((T3.out.chg hc4 gF).below (Below.refl _ _).drew)
    have V4 := Lib.hid ((T4.out.chg hc4 gF).below (Below.refl _ _).drew)
    have z4 : V.heap.size ≤ w4.heap.size := hc4.size
    have HM4 := Lib.hid (HMV.out.drew.chg hc4 nm)
    clear hx4 hc4 S0 b0 x0 x1 x2 x3 x4 x5
    go_wp2_with fail
    refine wp_region_U (fun w' => w'.cell? ⟨mm, 0, none⟩ = some (.pointer (some ⟨p, 0, none⟩)) ∧ w'.cell? ⟨w.heap.size, 3, none⟩ = some (.slice kA kn kc) ∧ w'.cell? ⟨w.heap.size, 4, none⟩ = some (.slice vA vn vc) ∧ w'.cell? ⟨w.heap.size, 5, none⟩ = some (.slice dA dn dc)) 7 (by kernel_rfl) ?_
    have S9 : w4.drew.cell? ⟨mm, 0, none⟩ = some (.pointer (some ⟨p, 0, none⟩)) ∧ w4.drew.cell? ⟨w.heap.size, 3, none⟩ = some (.slice kA kn kc) ∧ w4.drew.cell? ⟨w.heap.size, 4, none⟩ = some (.slice vA vn vc) ∧ w4.drew.cell? ⟨w.heap.size, 5, none⟩ = some (.slice dA dn dc) := ⟨U0, U3, U4, U5⟩
    refine wpU_free (i := 0) (v := ?_) rfl (by kernel_rfl) (by kernel_rfl) (by kernel_rfl) (by kernel_rfl) (by first | exact fun _ _ _ h => h | exact fun c a w h => HQP.out c _ a w h) (fun _ => S9) (Or.inl ⟨by kernel_rfl, ?_⟩) ?_
    rotate_left
    · intro w hSw
      go_simp
      try with_reducible rfl
    try simp only [Act.put, List.setIfInBounds_toArray, List.set_cons_zero, List.set_cons_succ]
    refine wpU_free (i := 1) (v := ?_) rfl (by kernel_rfl) (by kernel_rfl) (by kernel_rfl) (by kernel_rfl) (by first | exact fun _ _ _ h => h | exact fun c a w h => HQP.out c _ a w h) (fun _ => S9) (Or.inl ⟨by kernel_rfl, ?_⟩) ?_
    rotate_left
    · intro w hSw
      go_simp
      try with_reducible rfl
    try simp only [Act.put, List.setIfInBounds_toArray, List.set_cons_zero, List.set_cons_succ]
    refine wpU_free (i := 2) (v := ?_) rfl (by kernel_rfl) (by kernel_rfl) (by kernel_rfl) (by kernel_rfl) (by first | exact fun _ _ _ h => h | exact fun c a w h => HQP.out c _ a w h) (fun _ => S9) (Or.inl ⟨by kernel_rfl, ?_⟩) ?_
    rotate_left
    · intro w hSw
      go_simp
      try with_reducible rfl
    try simp only [Act.put, List.setIfInBounds_toArray, List.set_cons_zero, List.set_cons_succ]
    refine wpU_free (i := 4) (v := ?_) rfl (by kernel_rfl) (by kernel_rfl) (by kernel_rfl) (by kernel_rfl) (by first | exact fun _ _ _ h => h | exact fun c a w h => HQP.out c _ a w h) (fun _ => S9) (Or.inl ⟨by kernel_rfl, ?_⟩) ?_
    rotate_left
    · intro w hSw
      go_simp
      try with_reducible rfl
    try simp only [Act.put, List.setIfInBounds_toArray, List.set_cons_zero, List.set_cons_succ]
    refine wpU_free (i := 5) (v := ?_) rfl (by kernel_rfl) (by kernel_rfl) (by kernel_rfl) (by kernel_rfl) (by first | exact fun _ _ _ h => h | exact fun c a w h => HQP.out c _ a w h) (fun _ => S9) (Or.inl ⟨by kernel_rfl, ?_⟩) ?_
    rotate_left
    · intro w hSw
      go_simp
      try with_reducible rfl
    try simp only [Act.put, List.setIfInBounds_toArray, List.set_cons_zero, List.set_cons_succ]
    refine wpU_take (i := 3) (v := ?_) rfl (by kernel_rfl) (by kernel_rfl) (by kernel_rfl) (by kernel_rfl) (by first | exact fun _ _ _ h => h | exact fun c a w h => HQP.out c _ a w h) S9 (Or.inl ⟨by kernel_rfl, ?_⟩) ?_
    rotate_left
    · intro w hSw
      obtain ⟨s0, s1, s2, s3⟩ := hSw
      go_simp
      try with_reducible rfl
    try simp only [Act.put, List.setIfInBounds_toArray, List.set_cons_zero, List.set_cons_succ]
    refine wpU_take (i := 6) (v := ?_) rfl (by kernel_rfl) (by kernel_rfl) (by kernel_rfl) (by kernel_rfl) (by first | exact fun _ _ _ h => h | exact fun c a w h => HQP.out c _ a w h) S9 (Or.inl ⟨by kernel_rfl, ?_⟩) ?_
    rotate_left
    · intro w hSw
      obtain ⟨s0, s1, s2, s3⟩ := hSw
      go_simp
      try with_reducible rfl
    try simp only [Act.put, List.setIfInBounds_toArray, List.set_cons_zero, List.set_cons_succ]
    refine wpU_one (i := 7) (by kernel_rfl) rfl (fun K hK => ?_)
    go_simp
    refine (setBody_ok (Grown (Soft0 F w) V.drew w4) p nodes root _ 1 (1, ⟨nd.lev, nd.high, 2, [], [], []⟩) w4.drew HX4.out.drew hI1 (by rw [List.length_set]; exact hI2) (by rw [List.length_set]; exact hI3) (by rw [List.getElem?_set_self (List.getElem?_eq_some_iff.1 hS1).1]; rfl) (by simp) (by simp) (by simp) (Soft0 G w) kA vA dA kn kc vn vc dn dc nd.keys nd.vals nd.kids V2.out V3.out V4.out ⟨by simp, HS.out.2.1, HS.out.2.2.1, HS.out.2.2.2.1, HS.out.2.2.2.2.1, HS.out.2.2.2.2.2⟩).mono ?_; rintro e w5 ⟨rfl, hx5, hc5⟩
    refine hK.out _ _ (fun h => absurd h (by decide)) ?_
    clear hK K
    try simp only [Act.put, List.setIfInBounds_toArray, List.set_cons_zero, List.set_cons_succ]
    refine wpU_done (by kernel_rfl) ?_ _
    have nm5 : ¬ Grown (Soft0 F w) V.drew w4 mm := fun h => h.elim nm (fun h => by have h1 : V.heap.size ≤ mm := h.1; omega)
    have HX5 := Lib.hid hx5.grown
    have HC5 := Lib.hid hc5
    have W0 := hc5.cell nm5 U0
    have HM5 := Lib.hid (HM4.out.drew.chg hc5 nm5)
    have z5 : w4.heap.size ≤ w5.heap.size := hc5.size
    clear hx5 hc5 S9 U0 U3 U4 U5
    have UL := Lib.hid (unlock_true (Grown (Grown (Soft0 F w) V.drew w4) w4.drew w5) p nodes root _ 1 (1, ⟨nd.lev, nd.high, 2, nd.keys, nd.vals, nd.kids⟩) _ HX5.out hI1 (by rw [List.length_set, List.length_set]; exact hI2) (by rw [List.length_set, List.length_set]; exact hI3) (by rw [List.set_set, List.getElem?_set_self (List.getElem?_eq_some_iff.1 hS1).1]) (by simp) (by simp) (by simp))
    go_wp2_with (go_at_call 108; refine UL.out.mono ?_; rintro e w6 ⟨rfl, hx6, hc6⟩; have HX6 := Lib.hid hx6; have HC6 := Lib.hid hc6; clear hx6 hc6)
    go_ret
    have z6 := HC6.out.size
    refine ⟨rfl, ?_, HM5.out.chg HC6.out (fun h => h.elim nm5 (fun h => by have h1 : w4.heap.size ≤ mm := h.1; omega)), ?_⟩
    · have h := HX6.out
      rw [List.set_set, List.set_set] at h
      rw [← hfin]
      exact h.weak (fun b hb => hb.elim (fun h => h.elim (fun h => (fv b h).elim (fun h => .inl h.1) (fun h => .inr ⟨by omega, by omega⟩)) (fun h => by have h1 : V.heap.size ≤ b := h.1; exact .inr ⟨by omega, by omega⟩)) (fun h => by have h1 : w4.heap.size ≤ b := h.1; exact .inr ⟨by omega, by omega⟩))
    · refine (((HCV.out.mono (T := fun b => F b ∨ b = mm) (fun b hb h => h.elim (fun h => h.elim (fun h => .inl h.1) .inr) (fun h => absurd h (by omega)))).drew.trans HC4.out (fun b hb h => (fv b h).elim (fun h => .inl h.1) (fun h => by omega))).drew.trans HC5.out (fun b hb h => h.elim (fun h => (fv b h).elim (fun h => .inl h.1) (fun h => by omega)) (fun h => by have h1 : V.heap.size ≤ b := h.1; omega))).trans HC6.out (fun b hb h => h.elim (fun h => h.elim (fun h => (fv b h).elim (fun h => .inl h.1) (fun h => by omega)) (fun h => by have h1 : V.heap.size ≤ b := h.1; omega)) (fun h => by have h1 : w4.heap.size ≤ b := h.1; omega))

end Go.Proofs.Ytgjphmlmndcaeaa
