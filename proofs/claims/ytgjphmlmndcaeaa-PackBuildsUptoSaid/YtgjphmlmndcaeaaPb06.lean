/- WALKS: the program's arena, writing. WALKS: a node is laid into the next slot (pack). -/
import Derived.Test.YtgjphmlmndcaeaaPb05
import Derived.Test.YtgjphmlmndcaeaaPb04
set_option linter.unusedVariables false
set_option linter.unusedSimpArgs false
namespace Go.Proofs.Ytgjphmlmndcaeaa
open Go.RowKit

theorem ptr_info : (Try.prog.info? 120).map (fun i => (i.zero, i.size, i.bytes)) = some (some (.pointer none), 1, 8) := by kernel_rfl

set_option maxRecDepth 100000 in
theorem alloc_full (F : Nat → Prop) (p : Nat) (nodes root : Int) (sl : List Slt) (w : World) (h : ArX w F p nodes sl root) (hf : (sl.length : Int) = nodes) :
    Calls Try.prog 105 #[.pointer (some ⟨p, 0, none⟩)] w fun e w' => e = .returned (.tuple #[.int .i64 0, .int .i64 2]) ∧ ∃ q, w' = w.drewN q := by
  obtain ⟨A, n, c, bs, hY⟩ := h
  have e1 : n = sl.length := hY.len
  have hb : ((n : Int) == nodes) = true := by rw [beq_iff_eq]; omega
  obtain ⟨c0, c1, c2, cf⟩ := hY.cells
  clear e1 hf hY
  go_enter Try.func105, Try.ntmps105
  go_wp2
  go_quiet (fail)
  go_wp2
  go_ret2
  exact ⟨rfl, _, rfl⟩

/-- what a block of three cells gives a walk -/
theorem blk3 {w : World} {g : Nat} {t : TypeId} {v0 v1 v2 : Value} (h : Blk w g t #[v0, v1, v2]) :
    w.cell? ⟨g, 0, none⟩ = some v0 ∧ w.cell? ⟨g, 1, none⟩ = some v1 ∧ w.cell? ⟨g, 2, none⟩ = some v2 ∧ (∀ o, w.frozen? ⟨g, o, none⟩ = false) :=
  ⟨by rw [h.cell]; rfl, by rw [h.cell]; rfl, by rw [h.cell]; rfl, h.frozen⟩
theorem arow_p2 {w w' : World} {p : Nat} {t : TypeId} {cs : Array Value} {v : Value} (h : Blk w p t cs) (hg : w.grownBy w' v.ownBlock) (hp : v.ownBlock ≠ some p) : Blk w' p t cs :=
  h.chg ((Chg.refl (fun b => v.ownBlock = some b) w).grown hg (fun b _ _ => by assumption)) hp

/-- a slot more -/
def Allocd (w : World) (F : Nat → Prop) (p : Nat) (nodes root : Int) (sl : List Slt) (e : Ending) (w' : World) : Prop :=
  e = .returned (.tuple #[.int .i64 ((sl.length : Int) + 1), .int .i64 0]) ∧ ArX w' (fun b => F b ∨ w.heap.size ≤ b) p nodes (sl ++ [(1, Nd.zero)]) root ∧ Chg F w w'

set_option maxRecDepth 100000 in
theorem alloc_ok (F : Nat → Prop) (p : Nat) (nodes root : Int) (sl : List Slt) (w : World) (h : ArX w F p nodes sl root) (hf : (sl.length : Int) < nodes) (hn : nodes ≤ 65536) :
    Calls Try.prog 105 #[.pointer (some ⟨p, 0, none⟩)] w (Allocd w F p nodes root sl) := by
  obtain ⟨i0, hi0, iz0, iz1, iz2⟩ := info_parts ptr_info
  obtain ⟨A, n, c, bs, hY⟩ := h
  have e1 : n = sl.length := hY.len
  have HL := Lib.hid e1
  have hb : ((n : Int) == nodes) = false := by rw [beq_eq_false_iff_ne]; omega
  have hn2 : n ≤ 65536 := by omega
  obtain ⟨c0, c1, c2, cf⟩ := hY.cells
  have HY := Lib.hid hY
  have hpl := hY.blk.lt
  clear e1 hf hY
  go_enter Try.func105, Try.ntmps105
  go_wp2
  go_quiet (fail)
  rename_i nq
  have kx : Blk ((w.drewN nq).alloc (.cells (slot0 0) 124)) w.heap.size 124 (slot0 0) := Blk.new (w.drewN nq) _ _
  go_wp2_with fail
  refine (u64store_any _ _ (.int .u64 0) _ _ (kx.cell 0) (kx.frozen 0)).mono ?_
  rintro e w1 ⟨rfl, hw1⟩
  have k1 : Blk w1 w.heap.size 124 (slot0 1) := by rw [← hw1]; exact kx.set_ 0 _
  have hb1 : Below w.heap.size w w1 := by rw [← hw1]; exact ((below_drewN (Below.refl _ _) nq).alloc (Nat.le_refl _) _).setCell (p := ⟨w.heap.size, 0, none⟩) (Nat.le_refl _) _
  clear hw1 kx
  have hY1 := HY.out.below hb1
  obtain ⟨d0, d1, d2, df⟩ := hY1.cells
  have HR1 := Lib.hid hY1.row
  have HY1 := Lib.hid hY1
  clear hY1
  go_wp2_with (at_builtin; go_loud (refine wpList_append_any _ rfl (.tmp 25) (.tmp 27) _ rfl 0 120 i0 _ 1 8 Try.underlying112 hi0 iz0 iz1 iz2 rfl (by omega) (.slice A n c) n (bs.map ptr) rfl (HR1.out.alloc _) (From w1.heap.size) (some ⟨w1.heap.size, 0, none⟩) 1 1 [ptr w.heap.size] rfl (Rd.one w1 _ _) (by intro u hu; simp at hu; subst hu; rfl) (by simp only [maxLen]; omega) (by omega) (by simp) ?_); intro v2 w2 hown2 hg2 hat2; obtain ⟨A2, c2', hv2, r1, r2⟩ := own_val hown2; subst hv2; have hp2 := arow_p2 (HY1.out.blk.alloc (.cells #[.pointer (some ⟨w.heap.size, 0, none⟩)] 120)) hg2 HY1.out.row_p; obtain ⟨p0, p1, p2, pf⟩ := blk3 hp2; have HO2 := Lib.hid hown2; have HA2 := Lib.hid hat2; clear hown2 hat2)
  go_ret2
  obtain ⟨q1, q2⟩ := HY.out.push rfl (hb1.alloc hb1.size _) (k1.alloc (.cells #[.pointer (some ⟨w.heap.size, 0, none⟩)] 120)) HO2.out hg2 HA2.out rfl
  exact ⟨by rw [HL.out]; rfl, ⟨A2, n + 1, c2', _, q1⟩, q2⟩

/-- a latch is taken -/
theorem lock_hit (F : Nat → Prop) (p : Nat) (nodes root : Int) (sl : List Slt) (id : Int) (s : Slt) (w : World) (h : ArX w F p nodes sl root) (h1 : 1 ≤ id) (h2 : id ≤ sl.length) (hn : sl.length ≤ 65536) (hs : sl[id.toNat - 1]? = some s) (h0 : 0 ≤ s.1) (hm : s.1 ≤ 4611686018427387904)
    (he : s.1 % 2 = 0) :
    Calls Try.prog 104 #[.pointer (some ⟨p, 0, none⟩), .int .i64 id, .int .u64 s.1] w fun e w' => e = .returned (.tuple #[.bool true, .int .i64 0]) ∧ ArX w' F p nodes (sl.set (id.toNat - 1) (s.1 + 1, s.2)) root ∧ Chg F w w' := by
  obtain ⟨A, n, c, bs, hY⟩ := h
  have e1 : n = sl.length := hY.len
  obtain ⟨g, s', hg, hs', hFg, hx⟩ := hY.slot_at h1 (by omega)
  rw [hs] at hs'
  injection hs' with hs'
  subst hs'
  have HX := Lib.hid hx
  have HF := Lib.hid hFg
  have hgm : g ∈ bs := List.mem_of_getElem? hg
  obtain ⟨hA, hn', hc, kA, kn, kc, vA, vn, vc, dA, dn, dc, hb, q1, q2, q3, q4⟩ := hx
  obtain ⟨z0, z1, z2, z3, z4, z5, z6, z7⟩ := blk7 hb
  have zf : w.frozen? ⟨g, 0, none⟩ = false := z7 0
  have h3 : id ≤ n := by omega
  have h4 : n ≤ 65536 := by omega
  have HG := Lib.hid hg
  have HB := Lib.hid hb
  have hand : bits BinOp.and IntKind.u64 s.1 1 = s.1 % 2 := and_one_u64 s.1 h0 (by omega)
  have hev : (s.1 % 2 == 0) = true := by rw [beq_iff_eq]; exact he
  clear hg hs h2 hn e1 hb he hFg
  go_enter Try.func104, Try.ntmps104
  go_wp2_with (first | (go_at_call 94; refine (at_in F p nodes root sl A n c bs id _ hY h1 h3 h4 g HG.out).mono ?_; rintro e w' ⟨rfl, rfl⟩) | (go_at_call 118; refine (u64cas_hit _ _ _ _ _ z0 zf).mono ?_; rintro e w' ⟨rfl, rfl⟩))
  go_ret2
  have hch := Chg.set1 w g 0 (.int .u64 (s.1 + 1))
  exact ⟨rfl, ⟨A, n, c, bs, hY.upd HG.out hch (fun _ h => h) (HX.out.setWord (fun hc => hc.2 (.inr (.inr hgm))) _)⟩, hch.mono (fun b _ e => (show b = g from e) ▸ HF.out)⟩

/-- a slot whose latch is held -/
theorem under_ok (F : Nat → Prop) (p : Nat) (nodes root : Int) (sl : List Slt) (A : Option Addr) (n c : Nat) (bs : List Nat) (id : Int) (s : Slt) (w : World) (hY : ArY w F p nodes sl root A n c bs) (h1 : 1 ≤ id) (h3 : id ≤ n) (h4 : n ≤ 65536) (g : Nat) (hg : bs[id.toNat - 1]? = some g) (hs : sl[id.toNat - 1]? = some s) (h0 : 0 ≤ s.1) (hm : s.1 ≤ 4611686018427387904)
    (he : s.1 % 2 = 1) :
    Calls Try.prog 120 #[.pointer (some ⟨p, 0, none⟩), .int .i64 id] w fun e w' => e = .returned (.tuple #[.pointer (some ⟨g, 0, none⟩), .int .i64 0]) ∧ w = w' := by
  obtain ⟨hA, hn', hc, kA, kn, kc, vA, vn, vc, dA, dn, dc, hb, q1, q2, q3, q4⟩ := hY.slot _ g s hg hs
  obtain ⟨z0, z1, z2, z3, z4, z5, z6, z7⟩ := blk7 hb
  have HG := Lib.hid hg
  have hand : bits BinOp.and IntKind.u64 s.1 1 = s.1 % 2 := and_one_u64 s.1 h0 (by omega)
  have hev : (s.1 % 2 == 0) = false := by rw [beq_eq_false_iff_ne]; omega
  clear hg hs hb he
  go_enter Try.func120, Try.ntmps120
  go_wp2_with (first | (go_at_call 94; refine (at_in F p nodes root sl A n c bs id _ hY h1 h3 h4 g HG.out).mono ?_; rintro e w' ⟨rfl, rfl⟩) | (go_at_call 52; refine (u64load_any _ _ _ _ z0).mono ?_; rintro e w' ⟨rfl, rfl⟩))
  go_ret2
  exact ⟨rfl, rfl⟩

/-- a latch is given back, behind a change -/
theorem unlock_true (F : Nat → Prop) (p : Nat) (nodes root : Int) (sl : List Slt) (id : Int) (s : Slt) (w : World) (h : ArX w F p nodes sl root) (h1 : 1 ≤ id) (h2 : id ≤ sl.length) (hn : sl.length ≤ 65536) (hs : sl[id.toNat - 1]? = some s) (h0 : 0 ≤ s.1) (hm : s.1 ≤ 4611686018427387904)
    (he : s.1 % 2 = 1) :
    Calls Try.prog 108 #[.pointer (some ⟨p, 0, none⟩), .int .i64 id, .bool true] w fun e w' => e = .returned (.int .i64 0) ∧ ArX w' F p nodes (sl.set (id.toNat - 1) (s.1 + 1, s.2)) root ∧ Chg F w w' := by
  have HS := Lib.hid hs
  obtain ⟨A, n, c, bs, hY⟩ := h
  have e1 : n = sl.length := hY.len
  obtain ⟨g, s', hg, hs', hFg, hx⟩ := hY.slot_at h1 (by omega)
  rw [hs] at hs'
  injection hs' with hs'
  subst hs'
  have HX := Lib.hid hx
  have HF := Lib.hid hFg
  have hgm : g ∈ bs := List.mem_of_getElem? hg
  obtain ⟨hA, hn', hc, kA, kn, kc, vA, vn, vc, dA, dn, dc, hb, q1, q2, q3, q4⟩ := hx
  obtain ⟨z0, z1, z2, z3, z4, z5, z6, z7⟩ := blk7 hb
  have zf : w.frozen? ⟨g, 0, none⟩ = false := z7 0
  have h3 : id ≤ n := by omega
  have h4 : n ≤ 65536 := by omega
  have HG := Lib.hid hg
  have HB := Lib.hid hb
  have hand : bits BinOp.and IntKind.u64 s.1 1 = s.1 % 2 := and_one_u64 s.1 h0 (by omega)
  have HW : Hid (IntKind.u64.wrap (s.1 + 1) = s.1 + 1) := Lib.hid (IntWalk.u64_in _ (by omega))
  have HE := Lib.hid he
  clear hg hs h2 hn e1 hb he hFg hand
  go_enter Try.func108, Try.ntmps108
  go_wp2_with (first | (go_at_call 120; refine (under_ok F p nodes root sl A n c bs id s _ hY h1 h3 h4 g HG.out HS.out h0 hm HE.out).mono ?_; rintro e w' ⟨rfl, rfl⟩) | (go_at_call 121; refine (u64add_any _ _ _ _ _ z0 zf).mono ?_; rintro e w' ⟨rfl, rfl⟩; rw [HW.out]))
  go_ret
  have hch := Chg.set1 w g 0 (.int .u64 (s.1 + 1))
  exact ⟨rfl, ⟨A, n, c, bs, hY.upd HG.out hch (fun _ h => h) (HX.out.setWord (fun hc => hc.2 (.inr (.inr hgm))) _)⟩, hch.mono (fun b _ e => (show b = g from e) ▸ HF.out)⟩

set_option maxRecDepth 100000 in
theorem setHead_ok (F : Nat → Prop) (p : Nat) (nodes root : Int) (sl : List Slt) (id : Int) (s : Slt) (w : World) (h : ArX w F p nodes sl root) (h1 : 1 ≤ id) (h2 : id ≤ sl.length) (hn : sl.length ≤ 65536) (hs : sl[id.toNat - 1]? = some s) (h0 : 0 ≤ s.1) (hm : s.1 ≤ 4611686018427387904)
    (he : s.1 % 2 = 1) (G : Nat → Prop) (B : Option Addr) (m d : Nat) (lev right : Int) (high : List UInt8) (hB : Bt w G B m d high) (hsm : high.length ≤ 1152921504606) :
    Calls Try.prog 106 #[.pointer (some ⟨p, 0, none⟩), .int .i64 id, .agg #[.int .i64 lev, .slice B m d, .int .i64 right]] w fun e w' =>
      e = .returned (.int .i64 0) ∧ ArX w' (fun b => F b ∨ w.heap.size ≤ b) p nodes (sl.set (id.toNat - 1) (s.1, ⟨lev, high, right, s.2.keys, s.2.vals, s.2.kids⟩)) root ∧ Chg F w w' := by
  have HS := Lib.hid hs
  obtain ⟨A, n, c, bs, hY⟩ := h
  have e1 : n = sl.length := hY.len
  obtain ⟨g, s', hg, hs', hFg, hx⟩ := hY.slot_at h1 (by omega)
  rw [hs] at hs'
  injection hs' with hs'
  subst hs'
  have HX := Lib.hid hx
  have HF := Lib.hid hFg
  have hgm : g ∈ bs := List.mem_of_getElem? hg
  obtain ⟨hA, hn', hc, kA, kn, kc, vA, vn, vc, dA, dn, dc, hb, q1, q2, q3, q4⟩ := hx
  obtain ⟨z0, z1, z2, z3, z4, z5, z6, z7⟩ := blk7 hb
  have zf : w.frozen? ⟨g, 0, none⟩ = false := z7 0
  have h3 : id ≤ n := by omega
  have h4 : n ≤ 65536 := by omega
  have HG := Lib.hid hg
  have HB := Lib.hid hb
  have hand : bits BinOp.and IntKind.u64 s.1 1 = s.1 % 2 := and_one_u64 s.1 h0 (by omega)
  have b1 : Below w.heap.size w (w.alloc (.cells #[.int .i64 lev, .slice B m d, .int .i64 right] 88)) := (Below.refl _ _).alloc (Nat.le_refl _) _
  have hY1 := hY.below b1
  have HBB := Lib.hid (hB.below b1)
  have HSM := Lib.hid hsm
  have HE := Lib.hid he
  have hfld := fld_head
  have HY := Lib.hid hY
  have hgs := hY.lt_bs hgm
  clear hg hs h2 hn e1 hb he hFg hand hB hsm hY z0 z1 z2 z3 z4 z5 z6 z7 zf
  go_enter Try.func106, Try.ntmps106
  go_wp2_with (first | (go_at_call 120; refine (under_ok F p nodes root sl A n c bs id s _ hY1 h1 h3 h4 g HG.out HS.out h0 hm HE.out).mono ?_; rintro e w' ⟨rfl, rfl⟩))
  refine (nclone_any ⟨lev, high, right, [], [], []⟩ G B none none none m d 0 0 0 0 0 0 _ HBB.out (Tx.nil _ _) (Tx.nil _ _) (It.nil _ _) ⟨HSM.out, by simp, by simp, by simp, by simp, by simp⟩).mono ?_
  rintro e w1 ⟨A1, n1, c1, A2, n2, c2, A3, n3, c3, A4, n4, c4, rfl, r1, r2, r3, r4, hb1⟩
  have hB1 : Below w.heap.size w w1 := b1.trans (hb1.mono b1.size)
  obtain ⟨z0, z1, z2, z3, z4, z5, z6, z7⟩ := blk7 (HB.out.below hB1)
  go_wp2
  go_ret
  have hch := set3_chg w1 g 1 2 3 (.int .i64 lev) (.slice A1 n1 c1) (.int .i64 right)
  have hx1 : SlotX w1 (fun b => (F b ∨ w.heap.size ≤ b) ∧ ¬ Mut p (.slice A n c) bs b) g s := (HX.out.chg (Chg.of_below (S := Nil) hB1) (fun hf => hf) (fun _ _ hf => hf)).weak (fun b hb => ⟨.inl hb.1, hb.2⟩)
  have hYl := HY.out
  have hr1 : Bt w1 (fun b => (F b ∨ w.heap.size ≤ b) ∧ ¬ Mut p (.slice A n c) bs b) A1 n1 c1 high := r1.weak (fun b hb => ⟨.inr (by simp only [From, World.size_alloc] at hb; omega), hYl.mut_lt (by simp only [From, World.size_alloc] at hb; omega)⟩)
  refine ⟨rfl, ⟨A, n, c, bs, (hYl.below hB1).upd HG.out hch (fun b hb => .inl hb) (hx1.setHead (fun hc => hc.2 (.inr (.inr hgm))) hr1)⟩, ?_⟩
  exact (Chg.of_below (S := F) hB1).trans hch (fun b _ e => (show b = g from e) ▸ HF.out)

set_option maxRecDepth 100000 in
theorem setBody_ok (F : Nat → Prop) (p : Nat) (nodes root : Int) (sl : List Slt) (id : Int) (s : Slt) (w : World) (h : ArX w F p nodes sl root) (h1 : 1 ≤ id) (h2 : id ≤ sl.length) (hn : sl.length ≤ 65536) (hs : sl[id.toNat - 1]? = some s) (h0 : 0 ≤ s.1) (hm : s.1 ≤ 4611686018427387904)
    (he : s.1 % 2 = 1) (G : Nat → Prop) (B1 B2 B3 : Option Addr) (m1 d1 m2 d2 m3 d3 : Nat) (keys vals : List (List UInt8)) (kids : List Int) (hK : Tx w G B1 m1 d1 keys) (hV : Tx w G B2 m2 d2 vals) (hI : It w G B3 m3 d3 kids) (hsm : Small ⟨0, [], 0, keys, vals, kids⟩) :
    Calls Try.prog 107 #[.pointer (some ⟨p, 0, none⟩), .int .i64 id, .agg #[.slice B1 m1 d1, .slice B2 m2 d2, .slice B3 m3 d3]] w fun e w' =>
      e = .returned (.int .i64 0) ∧ ArX w' (fun b => F b ∨ w.heap.size ≤ b) p nodes (sl.set (id.toNat - 1) (s.1, ⟨s.2.lev, s.2.high, s.2.right, keys, vals, kids⟩)) root ∧ Chg F w w' := by
  have HS := Lib.hid hs
  obtain ⟨A, n, c, bs, hY⟩ := h
  have e1 : n = sl.length := hY.len
  obtain ⟨g, s', hg, hs', hFg, hx⟩ := hY.slot_at h1 (by omega)
  rw [hs] at hs'
  injection hs' with hs'
  subst hs'
  have HX := Lib.hid hx
  have HF := Lib.hid hFg
  have hgm : g ∈ bs := List.mem_of_getElem? hg
  obtain ⟨hA, hn', hc, kA, kn, kc, vA, vn, vc, dA, dn, dc, hb, q1, q2, q3, q4⟩ := hx
  have h3 : id ≤ n := by omega
  have h4 : n ≤ 65536 := by omega
  have HG := Lib.hid hg
  have HB := Lib.hid hb
  have b1 : Below w.heap.size w (w.alloc (.cells #[.slice B1 m1 d1, .slice B2 m2 d2, .slice B3 m3 d3] 91)) := (Below.refl _ _).alloc (Nat.le_refl _) _
  have hY1 := hY.below b1
  have HK := Lib.hid (hK.below b1)
  have HV := Lib.hid (hV.below b1)
  have HI := Lib.hid (hI.below b1)
  have HSM := Lib.hid hsm
  have HE := Lib.hid he
  have hfld := fld_body
  have HY := Lib.hid hY
  have hgs := hY.lt_bs hgm
  clear hg hs h2 hn e1 hb he hFg hK hV hI hsm hY
  go_enter Try.func107, Try.ntmps107
  go_wp2_with (first | (go_at_call 120; refine (under_ok F p nodes root sl A n c bs id s _ hY1 h1 h3 h4 g HG.out HS.out h0 hm HE.out).mono ?_; rintro e w' ⟨rfl, rfl⟩))
  refine (nclone_any ⟨0, [], 0, keys, vals, kids⟩ G none B1 B2 B3 0 0 m1 d1 m2 d2 m3 d3 _ (Bt.nil _ _) HK.out HV.out HI.out HSM.out).mono ?_
  rintro e w1 ⟨A1, n1, c1, A2, n2, c2, A3, n3, c3, A4, n4, c4, rfl, r1, r2, r3, r4, hb1⟩
  have hB1 : Below w.heap.size w w1 := b1.trans (hb1.mono b1.size)
  obtain ⟨z0, z1, z2, z3, z4, z5, z6, z7⟩ := blk7 (HB.out.below hB1)
  go_wp2
  go_ret
  have hch := set3_chg w1 g 4 5 6 (.slice A2 n2 c2) (.slice A3 n3 c3) (.slice A4 n4 c4)
  have hx1 : SlotX w1 (fun b => (F b ∨ w.heap.size ≤ b) ∧ ¬ Mut p (.slice A n c) bs b) g s := (HX.out.chg (Chg.of_below (S := Nil) hB1) (fun hf => hf) (fun _ _ hf => hf)).weak (fun b hb => ⟨.inl hb.1, hb.2⟩)
  have hYl := HY.out
  have up : ∀ b, From (w.alloc (.cells #[.slice B1 m1 d1, .slice B2 m2 d2, .slice B3 m3 d3] 91)).heap.size b → ((F b ∨ w.heap.size ≤ b) ∧ ¬ Mut p (.slice A n c) bs b) := fun b hb => ⟨.inr (by simp only [From, World.size_alloc] at hb; omega), hYl.mut_lt (by simp only [From, World.size_alloc] at hb; omega)⟩
  refine ⟨rfl, ⟨A, n, c, bs, (hYl.below hB1).upd HG.out hch (fun b hb => .inl hb) (hx1.setBody (fun hc => hc.2 (.inr (.inr hgm))) (r2.weak up) (r3.weak up) (r4.weak up))⟩, ?_⟩
  exact (Chg.of_below (S := F) hB1).trans hch (fun b _ e => (show b = g from e) ▸ HF.out)

theorem grow_hit (F : Nat → Prop) (p : Nat) (nodes root : Int) (sl : List Slt) (id : Int) (w : World) (h : ArX w F p nodes sl root) (h1 : 1 ≤ id) (h2 : id ≤ sl.length) (hn : sl.length ≤ 65536) (hr : -9223372036854775808 ≤ root ∧ root ≤ 9223372036854775807) :
    Calls Try.prog 63 #[.pointer (some ⟨p, 0, none⟩), .int .i64 root, .int .i64 id] w fun e w' => e = .returned (.tuple #[.bool true, .int .i64 0]) ∧ ArX w' F p nodes sl id ∧ Chg F w w' := by
  obtain ⟨A, n, c, bs, hY⟩ := h
  have e1 : n = sl.length := hY.len
  obtain ⟨g, s', hg, hs', hFg, hx⟩ := hY.slot_at h1 (by omega)
  obtain ⟨c0, c1, c2, cf⟩ := hY.cells
  have zf : w.frozen? ⟨p, 2, none⟩ = false := cf 2
  have h3 : id ≤ n := by omega
  have h4 : n ≤ 65536 := by omega
  have HG := Lib.hid hg
  have HY := Lib.hid hY
  clear hg hs' h2 hn e1 hx hFg
  go_enter Try.func63, Try.ntmps63
  go_wp2_with (first | (go_at_call 94; refine (at_in F p nodes root sl A n c bs id _ HY.out h1 h3 h4 g HG.out).mono ?_; rintro e w' ⟨rfl, rfl⟩) | (go_at_call 95; refine (i64cas_hit _ _ _ _ _ c2 zf).mono ?_; rintro e w' ⟨rfl, rfl⟩))
  go_ret2
  exact ⟨rfl, ⟨A, n, c, bs, HY.out.setRoot id⟩, (Chg.set1 w p 2 _).mono (fun b _ e => (show b = p from e) ▸ HY.out.fp)⟩

/-- an arena of one slot -/
def NewArena (w : World) (nodes : Int) (e : Ending) (w' : World) : Prop :=
  ∃ p, e = .returned (.tuple #[.pointer (some ⟨p, 0, none⟩), .int .i64 0]) ∧ ArX w' (From w.heap.size) p nodes [(0, Nd.zero)] 1 ∧ Below w.heap.size w w'
theorem three_blk' (w : World) (t0 t1 t2 : TypeId) (c0 c1 c2 : Array Value) :
    Blk (((w.alloc (.cells c0 t0)).alloc (.cells c1 t1)).alloc (.cells c2 t2)) w.heap.size t0 c0 ∧ Blk (((w.alloc (.cells c0 t0)).alloc (.cells c1 t1)).alloc (.cells c2 t2)) (w.heap.size + 1) t1 c1 ∧
    Blk (((w.alloc (.cells c0 t0)).alloc (.cells c1 t1)).alloc (.cells c2 t2)) (w.heap.size + 1 + 1) t2 c2 ∧ Below w.heap.size w (((w.alloc (.cells c0 t0)).alloc (.cells c1 t1)).alloc (.cells c2 t2)) := by
  refine ⟨((Blk.new w t0 c0).alloc _).alloc _, ?_, ?_, (((Below.refl _ _).alloc (Nat.le_refl _) _).alloc (by simp) _).alloc (by simp; omega) _⟩
  · have := (Blk.new (w.alloc (.cells c0 t0)) t1 c1).alloc (.cells c2 t2)
    simpa using this
  · have := Blk.new ((w.alloc (.cells c0 t0)).alloc (.cells c1 t1)) t2 c2
    simpa using this
theorem anew_is {w w1 : World} {g r p : Nat} {nodes : Int} {F : Nat → Prop} (k0 : Blk w1 g 124 (slot0 0)) (k1 : Blk w1 r 120 #[ptr g]) (k2 : Blk w1 p 119 #[.int .i64 nodes, .slice (some ⟨r, 0, none⟩) 1 1, .int .i64 0]) (h0 : F g) (h1 : F r) (h2 : F p) :
    ArY w1 F p nodes [(0, Nd.zero)] 0 (some ⟨r, 0, none⟩) 1 1 [g] := by
  refine ⟨rfl, rfl, k2, ⟨rfl, .inr ⟨r, 1, #[ptr g], rfl, Nat.zero_le _, k1, Nat.le_refl _, by simp [maxLen], rfl, rfl⟩⟩, h2, fun b hb => ?_, fun b hb => ?_, by simp, fun i g' s hg hs => ?_⟩
  · have hb : r = b := by simpa [Value.ownBlock] using hb
    exact hb ▸ h1
  · have hb : b = g := by simpa using hb
    exact hb ▸ h0
  · match i with
    | 0 =>
      have e1 : g' = g := by simpa using hg.symm
      have e2 : s = (0, Nd.zero) := by simpa using hs.symm
      subst e1; subst e2
      exact slot0_is _ k0
    | i + 1 => simp at hg
theorem anew_ok (nodes : Int) (h1 : 1 ≤ nodes) (h2 : nodes ≤ 65536) (w : World) : Calls Try.prog 60 #[.int .i64 nodes] w (NewArena w nodes) := by
  go_enter Try.func60, Try.ntmps60
  go_wp2_with fail
  obtain ⟨k0, k1, k2, hb⟩ := three_blk' w 124 120 119 (slot0 0) #[ptr w.heap.size] #[.int .i64 nodes, .slice (some ⟨w.heap.size + 1, 0, none⟩) 1 1, .int .i64 0]
  have hY := anew_is (w := w) (F := From w.heap.size) k0 k1 k2 (Nat.le_refl _) (by show w.heap.size ≤ w.heap.size + 1; omega) (by show w.heap.size ≤ w.heap.size + 1 + 1; omega)
  have HY := Lib.hid hY
  have HB := Lib.hid hb
  refine (i64store_any _ _ (.int .i64 0) _ _ (k2.cell 2) (k2.frozen 2)).mono ?_
  clear hY hb k0 k1 k2
  rintro e w1 ⟨rfl, hw1⟩
  have q1 : ArX w1 (From w.heap.size) (w.heap.size + 1 + 1) nodes [(0, Nd.zero)] 1 := by rw [← hw1]; exact ⟨_, _, _, _, HY.out.setRoot 1⟩
  have q2 : Below w.heap.size w w1 := by rw [← hw1]; exact HB.out.setCell (p := ⟨w.heap.size + 1 + 1, 2, none⟩) (by show w.heap.size ≤ w.heap.size + 1 + 1; omega) _
  clear hw1
  go_wp2
  go_ret2
  exact ⟨_, rfl, q1, q2⟩
end Go.Proofs.Ytgjphmlmndcaeaa

namespace Go.Proofs.Ytgjphmlmndcaeaa
open Go.RowKit

section
variable {F G S : Nat → Prop} {w w' : World} {p : Nat} {nodes root : Int} {sl : List Slt}
/-- all blocks of an arena are there -/
theorem ArX.lt (h : ArX w F p nodes sl root) : ArX w (fun b => F b ∧ b < w.heap.size) p nodes sl root := by
  obtain ⟨A, n, c, bs, hY⟩ := h
  have hb : ∀ b ∈ bs, b < w.heap.size := by
    intro b hb
    obtain ⟨i, hi⟩ := List.mem_iff_getElem?.1 hb
    have hl : i < sl.length := by have := (List.getElem?_eq_some_iff.1 hi).1; have e1 : n = sl.length := hY.len; have e2 : bs.length = n := hY.blen; omega
    obtain ⟨hA, hn', hc, kA, kn, kc, vA, vn, vc, dA, dn, dc, hk, _⟩ := hY.slot i b _ hi (List.getElem?_eq_getElem hl)
    exact hk.lt
  exact ⟨A, n, c, bs, ⟨hY.len, hY.blen, hY.blk, hY.row, ⟨hY.fp, hY.blk.lt⟩, fun b hb => ⟨hY.frow b hb, (own_lt hY.row b hb).2⟩, fun b h => ⟨hY.fbs b h, hb b h⟩, hY.nodup, fun i g s hg hs => (hY.slot i g s hg hs).lt.weak (fun b hb => ⟨⟨hb.1.1, hb.2⟩, hb.1.2⟩)⟩⟩
end
/-- F, and what has been made since -/
def Grown (F : Nat → Prop) (w w' : World) : Nat → Prop := fun b => F b ∨ (w.heap.size ≤ b ∧ b < w'.heap.size)
theorem ArX.drew {F : Nat → Prop} {w : World} {p : Nat} {nodes root : Int} {sl : List Slt} (h : ArX w F p nodes sl root) : ArX w.drew F p nodes sl root := h.chg (S := Nil) (Chg.of_below (Below.refl _ _).drew) (fun _ _ hf => hf)
theorem ArX.grown {F : Nat → Prop} {w w0 : World} {p : Nat} {nodes root : Int} {sl : List Slt} (h : ArX w (fun b => F b ∨ w0.heap.size ≤ b) p nodes sl root) : ArX w (Grown F w0 w) p nodes sl root :=
  h.lt.weak (fun b hb => hb.1.elim .inl (fun h => .inr ⟨h, hb.2⟩))
theorem Grown.trans {F : Nat → Prop} {w w1 w2 : World} (h1 : w.heap.size ≤ w1.heap.size) (h2 : w1.heap.size ≤ w2.heap.size) : ∀ b, Grown (Grown F w w1) w1 w2 b → Grown F w w2 b := by
  intro b hb
  rcases hb with (h | h) | h
  · exact .inl h
  · exact .inr ⟨h.1, by omega⟩
  · exact .inr ⟨by omega, h.2⟩
theorem Chg.grownF {F : Nat → Prop} {w w1 w2 : World} (h : Chg (Grown F w w1) w1 w2) (k : Chg F w w1) : Chg F w w2 :=
  k.trans h (fun b hb hT => hT.elim id (fun h => absurd h.1 (by omega)))

/-- the slot behind a node has been laid: the node, the word -/
def LaidNode (w : World) (F : Nat → Prop) (p mm : Nat) (nodes root : Int) (sl' : List Slt) (id : Int) (e : Ending) (w' : World) : Prop :=
  e = .returned (.int .i64 id) ∧ ArX w' (Grown F w w') p nodes sl' root ∧ Blk w' mm 132 #[.pointer (some ⟨p, 0, none⟩), .bool false] ∧ Chg (fun b => F b ∨ b = mm) w w'

/-- of F, and there at the beginning -/
def Soft0 (F : Nat → Prop) (w : World) : Nat → Prop := fun b => F b ∧ b < w.heap.size
set_option maxRecDepth 100000 in
set_option maxHeartbeats 4000000 in
theorem layFresh (more : Bool) (F G : Nat → Prop) (p mm : Nat) (nodes root : Int) (nd : Nd) (hA kA vA dA : Option Addr) (hn hc kn kc vn vc dn dc : Nat) (w : World)
    (hx : ArX w F p nodes [(0, Nd.zero)] root) (hm : Blk w mm 132 #[.pointer (some ⟨p, 0, none⟩), .bool true]) (hmF : ¬ F mm)
    (h1 : Bt w G hA hn hc nd.high) (h2 : Tx w G kA kn kc nd.keys) (h3 : Tx w G vA vn vc nd.vals) (h4 : It w G dA dn dc nd.kids) (hG : ∀ b, G b → ¬ F b ∧ b ≠ mm) (hs : Small nd) (rt : Int) (hrt : rt = if more then 2 else nd.right) :
    Calls Try.prog 92 #[.pointer (some ⟨mm, 0, none⟩), .agg #[.int .i64 nd.lev, .slice hA hn hc, .int .i64 nd.right, .slice kA kn kc, .slice vA vn vc, .slice dA dn dc], .bool more] w
      (LaidNode w F p mm nodes root [(2, ⟨nd.lev, nd.high, rt, nd.keys, nd.vals, nd.kids⟩)] 1) := by
  have b1 : Below w.heap.size w (w.alloc (.cells #[.int .i64 nd.lev, .slice hA hn hc, .int .i64 nd.right, .slice kA kn kc, .slice vA vn vc, .slice dA dn dc] 93)) := (Below.refl _ _).alloc (Nat.le_refl _) _
  have HX := Lib.hid ((show ArX w (Soft0 F w) p nodes _ root from hx.lt).below b1)
  have HM := Lib.hid (hm.below b1)
  have HB := Lib.hid (Blk.new w 93 #[.int .i64 nd.lev, .slice hA hn hc, .int .i64 nd.right, .slice kA kn kc, .slice vA vn vc, .slice dA dn dc])
  obtain ⟨m0, m1, mf⟩ : (w.alloc (.cells #[.int .i64 nd.lev, .slice hA hn hc, .int .i64 nd.right, .slice kA kn kc, .slice vA vn vc, .slice dA dn dc] 93)).cell? ⟨mm, 0, none⟩ = some (.pointer (some ⟨p, 0, none⟩)) ∧ (w.alloc (.cells #[.int .i64 nd.lev, .slice hA hn hc, .int .i64 nd.right, .slice kA kn kc, .slice vA vn vc, .slice dA dn dc] 93)).cell? ⟨mm, 1, none⟩ = some (.bool true) ∧ SoftAt w mm :=
    ⟨by rw [HM.out.cell]; rfl, by rw [HM.out.cell]; rfl, hm.soft⟩
  have hml := hm.lt
  have H1 := Lib.hid (show Bt w (Soft0 G w) hA hn hc nd.high from h1.lt)
  have H2 := Lib.hid (show Tx w (Soft0 G w) kA kn kc nd.keys from h2.lt)
  have H3 := Lib.hid (show Tx w (Soft0 G w) vA vn vc nd.vals from h3.lt)
  have H4 := Lib.hid (show It w (Soft0 G w) dA dn dc nd.kids from h4.lt)
  have HS := Lib.hid hs
  clear hx hm h1 h2 h3 h4 hs
  have LK := Lib.hid (lock_hit (Soft0 F w) p nodes root [(0, Nd.zero)] 1 (0, Nd.zero) _ HX.out (by omega) (by simp) (by simp) (by simp) (by simp) (by simp) (by simp))
  cases more
  · go_enter Try.func92, Try.ntmps92
    go_wp2_with (first | (go_at_call 104; go_loud (refine (LK.out).mono ?_); go_loud (rintro e w2 ⟨rfl, hx2, hc2⟩; have HX2 := Lib.hid hx2; have HC2 := Lib.hid hc2; have HM2 := Lib.hid (HM.out.chg hc2 (fun h => hmF h.1)); have HB2 := Lib.hid (HB.out.chg hc2 (fun h => by have := h.2; omega)); have n0 : w2.cell? ⟨mm, 0, none⟩ = some (.pointer (some ⟨p, 0, none⟩)) := (HM2.out.cell _).trans rfl; have n1 : w2.cell? ⟨mm, 1, none⟩ = some (.bool true) := (HM2.out.cell _).trans rfl; have nf : ∀ o, w2.frozen? ⟨mm, o, none⟩ = false := HM2.out.frozen; clear hx2 hc2)))
    have HMV : Hid (Blk (w2.setCell ⟨mm, 1, none⟩ (.bool false)) mm 132 #[.pointer (some ⟨p, 0, none⟩), .bool false]) := Lib.hid (HM2.out.set_ 1 (.bool false))
    have HBV := Lib.hid (HB2.out.far (p := ⟨mm, 1, none⟩) (by show w.heap.size ≠ mm; omega) (.bool false))
    have HXV : Hid (ArX (w2.setCell ⟨mm, 1, none⟩ (.bool false)) (Soft0 F w) p nodes [(1, Nd.zero)] root) := Lib.hid (HX2.out.chg (Chg.set1 w2 mm 1 _) (fun b hb e => hmF (by have e : b = mm := e; exact e ▸ hb.1)))
    have HCV : Hid (Chg (fun b => (Soft0 F w b ∨ b = mm) ∨ w.heap.size ≤ b) w (w2.setCell ⟨mm, 1, none⟩ (.bool false))) := Lib.hid (((Chg.of_below b1).trans HC2.out (fun b _ h => .inl (.inl h))).setCell (p := ⟨mm, 1, none⟩) (fun _ => .inl (.inr rfl)) _)
    have hI1 : (1 : Int) ≤ 1 := by omega
    have hI2 : (1 : Int) ≤ (([(1, Nd.zero)] : List Slt).length : Int) := by simp
    have hI3 : ([(1, Nd.zero)] : List Slt).length ≤ 65536 := by simp
    have hS1 : ([(1, Nd.zero)] : List Slt)[(1 : Int).toNat - 1]? = some (1, Nd.zero) := rfl
    have hfin : ([(1, Nd.zero)] : List Slt).set ((1 : Int).toNat - 1) (2, ⟨nd.lev, nd.high, nd.right, nd.keys, nd.vals, nd.kids⟩) = [(2, ⟨nd.lev, nd.high, rt, nd.keys, nd.vals, nd.kids⟩)] := by rw [hrt]; rfl
    clear b1 HX HM HB HX2 HC2 HM2 HB2 n0 n1 nf m0 m1 mf LK
    have fv : ∀ b, Soft0 F w b → Soft0 F w b ∨ (w.heap.size < b ∧ b < (w2.setCell ⟨mm, 1, none⟩ (.bool false)).heap.size) := fun b h => .inl h
    -- the slot is held: the head, the body, the latch
    have b0 : (w2.setCell ⟨mm, 1, none⟩ (.bool false)).cell? ⟨mm, 0, none⟩ = some (.pointer (some ⟨p, 0, none⟩)) := by rw [HMV.out.cell]; rfl
    have x0 : (w2.setCell ⟨mm, 1, none⟩ (.bool false)).cell? ⟨w.heap.size, 0, none⟩ = some (.int .i64 nd.lev) := by rw [HBV.out.cell]; rfl
    have x1 : (w2.setCell ⟨mm, 1, none⟩ (.bool false)).cell? ⟨w.heap.size, 1, none⟩ = some (.slice hA hn hc) := by rw [HBV.out.cell]; rfl
    have x2 : (w2.setCell ⟨mm, 1, none⟩ (.bool false)).cell? ⟨w.heap.size, 2, none⟩ = some (.int .i64 nd.right) := by rw [HBV.out.cell]; rfl
    have x3 : (w2.setCell ⟨mm, 1, none⟩ (.bool false)).cell? ⟨w.heap.size, 3, none⟩ = some (.slice kA kn kc) := by rw [HBV.out.cell]; rfl
    have x4 : (w2.setCell ⟨mm, 1, none⟩ (.bool false)).cell? ⟨w.heap.size, 4, none⟩ = some (.slice vA vn vc) := by rw [HBV.out.cell]; rfl
    have x5 : (w2.setCell ⟨mm, 1, none⟩ (.bool false)).cell? ⟨w.heap.size, 5, none⟩ = some (.slice dA dn dc) := by rw [HBV.out.cell]; rfl
    obtain ⟨V, hV⟩ : ∃ V, V = w2.setCell ⟨mm, 1, none⟩ (.bool false) := ⟨_, rfl⟩
    rw [← hV] at fv b0 x0 x1 x2 x3 x4 x5 HMV HBV HXV HCV ⊢
    clear hV
    have zV := HCV.out.size
    have gV : ∀ b, Soft0 G w b → ¬ ((Soft0 F w b ∨ b = mm) ∨ w.heap.size ≤ b) := fun b hb h => h.elim (fun h => h.elim (fun h => (hG b hb.1).1 h.1) (hG b hb.1).2) (fun h => by have := hb.2; omega)
    have T1 := Lib.hid ((H1.out.chg HCV.out gV).below (Below.refl _ _).drew)
    have T2 := Lib.hid ((H2.out.chg HCV.out gV).below (Below.refl _ _).drew)
    have T3 := Lib.hid ((H3.out.chg HCV.out gV).below (Below.refl _ _).drew)
    have T4 := Lib.hid ((H4.out.chg HCV.out gV).below (Below.refl _ _).drew)
    have gF : ∀ b, Soft0 G w b → ¬ (Soft0 F w) b := fun b hb h => (fv b h).elim (fun h => (hG b hb.1).1 h.1) (fun h => by have := hb.2; omega)
    have nm : ¬ (Soft0 F w) mm := fun h => (fv _ h).elim (fun h => hmF h.1) (fun h => by omega)
    have nb : ¬ (Soft0 F w) w.heap.size := fun h => (fv _ h).elim (fun h => by have := h.2; omega) (fun h => by omega)
    refine wp_region_U (fun w' => w'.cell? ⟨mm, 0, none⟩ = some (.pointer (some ⟨p, 0, none⟩)) ∧ w'.cell? ⟨w.heap.size, 0, none⟩ = some (.int .i64 nd.lev) ∧ w'.cell? ⟨w.heap.size, 1, none⟩ = some (.slice hA hn hc) ∧ w'.cell? ⟨w.heap.size, 2, none⟩ = some (.int .i64 nd.right)) 7 (by kernel_rfl) ?_
    have S0 : V.drew.cell? ⟨mm, 0, none⟩ = some (.pointer (some ⟨p, 0, none⟩)) ∧ V.drew.cell? ⟨w.heap.size, 0, none⟩ = some (.int .i64 nd.lev) ∧ V.drew.cell? ⟨w.heap.size, 1, none⟩ = some (.slice hA hn hc) ∧ V.drew.cell? ⟨w.heap.size, 2, none⟩ = some (.int .i64 nd.right) := ⟨b0, x0, x1, x2⟩
    refine wpU_free (i := 0) (v := ?_) rfl (by kernel_rfl) (by kernel_rfl) (by kernel_rfl) (by kernel_rfl) (fun _ _ _ h => h) (fun _ => S0) (Or.inl ⟨by rfl, ?_⟩) ?_
    rotate_left
    · intro w hSw
      go_simp
      try with_reducible rfl
    try simp only [Act.put, List.setIfInBounds_toArray, List.set_cons_zero, List.set_cons_succ]
    refine wpU_free (i := 1) (v := ?_) rfl (by kernel_rfl) (by kernel_rfl) (by kernel_rfl) (by kernel_rfl) (fun _ _ _ h => h) (fun _ => S0) (Or.inl ⟨by rfl, ?_⟩) ?_
    rotate_left
    · intro w hSw
      go_simp
      try with_reducible rfl
    try simp only [Act.put, List.setIfInBounds_toArray, List.set_cons_zero, List.set_cons_succ]
    refine wpU_free (i := 2) (v := ?_) rfl (by kernel_rfl) (by kernel_rfl) (by kernel_rfl) (by kernel_rfl) (fun _ _ _ h => h) (fun _ => S0) (Or.inl ⟨by rfl, ?_⟩) ?_
    rotate_left
    · intro w hSw
      go_simp
      try with_reducible rfl
    try simp only [Act.put, List.setIfInBounds_toArray, List.set_cons_zero, List.set_cons_succ]
    refine wpU_free (i := 4) (v := ?_) rfl (by kernel_rfl) (by kernel_rfl) (by kernel_rfl) (by kernel_rfl) (fun _ _ _ h => h) (fun _ => S0) (Or.inl ⟨by rfl, ?_⟩) ?_
    rotate_left
    · intro w hSw
      go_simp
      try with_reducible rfl
    try simp only [Act.put, List.setIfInBounds_toArray, List.set_cons_zero, List.set_cons_succ]
    refine wpU_free (i := 5) (v := ?_) rfl (by kernel_rfl) (by kernel_rfl) (by kernel_rfl) (by kernel_rfl) (fun _ _ _ h => h) (fun _ => S0) (Or.inl ⟨by rfl, ?_⟩) ?_
    rotate_left
    · intro w hSw
      go_simp
      try with_reducible rfl
    try simp only [Act.put, List.setIfInBounds_toArray, List.set_cons_zero, List.set_cons_succ]
    refine wpU_take (i := 3) (v := ?_) rfl (by kernel_rfl) (by kernel_rfl) (by kernel_rfl) (by kernel_rfl) (fun _ _ _ h => h) S0 (Or.inl ⟨by rfl, ?_⟩) ?_
    rotate_left
    · intro w hSw
      obtain ⟨s0, s1, s2, s3⟩ := hSw
      go_simp
      try with_reducible rfl
    try simp only [Act.put, List.setIfInBounds_toArray, List.set_cons_zero, List.set_cons_succ]
    refine wpU_take (i := 6) (v := ?_) rfl (by kernel_rfl) (by kernel_rfl) (by kernel_rfl) (by kernel_rfl) (fun _ _ _ h => h) S0 (Or.inl ⟨by rfl, ?_⟩) ?_
    rotate_left
    · intro w hSw
      obtain ⟨s0, s1, s2, s3⟩ := hSw
      go_simp
      try with_reducible rfl
    try simp only [Act.put, List.setIfInBounds_toArray, List.set_cons_zero, List.set_cons_succ]
    refine wpU_one (i := 7) (by kernel_rfl) rfl (fun K hK => ?_)
    go_simp
    refine (setHead_ok (Soft0 F w) p nodes root [(1, Nd.zero)] 1 (1, Nd.zero) V.drew HXV.out.drew hI1 hI2 hI3 hS1 (by simp) (by simp) (by simp) (Soft0 G w) hA hn hc nd.lev nd.right nd.high T1.out HS.out.1).mono ?_; rintro e w4 ⟨rfl, hx4, hc4⟩
    refine hK.out _ _ (fun h => absurd h (by decide)) ?_
    clear hK K
    try simp only [Act.put, List.setIfInBounds_toArray, List.set_cons_zero, List.set_cons_succ]
    refine wpU_done (by kernel_rfl) ?_ _
    have HX4 := Lib.hid hx4.grown
    have HC4 := Lib.hid hc4
    have U0 := hc4.cell nm b0
    have U3 := hc4.cell nb x3
    have U4 := hc4.cell nb x4
    have U5 := hc4.cell nb x5
    have V2 := Lib.hid ((T2.out.chg hc4 gF).below (Below.refl _ _).drew)
    have V3 := Lib.hid ((T3.out.chg hc4 gF).below (Below.refl _ _).drew)
    have V4 := Lib.hid ((T4.out.chg hc4 gF).below (Below.refl _ _).drew)
    have z4 : V.heap.size ≤ w4.heap.size := hc4.size
    have HM4 := Lib.hid (HMV.out.drew.chg hc4 nm)
    clear hx4 hc4 S0 b0 x0 x1 x2 x3 x4 x5
    go_wp2_with fail
    refine wp_region_U (fun w' => w'.cell? ⟨mm, 0, none⟩ = some (.pointer (some ⟨p, 0, none⟩)) ∧ w'.cell? ⟨w.heap.size, 3, none⟩ = some (.slice kA kn kc) ∧ w'.cell? ⟨w.heap.size, 4, none⟩ = some (.slice vA vn vc) ∧ w'.cell? ⟨w.heap.size, 5, none⟩ = some (.slice dA dn dc)) 7 (by kernel_rfl) ?_
    have S9 : w4.drew.cell? ⟨mm, 0, none⟩ = some (.pointer (some ⟨p, 0, none⟩)) ∧ w4.drew.cell? ⟨w.heap.size, 3, none⟩ = some (.slice kA kn kc) ∧ w4.drew.cell? ⟨w.heap.size, 4, none⟩ = some (.slice vA vn vc) ∧ w4.drew.cell? ⟨w.heap.size, 5, none⟩ = some (.slice dA dn dc) := ⟨U0, U3, U4, U5⟩
    refine wpU_free (i := 0) (v := ?_) rfl (by kernel_rfl) (by kernel_rfl) (by kernel_rfl) (by kernel_rfl) (fun _ _ _ h => h) (fun _ => S9) (Or.inl ⟨by rfl, ?_⟩) ?_
    rotate_left
    · intro w hSw
      go_simp
      try with_reducible rfl
    try simp only [Act.put, List.setIfInBounds_toArray, List.set_cons_zero, List.set_cons_succ]
    refine wpU_free (i := 1) (v := ?_) rfl (by kernel_rfl) (by kernel_rfl) (by kernel_rfl) (by kernel_rfl) (fun _ _ _ h => h) (fun _ => S9) (Or.inl ⟨by rfl, ?_⟩) ?_
    rotate_left
    · intro w hSw
      go_simp
      try with_reducible rfl
    try simp only [Act.put, List.setIfInBounds_toArray, List.set_cons_zero, List.set_cons_succ]
    refine wpU_free (i := 2) (v := ?_) rfl (by kernel_rfl) (by kernel_rfl) (by kernel_rfl) (by kernel_rfl) (fun _ _ _ h => h) (fun _ => S9) (Or.inl ⟨by rfl, ?_⟩) ?_
    rotate_left
    · intro w hSw
      go_simp
      try with_reducible rfl
    try simp only [Act.put, List.setIfInBounds_toArray, List.set_cons_zero, List.set_cons_succ]
    refine wpU_free (i := 4) (v := ?_) rfl (by kernel_rfl) (by kernel_rfl) (by kernel_rfl) (by kernel_rfl) (fun _ _ _ h => h) (fun _ => S9) (Or.inl ⟨by rfl, ?_⟩) ?_
    rotate_left
    · intro w hSw
      go_simp
      try with_reducible rfl
    try simp only [Act.put, List.setIfInBounds_toArray, List.set_cons_zero, List.set_cons_succ]
    refine wpU_free (i := 5) (v := ?_) rfl (by kernel_rfl) (by kernel_rfl) (by kernel_rfl) (by kernel_rfl) (fun _ _ _ h => h) (fun _ => S9) (Or.inl ⟨by rfl, ?_⟩) ?_
    rotate_left
    · intro w hSw
      go_simp
      try with_reducible rfl
    try simp only [Act.put, List.setIfInBounds_toArray, List.set_cons_zero, List.set_cons_succ]
    refine wpU_take (i := 3) (v := ?_) rfl (by kernel_rfl) (by kernel_rfl) (by kernel_rfl) (by kernel_rfl) (fun _ _ _ h => h) S9 (Or.inl ⟨by rfl, ?_⟩) ?_
    rotate_left
    · intro w hSw
      obtain ⟨s0, s1, s2, s3⟩ := hSw
      go_simp
      try with_reducible rfl
    try simp only [Act.put, List.setIfInBounds_toArray, List.set_cons_zero, List.set_cons_succ]
    refine wpU_take (i := 6) (v := ?_) rfl (by kernel_rfl) (by kernel_rfl) (by kernel_rfl) (by kernel_rfl) (fun _ _ _ h => h) S9 (Or.inl ⟨by rfl, ?_⟩) ?_
    rotate_left
    · intro w hSw
      obtain ⟨s0, s1, s2, s3⟩ := hSw
      go_simp
      try with_reducible rfl
    try simp only [Act.put, List.setIfInBounds_toArray, List.set_cons_zero, List.set_cons_succ]
    refine wpU_one (i := 7) (by kernel_rfl) rfl (fun K hK => ?_)
    go_simp
    refine (setBody_ok (Grown (Soft0 F w) V.drew w4) p nodes root _ 1 (1, ⟨nd.lev, nd.high, nd.right, [], [], []⟩) w4.drew HX4.out.drew hI1 (by rw [List.length_set]; exact hI2) (by rw [List.length_set]; exact hI3) (by rw [List.getElem?_set_self (List.getElem?_eq_some_iff.1 hS1).1]; rfl) (by simp) (by simp) (by simp) (Soft0 G w) kA vA dA kn kc vn vc dn dc nd.keys nd.vals nd.kids V2.out V3.out V4.out ⟨by simp, HS.out.2.1, HS.out.2.2.1, HS.out.2.2.2.1, HS.out.2.2.2.2.1, HS.out.2.2.2.2.2⟩).mono ?_; rintro e w5 ⟨rfl, hx5, hc5⟩
    refine hK.out _ _ (fun h => absurd h (by decide)) ?_
    clear hK K
    try simp only [Act.put, List.setIfInBounds_toArray, List.set_cons_zero, List.set_cons_succ]
    refine wpU_done (by kernel_rfl) ?_ _
    have nm5 : ¬ Grown (Soft0 F w) V.drew w4 mm := fun h => h.elim nm (fun h => by have h1 : V.heap.size ≤ mm := h.1; omega)
    have HX5 := Lib.hid hx5.grown
    have HC5 := Lib.hid hc5
    have W0 := hc5.cell nm5 U0
    have HM5 := Lib.hid (HM4.out.drew.chg hc5 nm5)
    have z5 : w4.heap.size ≤ w5.heap.size := hc5.size
    clear hx5 hc5 S9 U0 U3 U4 U5
    have UL := Lib.hid (unlock_true (Grown (Grown (Soft0 F w) V.drew w4) w4.drew w5) p nodes root _ 1 (1, ⟨nd.lev, nd.high, nd.right, nd.keys, nd.vals, nd.kids⟩) _ HX5.out hI1 (by rw [List.length_set, List.length_set]; exact hI2) (by rw [List.length_set, List.length_set]; exact hI3) (by rw [List.set_set, List.getElem?_set_self (List.getElem?_eq_some_iff.1 hS1).1]) (by simp) (by simp) (by simp))
    go_wp2_with (go_at_call 108; refine UL.out.mono ?_; rintro e w6 ⟨rfl, hx6, hc6⟩; have HX6 := Lib.hid hx6; have HC6 := Lib.hid hc6; clear hx6 hc6)
    go_ret
    have z6 := HC6.out.size
    refine ⟨rfl, ?_, HM5.out.chg HC6.out (fun h => h.elim nm5 (fun h => by have h1 : w4.heap.size ≤ mm := h.1; omega)), ?_⟩
    · have h := HX6.out
      rw [List.set_set, List.set_set] at h
      rw [← hfin]
      exact h.weak (fun b hb => hb.elim (fun h => h.elim (fun h => (fv b h).elim (fun h => .inl h.1) (fun h => .inr ⟨by omega, by omega⟩)) (fun h => by have h1 : V.heap.size ≤ b := h.1; exact .inr ⟨by omega, by omega⟩)) (fun h => by have h1 : w4.heap.size ≤ b := h.1; exact .inr ⟨by omega, by omega⟩))
    · refine (((HCV.out.mono (T := fun b => F b ∨ b = mm) (fun b hb h => h.elim (fun h => h.elim (fun h => .inl h.1) .inr) (fun h => absurd h (by omega)))).drew.trans HC4.out (fun b hb h => (fv b h).elim (fun h => .inl h.1) (fun h => by omega))).drew.trans HC5.out (fun b hb h => h.elim (fun h => (fv b h).elim (fun h => .inl h.1) (fun h => by omega)) (fun h => by have h1 : V.heap.size ≤ b := h.1; omega))).trans HC6.out (fun b hb h => h.elim (fun h => h.elim (fun h => (fv b h).elim (fun h => .inl h.1) (fun h => by omega)) (fun h => by have h1 : V.heap.size ≤ b := h.1; omega)) (fun h => by have h1 : w4.heap.size ≤ b := h.1; omega))
  · go_enter Try.func92, Try.ntmps92
    go_wp2_with (first | (go_at_call 104; go_loud (refine (LK.out).mono ?_); go_loud (rintro e w2 ⟨rfl, hx2, hc2⟩; have HX2 := Lib.hid hx2; have HC2 := Lib.hid hc2; have HM2 := Lib.hid (HM.out.chg hc2 (fun h => hmF h.1)); have HB2 := Lib.hid (HB.out.chg hc2 (fun h => by have := h.2; omega)); have n0 : w2.cell? ⟨mm, 0, none⟩ = some (.pointer (some ⟨p, 0, none⟩)) := (HM2.out.cell _).trans rfl; have n1 : w2.cell? ⟨mm, 1, none⟩ = some (.bool true) := (HM2.out.cell _).trans rfl; have nf : ∀ o, w2.frozen? ⟨mm, o, none⟩ = false := HM2.out.frozen; have n2 : w2.cell? ⟨w.heap.size, 2, none⟩ = some (.int .i64 nd.right) := (HB2.out.cell _).trans rfl; have nf2 : ∀ o, w2.frozen? ⟨w.heap.size, o, none⟩ = false := HB2.out.frozen; have hne : mm ≠ w.heap.size := Nat.ne_of_lt hml; clear hx2 hc2)))
    have HMV : Hid (Blk ((w2.setCell ⟨mm, 1, none⟩ (.bool false)).setCell ⟨w.heap.size, 2, none⟩ (.int .i64 2)) mm 132 #[.pointer (some ⟨p, 0, none⟩), .bool false]) := Lib.hid (Blk.far (HM2.out.set_ 1 (.bool false)) (p := ⟨w.heap.size, 2, none⟩) hne _)
    have HBV : Hid (Blk ((w2.setCell ⟨mm, 1, none⟩ (.bool false)).setCell ⟨w.heap.size, 2, none⟩ (.int .i64 2)) w.heap.size 93 #[.int .i64 nd.lev, .slice hA hn hc, .int .i64 2, .slice kA kn kc, .slice vA vn vc, .slice dA dn dc]) := Lib.hid ((HB2.out.far (p := ⟨mm, 1, none⟩) (by show w.heap.size ≠ mm; omega) (.bool false)).set_ 2 (.int .i64 2))
    have HXV : Hid (ArX ((w2.setCell ⟨mm, 1, none⟩ (.bool false)).setCell ⟨w.heap.size, 2, none⟩ (.int .i64 2)) (Soft0 F w) p nodes [(1, Nd.zero)] root) := Lib.hid ((HX2.out.chg (Chg.set1 w2 mm 1 _) (fun b hb e => hmF (by have e : b = mm := e; exact e ▸ hb.1))).chg (Chg.set1 _ w.heap.size 2 _) (fun b hb e => by have e : b = w.heap.size := e; have := hb.2; omega))
    have HCV : Hid (Chg (fun b => (Soft0 F w b ∨ b = mm) ∨ w.heap.size ≤ b) w ((w2.setCell ⟨mm, 1, none⟩ (.bool false)).setCell ⟨w.heap.size, 2, none⟩ (.int .i64 2))) := Lib.hid ((((Chg.of_below b1).trans HC2.out (fun b _ h => .inl (.inl h))).setCell (p := ⟨mm, 1, none⟩) (fun _ => .inl (.inr rfl)) _).setCell (p := ⟨w.heap.size, 2, none⟩) (fun _ => .inr (Nat.le_refl _)) _)
    have hI1 : (1 : Int) ≤ 1 := by omega
    have hI2 : (1 : Int) ≤ (([(1, Nd.zero)] : List Slt).length : Int) := by simp
    have hI3 : ([(1, Nd.zero)] : List Slt).length ≤ 65536 := by simp
    have hS1 : ([(1, Nd.zero)] : List Slt)[(1 : Int).toNat - 1]? = some (1, Nd.zero) := rfl
    have hfin : ([(1, Nd.zero)] : List Slt).set ((1 : Int).toNat - 1) (2, ⟨nd.lev, nd.high, 2, nd.keys, nd.vals, nd.kids⟩) = [(2, ⟨nd.lev, nd.high, rt, nd.keys, nd.vals, nd.kids⟩)] := by rw [hrt]; rfl
    clear b1 HX HM HB HX2 HC2 HM2 HB2 n0 n1 nf n2 nf2 m0 m1 mf LK
    have fv : ∀ b, Soft0 F w b → Soft0 F w b ∨ (w.heap.size < b ∧ b < ((w2.setCell ⟨mm, 1, none⟩ (.bool false)).setCell ⟨w.heap.size, 2, none⟩ (.int .i64 2)).heap.size) := fun b h => .inl h
    -- the slot is held: the head, the body, the latch
    have b0 : ((w2.setCell ⟨mm, 1, none⟩ (.bool false)).setCell ⟨w.heap.size, 2, none⟩ (.int .i64 2)).cell? ⟨mm, 0, none⟩ = some (.pointer (some ⟨p, 0, none⟩)) := by rw [HMV.out.cell]; rfl
    have x0 : ((w2.setCell ⟨mm, 1, none⟩ (.bool false)).setCell ⟨w.heap.size, 2, none⟩ (.int .i64 2)).cell? ⟨w.heap.size, 0, none⟩ = some (.int .i64 nd.lev) := by rw [HBV.out.cell]; rfl
    have x1 : ((w2.setCell ⟨mm, 1, none⟩ (.bool false)).setCell ⟨w.heap.size, 2, none⟩ (.int .i64 2)).cell? ⟨w.heap.size, 1, none⟩ = some (.slice hA hn hc) := by rw [HBV.out.cell]; rfl
    have x2 : ((w2.setCell ⟨mm, 1, none⟩ (.bool false)).setCell ⟨w.heap.size, 2, none⟩ (.int .i64 2)).cell? ⟨w.heap.size, 2, none⟩ = some (.int .i64 2) := by rw [HBV.out.cell]; rfl
    have x3 : ((w2.setCell ⟨mm, 1, none⟩ (.bool false)).setCell ⟨w.heap.size, 2, none⟩ (.int .i64 2)).cell? ⟨w.heap.size, 3, none⟩ = some (.slice kA kn kc) := by rw [HBV.out.cell]; rfl
    have x4 : ((w2.setCell ⟨mm, 1, none⟩ (.bool false)).setCell ⟨w.heap.size, 2, none⟩ (.int .i64 2)).cell? ⟨w.heap.size, 4, none⟩ = some (.slice vA vn vc) := by rw [HBV.out.cell]; rfl
    have x5 : ((w2.setCell ⟨mm, 1, none⟩ (.bool false)).setCell ⟨w.heap.size, 2, none⟩ (.int .i64 2)).cell? ⟨w.heap.size, 5, none⟩ = some (.slice dA dn dc) := by rw [HBV.out.cell]; rfl
    obtain ⟨V, hV⟩ : ∃ V, V = (w2.setCell ⟨mm, 1, none⟩ (.bool false)).setCell ⟨w.heap.size, 2, none⟩ (.int .i64 2) := ⟨_, rfl⟩
    rw [← hV] at fv b0 x0 x1 x2 x3 x4 x5 HMV HBV HXV HCV ⊢
    clear hV
    have zV := HCV.out.size
    have gV : ∀ b, Soft0 G w b → ¬ ((Soft0 F w b ∨ b = mm) ∨ w.heap.size ≤ b) := fun b hb h => h.elim (fun h => h.elim (fun h => (hG b hb.1).1 h.1) (hG b hb.1).2) (fun h => by have := hb.2; omega)
    have T1 := Lib.hid ((H1.out.chg HCV.out gV).below (Below.refl _ _).drew)
    have T2 := Lib.hid ((H2.out.chg HCV.out gV).below (Below.refl _ _).drew)
    have T3 := Lib.hid ((H3.out.chg HCV.out gV).below (Below.refl _ _).drew)
    have T4 := Lib.hid ((H4.out.chg HCV.out gV).below (Below.refl _ _).drew)
    have gF : ∀ b, Soft0 G w b → ¬ (Soft0 F w) b := fun b hb h => (fv b h).elim (fun h => (hG b hb.1).1 h.1) (fun h => by have := hb.2; omega)
    have nm : ¬ (Soft0 F w) mm := fun h => (fv _ h).elim (fun h => hmF h.1) (fun h => by omega)
    have nb : ¬ (Soft0 F w) w.heap.size := fun h => (fv _ h).elim (fun h => by have := h.2; omega) (fun h => by omega)
    refine wp_region_U (fun w' => w'.cell? ⟨mm, 0, none⟩ = some (.pointer (some ⟨p, 0, none⟩)) ∧ w'.cell? ⟨w.heap.size, 0, none⟩ = some (.int .i64 nd.lev) ∧ w'.cell? ⟨w.heap.size, 1, none⟩ = some (.slice hA hn hc) ∧ w'.cell? ⟨w.heap.size, 2, none⟩ = some (.int .i64 2)) 7 (by kernel_rfl) ?_
    have S0 : V.drew.cell? ⟨mm, 0, none⟩ = some (.pointer (some ⟨p, 0, none⟩)) ∧ V.drew.cell? ⟨w.heap.size, 0, none⟩ = some (.int .i64 nd.lev) ∧ V.drew.cell? ⟨w.heap.size, 1, none⟩ = some (.slice hA hn hc) ∧ V.drew.cell? ⟨w.heap.size, 2, none⟩ = some (.int .i64 2) := ⟨b0, x0, x1, x2⟩
    refine wpU_free (i := 0) (v := ?_) rfl (by kernel_rfl) (by kernel_rfl) (by kernel_rfl) (by kernel_rfl) (fun _ _ _ h => h) (fun _ => S0) (Or.inl ⟨by rfl, ?_⟩) ?_
    rotate_left
    · intro w hSw
      go_simp
      try with_reducible rfl
    try simp only [Act.put, List.setIfInBounds_toArray, List.set_cons_zero, List.set_cons_succ]
    refine wpU_free (i := 1) (v := ?_) rfl (by kernel_rfl) (by kernel_rfl) (by kernel_rfl) (by kernel_rfl) (fun _ _ _ h => h) (fun _ => S0) (Or.inl ⟨by rfl, ?_⟩) ?_
    rotate_left
    · intro w hSw
      go_simp
      try with_reducible rfl
    try simp only [Act.put, List.setIfInBounds_toArray, List.set_cons_zero, List.set_cons_succ]
    refine wpU_free (i := 2) (v := ?_) rfl (by kernel_rfl) (by kernel_rfl) (by kernel_rfl) (by kernel_rfl) (fun _ _ _ h => h) (fun _ => S0) (Or.inl ⟨by rfl, ?_⟩) ?_
    rotate_left
    · intro w hSw
      go_simp
      try with_reducible rfl
    try simp only [Act.put, List.setIfInBounds_toArray, List.set_cons_zero, List.set_cons_succ]
    refine wpU_free (i := 4) (v := ?_) rfl (by kernel_rfl) (by kernel_rfl) (by kernel_rfl) (by kernel_rfl) (fun _ _ _ h => h) (fun _ => S0) (Or.inl ⟨by rfl, ?_⟩) ?_
    rotate_left
    · intro w hSw
      go_simp
      try with_reducible rfl
    try simp only [Act.put, List.setIfInBounds_toArray, List.set_cons_zero, List.set_cons_succ]
    refine wpU_free (i := 5) (v := ?_) rfl (by kernel_rfl) (by kernel_rfl) (by kernel_rfl) (by kernel_rfl) (fun _ _ _ h => h) (fun _ => S0) (Or.inl ⟨by rfl, ?_⟩) ?_
    rotate_left
    · intro w hSw
      go_simp
      try with_reducible rfl
    try simp only [Act.put, List.setIfInBounds_toArray, List.set_cons_zero, List.set_cons_succ]
    refine wpU_take (i := 3) (v := ?_) rfl (by kernel_rfl) (by kernel_rfl) (by kernel_rfl) (by kernel_rfl) (fun _ _ _ h => h) S0 (Or.inl ⟨by rfl, ?_⟩) ?_
    rotate_left
    · intro w hSw
      obtain ⟨s0, s1, s2, s3⟩ := hSw
      go_simp
      try with_reducible rfl
    try simp only [Act.put, List.setIfInBounds_toArray, List.set_cons_zero, List.set_cons_succ]
    refine wpU_take (i := 6) (v := ?_) rfl (by kernel_rfl) (by kernel_rfl) (by kernel_rfl) (by kernel_rfl) (fun _ _ _ h => h) S0 (Or.inl ⟨by rfl, ?_⟩) ?_
    rotate_left
    · intro w hSw
      obtain ⟨s0, s1, s2, s3⟩ := hSw
      go_simp
      try with_reducible rfl
    try simp only [Act.put, List.setIfInBounds_toArray, List.set_cons_zero, List.set_cons_succ]
    refine wpU_one (i := 7) (by kernel_rfl) rfl (fun K hK => ?_)
    go_simp
    refine (setHead_ok (Soft0 F w) p nodes root [(1, Nd.zero)] 1 (1, Nd.zero) V.drew HXV.out.drew hI1 hI2 hI3 hS1 (by simp) (by simp) (by simp) (Soft0 G w) hA hn hc nd.lev 2 nd.high T1.out HS.out.1).mono ?_; rintro e w4 ⟨rfl, hx4, hc4⟩
    refine hK.out _ _ (fun h => absurd h (by decide)) ?_
    clear hK K
    try simp only [Act.put, List.setIfInBounds_toArray, List.set_cons_zero, List.set_cons_succ]
    refine wpU_done (by kernel_rfl) ?_ _
    have HX4 := Lib.hid hx4.grown
    have HC4 := Lib.hid hc4
    have U0 := hc4.cell nm b0
    have U3 := hc4.cell nb x3
    have U4 := hc4.cell nb x4
    have U5 := hc4.cell nb x5
    have V2 := Lib.hid ((T2.out.chg hc4 gF).below (Below.refl _ _).drew)
    have V3 := Lib.hid ((T3.out.chg hc4 gF).below (Below.refl _ _).drew)
    have V4 := Lib.hid ((T4.out.chg hc4 gF).below (Below.refl _ _).drew)
    have z4 : V.heap.size ≤ w4.heap.size := hc4.size
    have HM4 := Lib.hid (HMV.out.drew.chg hc4 nm)
    clear hx4 hc4 S0 b0 x0 x1 x2 x3 x4 x5
    go_wp2_with fail
    refine wp_region_U (fun w' => w'.cell? ⟨mm, 0, none⟩ = some (.pointer (some ⟨p, 0, none⟩)) ∧ w'.cell? ⟨w.heap.size, 3, none⟩ = some (.slice kA kn kc) ∧ w'.cell? ⟨w.heap.size, 4, none⟩ = some (.slice vA vn vc) ∧ w'.cell? ⟨w.heap.size, 5, none⟩ = some (.slice dA dn dc)) 7 (by kernel_rfl) ?_
    have S9 : w4.drew.cell? ⟨mm, 0, none⟩ = some (.pointer (some ⟨p, 0, none⟩)) ∧ w4.drew.cell? ⟨w.heap.size, 3, none⟩ = some (.slice kA kn kc) ∧ w4.drew.cell? ⟨w.heap.size, 4, none⟩ = some (.slice vA vn vc) ∧ w4.drew.cell? ⟨w.heap.size, 5, none⟩ = some (.slice dA dn dc) := ⟨U0, U3, U4, U5⟩
    refine wpU_free (i := 0) (v := ?_) rfl (by kernel_rfl) (by kernel_rfl) (by kernel_rfl) (by kernel_rfl) (fun _ _ _ h => h) (fun _ => S9) (Or.inl ⟨by rfl, ?_⟩) ?_
    rotate_left
    · intro w hSw
      go_simp
      try with_reducible rfl
    try simp only [Act.put, List.setIfInBounds_toArray, List.set_cons_zero, List.set_cons_succ]
    refine wpU_free (i := 1) (v := ?_) rfl (by kernel_rfl) (by kernel_rfl) (by kernel_rfl) (by kernel_rfl) (fun _ _ _ h => h) (fun _ => S9) (Or.inl ⟨by rfl, ?_⟩) ?_
    rotate_left
    · intro w hSw
      go_simp
      try with_reducible rfl
    try simp only [Act.put, List.setIfInBounds_toArray, List.set_cons_zero, List.set_cons_succ]
    refine wpU_free (i := 2) (v := ?_) rfl (by kernel_rfl) (by kernel_rfl) (by kernel_rfl) (by kernel_rfl) (fun _ _ _ h => h) (fun _ => S9) (Or.inl ⟨by rfl, ?_⟩) ?_
    rotate_left
    · intro w hSw
      go_simp
      try with_reducible rfl
    try simp only [Act.put, List.setIfInBounds_toArray, List.set_cons_zero, List.set_cons_succ]
    refine wpU_free (i := 4) (v := ?_) rfl (by kernel_rfl) (by kernel_rfl) (by kernel_rfl) (by kernel_rfl) (fun _ _ _ h => h) (fun _ => S9) (Or.inl ⟨by rfl, ?_⟩) ?_
    rotate_left
    · intro w hSw
      go_simp
      try with_reducible rfl
    try simp only [Act.put, List.setIfInBounds_toArray, List.set_cons_zero, List.set_cons_succ]
    refine wpU_free (i := 5) (v := ?_) rfl (by kernel_rfl) (by kernel_rfl) (by kernel_rfl) (by kernel_rfl) (fun _ _ _ h => h) (fun _ => S9) (Or.inl ⟨by rfl, ?_⟩) ?_
    rotate_left
    · intro w hSw
      go_simp
      try with_reducible rfl
    try simp only [Act.put, List.setIfInBounds_toArray, List.set_cons_zero, List.set_cons_succ]
    refine wpU_take (i := 3) (v := ?_) rfl (by kernel_rfl) (by kernel_rfl) (by kernel_rfl) (by kernel_rfl) (fun _ _ _ h => h) S9 (Or.inl ⟨by rfl, ?_⟩) ?_
    rotate_left
    · intro w hSw
      obtain ⟨s0, s1, s2, s3⟩ := hSw
      go_simp
      try with_reducible rfl
    try simp only [Act.put, List.setIfInBounds_toArray, List.set_cons_zero, List.set_cons_succ]
    refine wpU_take (i := 6) (v := ?_) rfl (by kernel_rfl) (by kernel_rfl) (by kernel_rfl) (by kernel_rfl) (fun _ _ _ h => h) S9 (Or.inl ⟨by rfl, ?_⟩) ?_
    rotate_left
    · intro w hSw
      obtain ⟨s0, s1, s2, s3⟩ := hSw
      go_simp
      try with_reducible rfl
    try simp only [Act.put, List.setIfInBounds_toArray, List.set_cons_zero, List.set_cons_succ]
    refine wpU_one (i := 7) (by kernel_rfl) rfl (fun K hK => ?_)
    go_simp
    refine (setBody_ok (Grown (Soft0 F w) V.drew w4) p nodes root _ 1 (1, ⟨nd.lev, nd.high, 2, [], [], []⟩) w4.drew HX4.out.drew hI1 (by rw [List.length_set]; exact hI2) (by rw [List.length_set]; exact hI3) (by rw [List.getElem?_set_self (List.getElem?_eq_some_iff.1 hS1).1]; rfl) (by simp) (by simp) (by simp) (Soft0 G w) kA vA dA kn kc vn vc dn dc nd.keys nd.vals nd.kids V2.out V3.out V4.out ⟨by simp, HS.out.2.1, HS.out.2.2.1, HS.out.2.2.2.1, HS.out.2.2.2.2.1, HS.out.2.2.2.2.2⟩).mono ?_; rintro e w5 ⟨rfl, hx5, hc5⟩
    refine hK.out _ _ (fun h => absurd h (by decide)) ?_
    clear hK K
    try simp only [Act.put, List.setIfInBounds_toArray, List.set_cons_zero, List.set_cons_succ]
    refine wpU_done (by kernel_rfl) ?_ _
    have nm5 : ¬ Grown (Soft0 F w) V.drew w4 mm := fun h => h.elim nm (fun h => by have h1 : V.heap.size ≤ mm := h.1; omega)
    have HX5 := Lib.hid hx5.grown
    have HC5 := Lib.hid hc5
    have W0 := hc5.cell nm5 U0
    have HM5 := Lib.hid (HM4.out.drew.chg hc5 nm5)
    have z5 : w4.heap.size ≤ w5.heap.size := hc5.size
    clear hx5 hc5 S9 U0 U3 U4 U5
    have UL := Lib.hid (unlock_true (Grown (Grown (Soft0 F w) V.drew w4) w4.drew w5) p nodes root _ 1 (1, ⟨nd.lev, nd.high, 2, nd.keys, nd.vals, nd.kids⟩) _ HX5.out hI1 (by rw [List.length_set, List.length_set]; exact hI2) (by rw [List.length_set, List.length_set]; exact hI3) (by rw [List.set_set, List.getElem?_set_self (List.getElem?_eq_some_iff.1 hS1).1]) (by simp) (by simp) (by simp))
    go_wp2_with (go_at_call 108; refine UL.out.mono ?_; rintro e w6 ⟨rfl, hx6, hc6⟩; have HX6 := Lib.hid hx6; have HC6 := Lib.hid hc6; clear hx6 hc6)
    go_ret
    have z6 := HC6.out.size
    refine ⟨rfl, ?_, HM5.out.chg HC6.out (fun h => h.elim nm5 (fun h => by have h1 : w4.heap.size ≤ mm := h.1; omega)), ?_⟩
    · have h := HX6.out
      rw [List.set_set, List.set_set] at h
      rw [← hfin]
      exact h.weak (fun b hb => hb.elim (fun h => h.elim (fun h => (fv b h).elim (fun h => .inl h.1) (fun h => .inr ⟨by omega, by omega⟩)) (fun h => by have h1 : V.heap.size ≤ b := h.1; exact .inr ⟨by omega, by omega⟩)) (fun h => by have h1 : w4.heap.size ≤ b := h.1; exact .inr ⟨by omega, by omega⟩))
    · refine (((HCV.out.mono (T := fun b => F b ∨ b = mm) (fun b hb h => h.elim (fun h => h.elim (fun h => .inl h.1) .inr) (fun h => absurd h (by omega)))).drew.trans HC4.out (fun b hb h => (fv b h).elim (fun h => .inl h.1) (fun h => by omega))).drew.trans HC5.out (fun b hb h => h.elim (fun h => (fv b h).elim (fun h => .inl h.1) (fun h => by omega)) (fun h => by have h1 : V.heap.size ≤ b := h.1; omega))).trans HC6.out (fun b hb h => h.elim (fun h => h.elim (fun h => (fv b h).elim (fun h => .inl h.1) (fun h => by omega)) (fun h => by have h1 : V.heap.size ≤ b := h.1; omega)) (fun h => by have h1 : w4.heap.size ≤ b := h.1; omega))

end Go.Proofs.Ytgjphmlmndcaeaa
