/- Entries that are gathered in a row; a node that is not there (shape.read). WALKS: a tree's entries (shape.Map): where all is right. WALKS: both builds, where all is well. WALKS: the document's build, where all is well. -/
import Derived.Test.YtgjphmlmndcaeaaPs19
import Derived.Test.YtgjphmlmndcaeaaPs07
import Derived.WalkMore
import Derived.Test.YtgjphmlmndcaeaaPs15
set_option linter.unusedVariables false
set_option linter.unusedSimpArgs false
namespace Go.Proofs.Ytgjphmlmndcaeaa
open Go.RowKit
theorem SB.next2 {S D D' : Nat → Prop} {w w' : World} {v : Value} {bs : List UInt8} (h : SB w D v bs) (hc : Chg S w w') (hs : ∀ b, b < w.heap.size → D b → ¬ S b) (hD : ∀ b, b < w.heap.size → D b → D' b) : SB w' D' v bs :=
  (h.lt.chg hc (fun b hb => hs b hb.2 hb.1)).weak (fun b hb => hD b hb.2 hb.1)
/-- entries one behind the other: l are there -/
structure Er (w : World) (base : Nat) (out : Value) (us : List Value) (l : List Ent) : Prop where
  own : w.ownsRow base 43 2 out l.length us
  at_ : ∀ (i : Nat) (e : Ent), l[i]? = some e → ∃ u v, us[2 * i]? = some u ∧ us[2 * i + 1]? = some v ∧ SB w (fun b => base ≤ b ∧ out.ownBlock ≠ some b) u e.1 ∧ SB w (fun b => base ≤ b ∧ out.ownBlock ≠ some b) v e.2
section
variable {S : Nat → Prop} {w w' : World} {base : Nat} {out : Value} {us : List Value} {l : List Ent}
theorem Er.nil (w : World) (base : Nat) : Er w base (.slice none 0 0) [] [] := ⟨World.ownsRow_nil _ _ _ _, fun i e h => by simp at h⟩
theorem Er.chg (h : Er w base out us l) (hc : Chg S w w') (hs : ∀ b, base ≤ b → ¬ S b) : Er w' base out us l :=
  ⟨own_chg h.own hc (fun b hb => hs b (own_lt h.own b hb).1), fun i e he => let ⟨u, v, a, b, c, d⟩ := h.at_ i e he; ⟨u, v, a, b, c.chg hc (fun x hx => hs x hx.1), d.chg hc (fun x hx => hs x hx.1)⟩⟩
theorem Er.below (h : Er w base out us l) (hb : Below w.heap.size w w') : Er w' base out us l :=
  ⟨own_below h.own hb, fun i e he => let ⟨u, v, a, b, c, d⟩ := h.at_ i e he; ⟨u, v, a, b, c.below hb, d.below hb⟩⟩
theorem Er.push {v2 u v : Value} {e : Ent} (h : Er w base out us l) (ho : w'.ownsRow base 43 2 v2 (l.length + 1) (us ++ [u, v])) (hg : w.grownBy w' out.ownBlock) (hat : v2.ownBlock = out.ownBlock ∨ v2.ownBlock = some w.heap.size)
    (hu : SB w (fun b => base ≤ b ∧ out.ownBlock ≠ some b) u e.1) (hv : SB w (fun b => base ≤ b ∧ out.ownBlock ≠ some b) v e.2) : Er w' base v2 (us ++ [u, v]) (l ++ [e]) := by
  have hl : us.length = l.length * 2 := h.own.1
  have key : ∀ b, b < w.heap.size → (base ≤ b ∧ out.ownBlock ≠ some b) → (base ≤ b ∧ v2.ownBlock ≠ some b) := fun b hb hx => ⟨hx.1, fun e => by
    rcases hat with h | h
    · exact hx.2 (h ▸ e)
    · rw [h] at e; injection e with e; omega⟩
  have nx : ∀ {x : Value} {bs : List UInt8}, SB w (fun b => base ≤ b ∧ out.ownBlock ≠ some b) x bs → SB w' (fun b => base ≤ b ∧ v2.ownBlock ≠ some b) x bs := fun hx => hx.next2 (Chg.of_grown hg) (fun b _ hb e => hb.2 e) key
  refine ⟨by rw [List.length_append]; exact ho, fun i e' hi => ?_⟩
  rcases Nat.lt_or_ge i l.length with h1 | h1
  · rw [List.getElem?_append_left h1] at hi
    obtain ⟨x, y, a, b, s1, s2⟩ := h.at_ i e' hi
    exact ⟨x, y, by rw [List.getElem?_append_left (by omega)]; exact a, by rw [List.getElem?_append_left (by omega)]; exact b, nx s1, nx s2⟩
  · rw [List.getElem?_append_right h1] at hi
    have hi0 : i = l.length := by have := (List.getElem?_eq_some_iff.1 hi).1; simp at this; omega
    subst hi0
    simp at hi
    subst hi
    refine ⟨u, v, ?_, ?_, nx hu, nx hv⟩
    · rw [List.getElem?_append_right (by omega), show 2 * l.length - us.length = 0 by omega]; rfl
    · rw [List.getElem?_append_right (by omega), show 2 * l.length + 1 - us.length = 1 by omega]; rfl
theorem Er.ents {A : Option Addr} {n c : Nat} (h : Er w base (.slice A n c) us l) (hn : n = l.length) : Ents w (From base) A n l := by
  subst hn
  exact ⟨Lib.hid rfl, us, Rd.of_own h.own, fun i e he => let ⟨u, v, a, b, s1, s2⟩ := h.at_ i e he; ⟨u, v, a, b, s1.weak (fun _ hb => hb.1), s2.weak (fun _ hb => hb.1)⟩⟩
end
set_option maxRecDepth 100000 in
set_option maxHeartbeats 2000000 in
theorem read_out (F : Nat → Prop) (p : Nat) (nodes root : Int) (sl : List Slt) (id : Int) (w : World) (h : ArX w F p nodes sl root) (h1 : id < 1 ∨ (sl.length : Int) < id) :
    Calls Try.prog 49 #[.pointer (some ⟨p, 0, none⟩), .int .i64 id] w fun e w' => (∃ A1 n1 c1 A2 n2 c2 A3 n3 c3 A4 n4 c4, e = .returned (.tuple #[.agg #[.int .i64 0, .slice A1 n1 c1, .int .i64 0, .slice A2 n2 c2, .slice A3 n3 c3, .slice A4 n4 c4], .bool false])) ∧ Below w.heap.size w w' := by
  have HX := Lib.hid h
  have b0 : Below w.heap.size w (w.alloc (.cells #[.int .i64 0, .slice none 0 0, .int .i64 0, .slice none 0 0, .slice none 0 0, .slice none 0 0] 93)) := (Below.refl _ _).alloc (Nat.le_refl _) _
  have B0 := Lib.hid b0
  clear h b0
  go_enter Try.func49, Try.ntmps49
  go_wp2_with (first | (go_at_call 79; go_loud (refine (head_out F p nodes root sl id _ (HX.out.below B0.out) h1).mono ?_); rintro e w1 ⟨A1, n1, c1, rfl, r1, hb1⟩; have HB1 := Lib.hid (B0.out.trans (hb1.mono (by simp))); have K1 := Lib.hid ((Blk.new w 93 #[.int .i64 0, .slice none 0 0, .int .i64 0, .slice none 0 0, .slice none 0 0, .slice none 0 0]).below hb1); have L1 : Hid (Below w.heap.size w (w1.alloc (.cells #[.int .i64 0, .slice A1 n1 c1, .int .i64 0] 88))) := Lib.hid (HB1.out.alloc HB1.out.size _); clear hb1 r1) | (go_at_call 80; go_loud (refine (body_out F p nodes root sl id _ (HX.out.below L1.out) h1).mono ?_); rintro e w2 ⟨A2, n2, c2, A3, n3, c3, A4, n4, c4, rfl, _, r2, r3, r4, hb2⟩; have HB2 := Lib.hid hb2; have hb3 : Below w2.heap.size w2 (w2.alloc (.cells #[.slice A2 n2 c2, .slice A3 n3 c3, .slice A4 n4 c4] 91)) := (Below.refl _ _).alloc (Nat.le_refl _) _; have HB3 := Lib.hid hb3; have K2 := Lib.hid (((K1.out.alloc (.cells #[.int .i64 0, .slice A1 n1 c1, .int .i64 0] 88)).below hb2).below hb3); obtain ⟨z0, z1, z2, z3, z4, z5⟩ := cells6 K2.out; have zf := K2.out.frozen; have y0 := bkeep hb3 (bkeep (b := w1.heap.size) (o := 0) (v := .int .i64 0) hb2 (by simp)); have y1 := bkeep hb3 (bkeep (b := w1.heap.size) (o := 1) (v := .slice A1 n1 c1) hb2 (by simp)); have y2 := bkeep hb3 (bkeep (b := w1.heap.size) (o := 2) (v := .int .i64 0) hb2 (by simp)); have hl1 := K1.out.lt; have hl2 := K2.out.lt; clear hb2 hb3 r2 r3 r4))
  refine bodyPost_ret (v := .tuple #[.agg #[.int .i64 0, .slice A1 n1 c1, .int .i64 0, .slice A2 n2 c2, .slice A3 n3 c3, .slice A4 n4 c4], .bool false]) (by simp [results, Try.results49, go_sem, *]) rfl ?_
  obtain ⟨w3, hw3⟩ : ∃ x, x = w2.alloc (.cells #[.slice A2 n2 c2, .slice A3 n3 c3, .slice A4 n4 c4] 91) := ⟨_, rfl⟩
  rw [← hw3]
  have hb3 : Below w2.heap.size w2 w3 := by rw [hw3]; exact HB3.out
  have hch := chg6 (b := w.heap.size) (w := w3) (.int .i64 0) (.slice A1 n1 c1) (.int .i64 0) (.slice A2 n2 c2) (.slice A3 n3 c3) (.slice A4 n4 c4)
  have s2 : w1.heap.size + 1 ≤ w2.heap.size := by have := HB2.out.size; simpa using this
  have s1 : w.heap.size + 1 ≤ w1.heap.size := hl1
  have hB : Below w.heap.size w w3 := (L1.out.trans (HB2.out.mono (by simp; omega))).trans (hb3.mono (by omega))
  exact ⟨⟨_, _, _, _, _, _, _, _, _, _, _, _, rfl⟩, hB.trans (hch.below_of hB.size (fun b hb e => by simp only [One] at e; omega))⟩
noncomputable def mapInC : Code := codeOr (Try.f25.body.bind (blockIn 3))
set_option maxRecDepth 100000 in
set_option maxHeartbeats 4000000 in
theorem map_in (base q : Nat) (l0 : List Ent) (x : Nd) (out : Value) (us : List Value) (hA kA vA dA : Option Addr) (hn hc n kc vc dn dc : Nat) (w : World) {u0 u1 u2 u4 u5 u6 u8 u9 u10 u11 u12 u13 u14 u15 u16 u17 u18 u19 u20 u21 u22 u23 u24 u25 u26 u27 u28 u29 u30 u31 u32 u33 u34 u35 u36 u37 u38 u39 u40 u41 u42 u43 u44 u45 u46 u47 u48 u49 u50 u51 u52 u53 u54 u55 u56 u57 u58 u59 u60 u61 u62 u63 u64 u65 u69 u70 u71 u72 u73 u74 u75 u76 u77 u78 u79 u80 u81 u82 u83 u84 u85 u86 u87 u88 u89 u90 u91 u92 u93 : Value} (Q : Exit → Act → World → Prop)
    (HK : Hid (Blk w q 93 #[.int .i64 x.lev, .slice hA hn hc, .int .i64 x.right, .slice kA n kc, .slice vA n vc, .slice dA dn dc])) (HV : Hid (NdV w (fun b => base ≤ b ∧ b < w.heap.size ∧ out.ownBlock ≠ some b) x hA kA vA dA hn hc n kc n vc dn dc)) (HE : Hid (Er w base out us l0)) (hq : base ≤ q) (hqo : out.ownBlock ≠ some q) (hbase : base ≤ w.heap.size) (hl0 : l0.length ≤ 1000000000) (hnn : n ≤ 100000)
    (hexit : ∀ (out2 : Value) (v9 v10 v11 v68 v69 v70 v71 v72 v73 v74 v75 v76 v77 v78 v79 v80 v81 v82 v83 v84 v85 v86 v87 v88 v89 v90 v91 v92 : Value) (us' : List Value) (w' : World), Er w' base out2 us' (l0 ++ x.keys.zip x.vals) → Below base w w' → Q (.exit 3) ⟨(u0 :: u1 :: u2 :: out2 :: u4 :: u5 :: u6 :: .pointer (some ⟨q, 0, none⟩) :: u8 :: v9 :: v10 :: v11 :: u12 :: u13 :: u14 :: u15 :: u16 :: u17 :: u18 :: u19 :: u20 :: u21 :: u22 :: u23 :: u24 :: u25 :: u26 :: u27 :: u28 :: u29 :: u30 :: u31 :: u32 :: u33 :: u34 :: u35 :: u36 :: u37 :: u38 :: u39 :: u40 :: u41 :: u42 :: u43 :: u44 :: u45 :: u46 :: u47 :: u48 :: u49 :: u50 :: u51 :: u52 :: u53 :: u54 :: u55 :: u56 :: u57 :: u58 :: u59 :: u60 :: u61 :: u62 :: u63 :: u64 :: u65 :: .slice kA n kc :: .int .i64 n :: v68 :: v69 :: v70 :: v71 :: v72 :: v73 :: v74 :: v75 :: v76 :: v77 :: v78 :: v79 :: v80 :: v81 :: v82 :: v83 :: v84 :: v85 :: v86 :: v87 :: v88 :: v89 :: v90 :: v91 :: v92 :: u93 :: []).toArray, []⟩ w') :
    Code.wp Try.prog mapInC Q ⟨(u0 :: u1 :: u2 :: out :: u4 :: u5 :: u6 :: .pointer (some ⟨q, 0, none⟩) :: u8 :: u9 :: u10 :: u11 :: u12 :: u13 :: u14 :: u15 :: u16 :: u17 :: u18 :: u19 :: u20 :: u21 :: u22 :: u23 :: u24 :: u25 :: u26 :: u27 :: u28 :: u29 :: u30 :: u31 :: u32 :: u33 :: u34 :: u35 :: u36 :: u37 :: u38 :: u39 :: u40 :: u41 :: u42 :: u43 :: u44 :: u45 :: u46 :: u47 :: u48 :: u49 :: u50 :: u51 :: u52 :: u53 :: u54 :: u55 :: u56 :: u57 :: u58 :: u59 :: u60 :: u61 :: u62 :: u63 :: u64 :: u65 :: .slice kA n kc :: .int .i64 n :: .int .i64 0 :: u69 :: u70 :: u71 :: u72 :: u73 :: u74 :: u75 :: u76 :: u77 :: u78 :: u79 :: u80 :: u81 :: u82 :: u83 :: u84 :: u85 :: u86 :: u87 :: u88 :: u89 :: u90 :: u91 :: u92 :: u93 :: []).toArray, []⟩ w := by
  have HEX := Lib.hid hexit
  obtain ⟨i0, hi0, iz0, iz1, iz2⟩ := info_parts entry_info
  clear hexit
  conv => arg 2; whnf
  go_loopg [3, 68] n (fun g' ov iv wr => ∃ (i : Nat) (us' : List Value), g' = n - i ∧ i ≤ n ∧ iv = .int .i64 i ∧ Er wr base ov us' (l0 ++ (x.keys.zip x.vals).take i) ∧ Blk wr q 93 #[.int .i64 x.lev, .slice hA hn hc, .int .i64 x.right, .slice kA n kc, .slice vA n vc, .slice dA dn dc] ∧ NdV wr (fun b => base ≤ b ∧ b < w.heap.size ∧ ov.ownBlock ≠ some b) x hA kA vA dA hn hc n kc n vc dn dc ∧ ov.ownBlock ≠ some q ∧ Below base w wr)
  case atStart => exact ⟨0, us, by omega, by omega, rfl, by simpa using HE.out, HK.out, HV.out, hqo, Below.refl _ _⟩
  case round =>
    obtain ⟨i, us', hg, hi, rfl, he, hk, hv, hoq, hb⟩ := hrel
    have HG := Lib.hid hg
    have HER := Lib.hid he
    have HKR := Lib.hid hk
    have HVR := Lib.hid hv
    have HOQ := Lib.hid hoq
    have HB := Lib.hid hb
    rename World => wr
    clear hg he hk hv hoq hb HE HK HV
    by_cases hlt : i < n
    · have hlt' : (i : Int) < (n : Int) := by omega
      obtain ⟨b, o, Ak, nk, ck, key, rfl, hF1, hek, c1, p1, p2, p3, p4⟩ := HVR.out.k.at_ (k := i) hlt
      obtain ⟨b', o', Av, nv, cv, val, rfl, hF2, hev, c2, r1, r2, r3, r4⟩ := HVR.out.v.at_ (k := i) hlt
      have hkb : SB wr (fun b => base ≤ b ∧ u3.ownBlock ≠ some b) (.slice Ak nk ck) key := ⟨Ak, nk, ck, rfl, p1, p2, p3, p4.weak (fun b hb => ⟨hb.1, hb.2.2⟩)⟩
      have hvb : SB wr (fun b => base ≤ b ∧ u3.ownBlock ≠ some b) (.slice Av nv cv) val := ⟨Av, nv, cv, rfl, r1, r2, r3, r4.weak (fun b hb => ⟨hb.1, hb.2.2⟩)⟩
      have HKB := Lib.hid hkb
      have HVB := Lib.hid hvb
      have hz : (x.keys.zip x.vals)[i]? = some (key, val) := List.getElem?_zip_eq_some.2 ⟨hek, hev⟩
      have HZ : Hid ((x.keys.zip x.vals).take (i + 1) = (x.keys.zip x.vals).take i ++ [(key, val)]) := Lib.hid (by rw [List.take_add_one, hz]; rfl)
      have hzl : (l0 ++ (x.keys.zip x.vals).take i).length ≤ 1000100000 := by
        rw [List.length_append, List.length_take]; omega
      obtain ⟨li, hli⟩ : ∃ Y, Y = l0 ++ (x.keys.zip x.vals).take i := ⟨_, rfl⟩
      rw [← hli] at hzl
      have HER2 : Hid (Er wr base u3 us' li) := Lib.hid (by rw [hli]; exact HER.out)
      have HLI := Lib.hid hli
      have hq1 := HKR.out.lt
      have hbw := HB.out.size
      have hws : base ≤ wr.heap.size := Nat.le_trans hbase hbw
      clear hek hev p1 p2 p3 p4 r1 r2 r3 r4 hkb hvb hz hli HER hF1 hF2
      obtain ⟨wx, hwx⟩ : ∃ W, W = wr.alloc (.cells #[.slice Ak nk ck, .slice none 0 0] 43) := ⟨_, rfl⟩
      have HBX : Hid (Below wr.heap.size wr wx) := Lib.hid (by rw [hwx]; exact (Below.refl _ _).alloc (Nat.le_refl _) _)
      have HQX : Hid (Blk wx wr.heap.size 43 #[.slice Ak nk ck, .slice none 0 0]) := Lib.hid (by rw [hwx]; exact Blk.new _ _ _)
      go_upto_region 19 with fail
      rw [← hwx]
      clear hwx c1
      have HKX := Lib.hid (HKR.out.below HBX.out)
      have x4 : wx.cell? ⟨q, 4, none⟩ = some (.slice (some ⟨b', o', none⟩) n vc) := HKX.out.cell 4
      have y1 : wx.cell? ⟨wr.heap.size, 1, none⟩ = some (.slice none 0 0) := HQX.out.cell 1
      have yf := HQX.out.frozen
      have c2x := bkeep HBX.out c2
      go_upto_region 21 with fail
      obtain ⟨wy, hwy⟩ : ∃ W, W = wx.setCell ⟨wr.heap.size, 1, none⟩ (.slice Av nv cv) := ⟨_, rfl⟩
      rw [← hwy]
      have hby : Below wr.heap.size wr wy := by rw [hwy]; exact HBX.out.setCell (p := ⟨wr.heap.size, 1, none⟩) (Nat.le_refl _) _
      have HBY := Lib.hid hby
      have HQY : Hid (Blk wy wr.heap.size 43 #[.slice Ak nk ck, .slice Av nv cv]) := Lib.hid (by rw [hwy]; exact HQX.out.set_ 1 _)
      have HEY := Lib.hid (HER2.out.below hby)
      have hysz := hby.size
      clear hwy hby x4 y1 yf c2 c2x HQX HBX HKX
      have x0 : wy.cell? ⟨wr.heap.size, 0, none⟩ = some (.slice Ak nk ck) := HQY.out.cell 0
      have x1 : wy.cell? ⟨wr.heap.size, 1, none⟩ = some (.slice Av nv cv) := HQY.out.cell 1
      go_wp2_with (at_builtin; go_loud (refine wpList_append_any _ rfl (.tmp 88) (.tmp 90) _ rfl base 43 i0 _ 2 48 Try.underlying37 hi0 iz0 iz1 iz2 rfl (by omega) u3 li.length us' rfl (own_below HEY.out.own ((Below.refl _ _).alloc (Nat.le_refl _) _)) (From wy.heap.size) (some ⟨wy.heap.size, 0, none⟩) 1 1 [.slice Ak nk ck, .slice Av nv cv] rfl (Rd.two wy _ _ _) (by simp [Value.oneCell']) (by simp only [maxLen]; omega) (by omega) (by simp; omega) ?_); intro v6 w6 hown6 hg6 hat6; have HO6 := Lib.hid hown6; have HG6 := Lib.hid hg6; have HA6 := Lib.hid hat6; clear hown6 hg6 hat6)
      go_roundg (n - (i + 1))
      case measure => have := HG.out; omega
      case rel =>
        obtain ⟨wa, hwa⟩ : ∃ W, W = wy.alloc (.cells #[.slice Ak nk ck, .slice Av nv cv] 43) := ⟨_, rfl⟩
        have hg6 := HG6.out
        have ha6 := HA6.out
        rw [← hwa] at hg6 ha6
        have hba : Below wr.heap.size wr wa := HBY.out.trans (by rw [hwa]; exact (Below.refl _ _).alloc (by omega) _)
        have hown : Chg (fun b => u3.ownBlock = some b) wa w6 := Chg.of_grown hg6
        have hob : ∀ g, u3.ownBlock = some g → base ≤ g := fun g hg => (own_lt HER2.out.own g hg).1
        have hpush := (HER2.out.below hba).push (e := (key, val)) HO6.out hg6 ha6 (HKB.out.below hba) (HVB.out.below hba)
        have hv6 : ∀ b, b < wr.heap.size → u3.ownBlock ≠ some b → v6.ownBlock ≠ some b := fun b hb hn e => by
          rcases ha6 with h | h
          · exact hn (h ▸ e)
          · rw [h] at e; injection e with e; have := hba.size; omega
        rw [HLI.out, List.append_assoc, ← HZ.out] at hpush
        refine ⟨i + 1, _, rfl, by omega, by go_num, hpush, (HKR.out.below hba).chg hown (fun e => HOQ.out e), ((HVR.out.below hba).chg hown (fun b hb e => hb.2.2 e)).weak (fun b hb => ⟨hb.1, hb.2.1, hv6 b (by have := hb.2.1; omega) hb.2.2⟩), hv6 q hq1 HOQ.out, HB.out.trans ((hba.mono hws).trans (hown.below_of (Nat.le_trans hws hba.size) (fun b hb e => by have := hob b e; omega)))⟩
    · have hlt' : ¬ (i : Int) < (n : Int) := by omega
      obtain rfl : i = n := by omega
      have HZ : Hid ((x.keys.zip x.vals).take i = x.keys.zip x.vals) := Lib.hid (List.take_of_length_le (by rw [List.length_zip]; have := HVR.out.k.len; omega))
      have hfin := HER.out
      rw [HZ.out] at hfin
      have HFI := Lib.hid hfin
      clear hfin
      go_wp2
      exact HEX.out _ _ _ _ _ _ _ _ _ _ _ _ _ _ _ _ _ _ _ _ _ _ _ _ _ _ _ _ _ _ _ HFI.out HB.out
end Go.Proofs.Ytgjphmlmndcaeaa

namespace Go.Proofs.Ytgjphmlmndcaeaa
open Go.RowKit Go.Maps
/-- the number of the node that step s comes to: the first nodes of the levels from the root down, the leaves, nought -/
def midAt (L : Nat) (N d : Nat → Nat) (s : Nat) : Nat := if s < L then d (L - s) + 1 else if s < L + N 0 then s - L + 1 else 0
/-- a leaf's entries -/
def entsOf (x : Nd) : List Ent := x.keys.zip x.vals
section
variable {sl : List Slt} {root nd lf : Int} {inn L : Nat} {N d : Nat → Nat} {X : Nat → Nat → Nd}
theorem mid_ne (h : TreeOk sl root nd lf inn L N d X) {s t : Nat} (hst : s < t) (ht : t ≤ L + N 0) : midAt L N d s ≠ midAt L N d t := by
  unfold midAt
  have h01 : d 1 = N 0 := by rw [h.step, h.base]; omega
  by_cases h1 : s < L
  · rw [if_pos h1]
    by_cases h2 : t < L
    · rw [if_pos h2]
      have a := h.mono (j := L - t + 1) (k := L - s) (by omega)
      have b := h.step (L - t)
      have c := h.pos (L - t)
      omega
    · rw [if_neg h2]
      have a := h.mono (j := 1) (k := L - s) (by omega)
      split <;> omega
  · rw [if_neg h1, if_neg (show ¬ t < L by omega), if_pos (show s < L + N 0 by omega)]
    split <;> omega
end
theorem look_one {w : World} {b n : Nat} {f : Int → Int} {k : Int} (h : MapII w b n (fun j => if j = k then 1 else f j)) (h1 : -9223372036854775808 ≤ k) (h2 : k ≤ 9223372036854775807) : (Instr.lookup 107 (.map (some b)) (.int .i64 k) false).run Try.prog w = .ok (.int .i64 1) w := by
  have : (Instr.lookup 107 (.map (some b)) (.int .i64 k) false).run Try.prog w = .ok (.int .i64 (if k = k then (1 : Int) else f k)) w := h.look h1 h2
  rw [if_pos rfl] at this
  exact this
set_option maxRecDepth 100000 in
set_option maxHeartbeats 4000000 in
theorem map_any (F : Nat → Prop) (p : Nat) (nodes root : Int) (sl : List Slt) (nd lf : Int) (inn L : Nat) (N d : Nat → Nat) (X : Nat → Nat → Nd) (w : World) (hx : ArX w F p nodes sl root) (hn : sl.length ≤ 65536) (hF : ∀ b, F b → b < w.heap.size)
    (ht : TreeOk sl root nd lf inn L N d X) (hlf : lf ≤ 100000) (hln : ∀ j, j ≤ N 0 → ((List.range j).flatMap fun i => entsOf (X 0 i)).length ≤ 1000000000) :
    Calls Try.prog 25 #[.pointer (some ⟨p, 0, none⟩)] w fun e w' => ∃ A n c, e = .returned (.slice A n c) ∧ Ents w' (From w.heap.size) A n ((List.range (N 0)).flatMap fun i => entsOf (X 0 i)) ∧ Below w.heap.size w w' := by
  have HX := Lib.hid hx
  have HT := Lib.hid ht
  have HF := Lib.hid hF
  have HNS := Lib.hid hn
  have HLN := Lib.hid hln
  have HLF := Lib.hid hlf
  have HRO := Lib.hid ht.root
  have hdeep := ht.deep
  have hN0 := ht.fit (Nat.zero_le L)
  have hmm := @run_makeMap Try.prog
  have HB0 : Hid (Below w.heap.size w (w.alloc (.map #[] 0))) := Lib.hid ((Below.refl _ _).alloc (Nat.le_refl _) _)
  have HM0 := Lib.hid (MapII.made w)
  clear hx hF ht hln hlf
  go_enter Try.func25, Try.ntmps25
  go_wp2
  go_step3
  go_wp2
  go_step3
  go_wp2_with (go_at_call 48; refine (root_any F p nodes root sl _ (HX.out.below HB0.out)).mono ?_; rintro e w' ⟨rfl, rfl⟩; rw [HRO.out])
  go_loopg [3, 5, 6] (L + N 0 + 1) (fun g' ov lv iv wr => ∃ (s : Nat) (us : List Value) (f : Int → Int), g' = L + N 0 + 1 - s ∧ s ≤ L + N 0 ∧ lv = .bool (decide (L < s)) ∧ iv = .int .i64 ((midAt L N d s : Nat) : Int) ∧ Er wr (w.heap.size + 1) ov us ((List.range (s - L)).flatMap fun i => entsOf (X 0 i)) ∧ MapII wr w.heap.size s f ∧ Hid (∀ y, f y ≠ 0 → ∃ t, t < s ∧ y = (midAt L N d t : Int)) ∧ Below w.heap.size w wr)
  case atStart =>
    have hr : ((d L : Int) + 1) = ((midAt L N d 0 : Nat) : Int) := by
      unfold midAt
      by_cases h : 0 < L
      · rw [if_pos h]; simp
      · have h0 : L = 0 := by omega
        have hp := HT.out.pos 0
        rw [if_neg h, if_pos (by omega), h0, HT.out.base]; simp
    refine ⟨0, [], fun _ => 0, by omega, by omega, by simp, congrArg (Value.int .i64) hr, ?_, HM0.out, Lib.hid (fun y h => absurd rfl h), HB0.out⟩
    rw [Nat.zero_sub]; exact Er.nil _ _
  case round =>
    obtain ⟨s, us, f, hg, hs, rfl, rfl, he, hmp, hfv, hb⟩ := hrel
    have HG := Lib.hid hg
    have HE := Lib.hid he
    have HM := Lib.hid hmp
    have HB := Lib.hid hb
    have HFV := hfv
    rename World => wr
    have hws : w.heap.size + 1 ≤ wr.heap.size := hmp.lt
    obtain ⟨m, hmm'⟩ : ∃ Y, Y = midAt L N d s := ⟨_, rfl⟩
    rw [← hmm']
    have HMM := Lib.hid hmm'
    have HF0 : Hid (f (m : Int) = 0) := Lib.hid (by
      by_cases h0 : f (m : Int) = 0
      · exact h0
      · obtain ⟨t, ht, e⟩ := hfv.out _ h0
        have := mid_ne HT.out ht hs
        exact absurd (by rw [← hmm']; omega) this)
    clear hg he hmp hb hfv HM0 HB0 hmm'
    have hmid : s < L → m = d (L - s) + 1 := fun h => by rw [HMM.out]; unfold midAt; rw [if_pos h]
    have hmid2 : ¬ s < L → s < L + N 0 → m = s - L + 1 := fun h h2 => by rw [HMM.out]; unfold midAt; rw [if_neg h, if_pos h2]
    have hmid3 : ¬ s < L → ¬ s < L + N 0 → m = 0 := fun h h2 => by rw [HMM.out]; unfold midAt; rw [if_neg h, if_neg h2]
    by_cases hsL : s < L
    · obtain ⟨k, hk⟩ : ∃ k, k = L - s := ⟨_, rfl⟩
      have hmk : m = d k + 1 := by rw [hmid hsL, hk]
      have hkL : k ≤ L := by omega
      have hk1 : 1 ≤ k := by omega
      have hfk := HT.out.fit hkL
      have hpk := HT.out.pos k
      obtain ⟨x, hxx⟩ : ∃ Y, Y = X k 0 := ⟨_, rfl⟩
      have hm1 : 1 ≤ (m : Int) := by omega
      have HAT : Hid (∃ s', sl[((m : Int)).toNat - 1]? = some s' ∧ s'.2 = x ∧ Small s'.2) := Lib.hid (by
        rw [show ((m : Int)).toNat - 1 = d k + 0 by omega, hxx]
        exact (HT.out.lv k hkL).at_ 0 (by omega))
      have HLV : Hid (x.lev = (k : Int)) := Lib.hid (by rw [hxx]; exact (HT.out.lv k hkL).lev 0 (by omega))
      have HKD : Hid (x.kids[0]? = some ((d (k - 1) : Int) + 1)) := Lib.hid (by
        have := HT.out.kid0 (k - 1) (by omega)
        rw [show k - 1 + 1 = k by omega] at this
        rw [hxx]; exact this)
      have HNX : Hid ((d (k - 1) : Int) + 1 = ((midAt L N d (s + 1) : Nat) : Int)) := Lib.hid (by
        unfold midAt
        by_cases h : s + 1 < L
        · rw [if_pos h, show L - (s + 1) = k - 1 by omega]; simp
        · have hp := HT.out.pos 0
          rw [if_neg h, if_pos (by omega), show k - 1 = 0 by omega, HT.out.base, show s + 1 - L = 0 by omega]; simp)
      have HKK := Lib.hid hk
      have hm2 : m ≤ 65537 := by have := HNS.out; omega
      clear hmid hmid2 hmid3 hk hxx hmk
      have hlf : ¬ L < s := by omega
      go_upto_region 10 with (first | (go_at_call 49; go_loud (refine (read_at F p nodes root sl (m : Int) x wr (HX.out.below HB.out) hm1 HNS.out HAT.out).mono ?_); rintro e w1 ⟨hA, hn', hc, kA, kn, kc, vA, vn, vc, dA, dn, dc, rfl, hv1, hb1⟩; have hz1 := hb1.size; have hb2 : Below wr.heap.size wr (w1.alloc (.cells #[.int .i64 x.lev, .slice hA hn' hc, .int .i64 x.right, .slice kA kn kc, .slice vA vn vc, .slice dA dn dc] 93)) := hb1.alloc hz1 _; have HB2 := Lib.hid hb2; have HV2 : Hid (NdV (w1.alloc (.cells #[.int .i64 x.lev, .slice hA hn' hc, .int .i64 x.right, .slice kA kn kc, .slice vA vn vc, .slice dA dn dc] 93)) (From wr.heap.size) x hA kA vA dA hn' hc kn kc vn vc dn dc) := Lib.hid (hv1.below ((Below.refl _ _).alloc (Nat.le_refl _) _)); have HK2 : Hid (Blk (w1.alloc (.cells #[.int .i64 x.lev, .slice hA hn' hc, .int .i64 x.right, .slice kA kn kc, .slice vA vn vc, .slice dA dn dc] 93)) w1.heap.size 93 #[.int .i64 x.lev, .slice hA hn' hc, .int .i64 x.right, .slice kA kn kc, .slice vA vn vc, .slice dA dn dc]) := Lib.hid (Blk.new _ _ _); have hl1 : (Instr.lookup 107 (.map (some w.heap.size)) (.int .i64 (m : Int)) false).run Try.prog (w1.alloc (.cells #[.int .i64 x.lev, .slice hA hn' hc, .int .i64 x.right, .slice kA kn kc, .slice vA vn vc, .slice dA dn dc] 93)) = .ok (.int .i64 0) (w1.alloc (.cells #[.int .i64 x.lev, .slice hA hn' hc, .int .i64 x.right, .slice kA kn kc, .slice vA vn vc, .slice dA dn dc] 93)) := look_zero (HM.out.below hb2) (by omega) (by omega) HF0.out; clear hv1 hb1 hb2) | (at_mapUpdate; go_loud (refine wpList_MapII_put rfl _ _ _ rfl rfl (HM.out.below HB2.out) (by unfold maxLen; omega) (m : Int) 1 rfl rfl (by omega) (by omega) (by omega) (by omega) ?_); intro w2 hm2 hc2; have HM2 := Lib.hid hm2; have HC2 := Lib.hid hc2; have hl2 : (Instr.lookup 107 (.map (some w.heap.size)) (.int .i64 (m : Int)) false).run Try.prog w2 = .ok (.int .i64 1) w2 := look_one hm2 (by omega) (by omega); clear hm2 hc2 hl1))
      obtain ⟨q, hqq⟩ : ∃ Y, Y = w1.heap.size := ⟨_, rfl⟩
      rw [← hqq]
      have hs12 : wr.heap.size ≤ w2.heap.size := Nat.le_trans HB2.out.size HC2.out.size
      have HBW2 : Hid (Below w.heap.size w w2) := Lib.hid (HB.out.trans ((HB2.out.mono (by omega)).trans (HC2.out.below_of (Nat.le_trans (by omega) HB2.out.size) (fun b hb h => by have h : b = w.heap.size := h; omega))))
      have HE2 := Lib.hid ((HE.out.below HB2.out).chg HC2.out (fun b hb h => by have h : b = w.heap.size := h; omega))
      have HFV2 : Hid (∀ y, (fun j => if j = (m : Int) then 1 else f j) y ≠ 0 → ∃ t, t < s + 1 ∧ y = (midAt L N d t : Int)) := Lib.hid (fun y hy => by
        by_cases hym : y = (m : Int)
        · exact ⟨s, by omega, by rw [hym, HMM.out]⟩
        · obtain ⟨t, ht, e⟩ := HFV.out y (fun h0 => hy (by show (if y = (m : Int) then (1 : Int) else f y) = 0; rw [if_neg hym]; exact h0))
          exact ⟨t, by omega, e⟩)
      have HKQ : Hid (Blk w2 q 93 #[.int .i64 x.lev, .slice hA hn' hc, .int .i64 x.right, .slice kA kn kc, .slice vA vn vc, .slice dA dn dc]) := Lib.hid (by rw [hqq]; exact HK2.out.chg HC2.out (fun h => by have h : w1.heap.size = w.heap.size := h; omega))
      have HVQ : Hid (NdV w2 (From wr.heap.size) x hA kA vA dA hn' hc kn kc vn vc dn dc) := Lib.hid (HV2.out.chg HC2.out (fun b hb h => by have h : b = w.heap.size := h; have hb : wr.heap.size ≤ b := hb; omega))
      have hqw : wr.heap.size ≤ q := by omega
      clear hqq HB2 HV2 HK2 HC2 hz1
      have hkl : 0 < dn := by rw [HVQ.out.d.len]; exact (List.getElem?_eq_some_iff.1 HKD.out).1
      obtain ⟨b2, o2, kid, hA2, _, he2, d1⟩ := HVQ.out.d.at_ (k := 0) hkl
      have hkk : kid = (d (k - 1) : Int) + 1 := by have h := HKD.out; rw [he2] at h; injection h
      subst hkk hA2
      rw [Nat.add_zero] at d1
      have HQ2 : Hid (Blk w2 q 93 #[.int .i64 (k : Int), .slice hA hn' hc, .int .i64 x.right, .slice kA kn kc, .slice vA vn vc, .slice (some ⟨b2, o2, none⟩) dn dc]) := Lib.hid (by have := HKQ.out; rw [HLV.out] at this; exact this)
      obtain ⟨z0, z1, z2, z3, z4, z5⟩ := cells6 HQ2.out
      have hp1 : ¬ (k : Int) ≤ 0 := by omega
      have hp2 : ((dn : Int) == 0) = false := by simp; omega
      have hp3 : (0 : Int) < (dn : Int) := by omega
      clear he2
      go_wp2_with fail
      go_roundg (L + N 0 + 1 - (s + 1))
      case measure => have := HG.out; omega
      case rel =>
        refine ⟨s + 1, us, _, rfl, by omega, ?_, congrArg (Value.int .i64) HNX.out, ?_, HM2.out, HFV2, HBW2.out⟩
        · have := HKK.out; simp; omega
        · have h1 : s - L = 0 := by omega
          have h2 : s + 1 - L = 0 := by omega
          have := HE2.out
          rw [h1] at this
          rw [h2]; exact this
    · by_cases hsN : s < L + N 0
      · obtain ⟨i, hi⟩ : ∃ i, i = s - L := ⟨_, rfl⟩
        have hmi : m = i + 1 := by rw [hmid2 hsL hsN, hi]
        have hiN : i < N 0 := by omega
        obtain ⟨x, hxx⟩ : ∃ Y, Y = X 0 i := ⟨_, rfl⟩
        have hm1 : 1 ≤ (m : Int) := by omega
        have hm2 : m ≤ 65537 := by have := HNS.out; omega
        have HAT : Hid (∃ s', sl[((m : Int)).toNat - 1]? = some s' ∧ s'.2 = x ∧ Small s'.2) := Lib.hid (by
          rw [show ((m : Int)).toNat - 1 = d 0 + i by rw [HT.out.base]; omega, hxx]
          exact (HT.out.lv 0 (Nat.zero_le _)).at_ i hiN)
        have HLV : Hid (x.lev = 0) := Lib.hid (by rw [hxx]; exact (HT.out.lv 0 (Nat.zero_le _)).lev i hiN)
        have HNX : Hid (x.right = ((midAt L N d (s + 1) : Nat) : Int)) := Lib.hid (by
          rw [hxx, (HT.out.lv 0 (Nat.zero_le _)).right i hiN, HT.out.base]
          unfold midAt
          by_cases h : i + 1 < N 0
          · rw [if_pos h, if_neg (by omega), if_pos (by omega)]; omega
          · rw [if_neg h, if_neg (by omega), if_neg (by omega)]; rfl)
        have HVN : Hid (x.vals.length = x.keys.length) := Lib.hid (by rw [hxx]; exact (((HT.out.lv 0 (Nat.zero_le _)).fine i hiN).leaf ((HT.out.lv 0 (Nat.zero_le _)).lev i hiN)).1)
        have HKB : Hid (x.keys.length ≤ 100000) := Lib.hid (by
          have h1 := (((HT.out.lv 0 (Nat.zero_le _)).fine i hiN).leaf ((HT.out.lv 0 (Nat.zero_le _)).lev i hiN)).2.1
          rw [hxx]; have := HLF.out; omega)
        have HXX := Lib.hid hxx
        have HII := Lib.hid hi
        clear hmid hmid2 hmid3 hi hxx hmi
        go_upto_region 10 with (first | (go_at_call 49; go_loud (refine (read_at F p nodes root sl (m : Int) x wr (HX.out.below HB.out) hm1 HNS.out HAT.out).mono ?_); rintro e w1 ⟨hA, hn', hc, kA, kn, kc, vA, vn, vc, dA, dn, dc, rfl, hv1, hb1⟩; have hz1 := hb1.size; have hb2 : Below wr.heap.size wr (w1.alloc (.cells #[.int .i64 x.lev, .slice hA hn' hc, .int .i64 x.right, .slice kA kn kc, .slice vA vn vc, .slice dA dn dc] 93)) := hb1.alloc hz1 _; have HB2 := Lib.hid hb2; have HV2 : Hid (NdV (w1.alloc (.cells #[.int .i64 x.lev, .slice hA hn' hc, .int .i64 x.right, .slice kA kn kc, .slice vA vn vc, .slice dA dn dc] 93)) (From wr.heap.size) x hA kA vA dA hn' hc kn kc vn vc dn dc) := Lib.hid (hv1.below ((Below.refl _ _).alloc (Nat.le_refl _) _)); have HK2 : Hid (Blk (w1.alloc (.cells #[.int .i64 x.lev, .slice hA hn' hc, .int .i64 x.right, .slice kA kn kc, .slice vA vn vc, .slice dA dn dc] 93)) w1.heap.size 93 #[.int .i64 x.lev, .slice hA hn' hc, .int .i64 x.right, .slice kA kn kc, .slice vA vn vc, .slice dA dn dc]) := Lib.hid (Blk.new _ _ _); have hl1 : (Instr.lookup 107 (.map (some w.heap.size)) (.int .i64 (m : Int)) false).run Try.prog (w1.alloc (.cells #[.int .i64 x.lev, .slice hA hn' hc, .int .i64 x.right, .slice kA kn kc, .slice vA vn vc, .slice dA dn dc] 93)) = .ok (.int .i64 0) (w1.alloc (.cells #[.int .i64 x.lev, .slice hA hn' hc, .int .i64 x.right, .slice kA kn kc, .slice vA vn vc, .slice dA dn dc] 93)) := look_zero (HM.out.below hb2) (by omega) (by omega) HF0.out; clear hv1 hb1 hb2) | (at_mapUpdate; go_loud (refine wpList_MapII_put rfl _ _ _ rfl rfl (HM.out.below HB2.out) (by unfold maxLen; omega) (m : Int) 1 rfl rfl (by omega) (by omega) (by omega) (by omega) ?_); intro w2 hm2 hc2; have HM2 := Lib.hid hm2; have HC2 := Lib.hid hc2; have hl2 : (Instr.lookup 107 (.map (some w.heap.size)) (.int .i64 (m : Int)) false).run Try.prog w2 = .ok (.int .i64 1) w2 := look_one hm2 (by omega) (by omega); clear hm2 hc2 hl1))
        obtain ⟨q, hqq⟩ : ∃ Y, Y = w1.heap.size := ⟨_, rfl⟩
        rw [← hqq]
        have hs12 : wr.heap.size ≤ w2.heap.size := Nat.le_trans HB2.out.size HC2.out.size
        have HBW2 : Hid (Below w.heap.size w w2) := Lib.hid (HB.out.trans ((HB2.out.mono (by omega)).trans (HC2.out.below_of (Nat.le_trans (by omega) HB2.out.size) (fun b hb h => by have h : b = w.heap.size := h; omega))))
        have HE2 := Lib.hid ((HE.out.below HB2.out).chg HC2.out (fun b hb h => by have h : b = w.heap.size := h; omega))
        have HFV2 : Hid (∀ y, (fun j => if j = (m : Int) then 1 else f j) y ≠ 0 → ∃ t, t < s + 1 ∧ y = (midAt L N d t : Int)) := Lib.hid (fun y hy => by
          by_cases hym : y = (m : Int)
          · exact ⟨s, by omega, by rw [hym, HMM.out]⟩
          · obtain ⟨t, ht, e⟩ := HFV.out y (fun h0 => hy (by show (if y = (m : Int) then (1 : Int) else f y) = 0; rw [if_neg hym]; exact h0))
            exact ⟨t, by omega, e⟩)
        have HKQ : Hid (Blk w2 q 93 #[.int .i64 x.lev, .slice hA hn' hc, .int .i64 x.right, .slice kA kn kc, .slice vA vn vc, .slice dA dn dc]) := Lib.hid (by rw [hqq]; exact HK2.out.chg HC2.out (fun h => by have h : w1.heap.size = w.heap.size := h; omega))
        have HVQ : Hid (NdV w2 (From wr.heap.size) x hA kA vA dA hn' hc kn kc vn vc dn dc) := Lib.hid (HV2.out.chg HC2.out (fun b hb h => by have h : b = w.heap.size := h; have hb : wr.heap.size ≤ b := hb; omega))
        have hqw : wr.heap.size ≤ q := by omega
        clear hqq HB2 HV2 HK2 HC2 hz1
        have hvn : vn = kn := by rw [HVQ.out.v.len, HVQ.out.k.len, HVN.out]
        have hkn : kn ≤ 100000 := by rw [HVQ.out.k.len]; exact HKB.out
        subst hvn
        have HQ2 : Hid (Blk w2 q 93 #[.int .i64 0, .slice hA hn' hc, .int .i64 ((midAt L N d (s + 1) : Nat) : Int), .slice kA vn kc, .slice vA vn vc, .slice dA dn dc]) := Lib.hid (by have := HKQ.out; rw [HLV.out, HNX.out] at this; exact this)
        obtain ⟨z0, z1, z2, z3, z4, z5⟩ := cells6 HQ2.out
        obtain ⟨nx, hnx⟩ : ∃ Y, Y = midAt L N d (s + 1) := ⟨_, rfl⟩
        rw [← hnx] at z2
        have HNN := Lib.hid hnx
        have hlen : (((List.range (s - L)).flatMap fun i => entsOf (X 0 i))).length ≤ 1000000000 := HLN.out (s - L) (by omega)
        have HLEN := Lib.hid hlen
        have hrow : ∀ b, wr.heap.size ≤ b → u3.ownBlock ≠ some b := fun b hb e => by have := (own_lt HE.out.own b e).2; omega
        have HVR : Hid (NdV w2 (fun b => w.heap.size + 1 ≤ b ∧ b < w2.heap.size ∧ u3.ownBlock ≠ some b) x hA kA vA dA hn' hc vn kc vn vc dn dc) := Lib.hid (HVQ.out.lt.weak (fun b hb => ⟨Nat.le_trans hws hb.1, hb.2, hrow b hb.1⟩))
        have hqo : u3.ownBlock ≠ some q := hrow q hqw
        have HKX : Hid (Blk w2 q 93 #[.int .i64 x.lev, .slice hA hn' hc, .int .i64 x.right, .slice kA vn kc, .slice vA vn vc, .slice dA dn dc]) := HKQ
        clear hnx hlen hrow
        by_cases hl2' : L < s
        · have hd : decide (L < s) = true := decide_eq_true hl2'
          go_wp2_with fail
          refine map_in (w.heap.size + 1) q _ x u3 us hA kA vA dA hn' hc vn kc vc dn dc w2 _ HKX HVR HE2 (by omega) hqo (by omega) HLEN.out hkn ?_
          intro out2 v9 v10 v11 v68 v69 v70 v71 v72 v73 v74 v75 v76 v77 v78 v79 v80 v81 v82 v83 v84 v85 v86 v87 v88 v89 v90 v91 v92 us' w5 he5 hb5
          have HE5 := Lib.hid he5
          have hc5 : Chg (fun b => w.heap.size + 1 ≤ b) w2 w5 := Chg.of_below_ hb5 (fun b _ h => h)
          have HM5 := Lib.hid (HM2.out.chg hc5 (fun h => by have h : w.heap.size + 1 ≤ w.heap.size := h; omega))
          have HB5 : Hid (Below w.heap.size w w5) := Lib.hid (HBW2.out.trans (hc5.below_of HBW2.out.size (fun b hb h => by have h : w.heap.size + 1 ≤ b := h; omega)))
          clear he5 hb5 hc5
          go_wp2_with fail
          go_roundg (L + N 0 + 1 - (s + 1))
          case measure => have := HG.out; omega
          case rel =>
            have e1 : (List.range (s + 1 - L)).flatMap (fun i => entsOf (X 0 i)) = ((List.range (s - L)).flatMap fun i => entsOf (X 0 i)) ++ x.keys.zip x.vals := by
              have h1 : s + 1 - L = (s - L) + 1 := by omega
              rw [h1, List.range_succ, List.flatMap_append, List.flatMap_singleton, ← HII.out, ← HXX.out]; rfl
            refine ⟨s + 1, us', _, rfl, by omega, ?_, congrArg (fun t : Nat => Value.int .i64 (t : Int)) HNN.out, ?_, HM5.out, HFV2, HB5.out⟩
            · have : decide (L < s + 1) = true := decide_eq_true (by omega)
              rw [this]
            · rw [e1]; exact HE5.out
        · have hd : decide (L < s) = false := decide_eq_false hl2'
          go_wp2_with fail
          refine map_in (w.heap.size + 1) q _ x u3 us hA kA vA dA hn' hc vn kc vc dn dc w2 _ HKX HVR HE2 (by omega) hqo (by omega) HLEN.out hkn ?_
          intro out2 v9 v10 v11 v68 v69 v70 v71 v72 v73 v74 v75 v76 v77 v78 v79 v80 v81 v82 v83 v84 v85 v86 v87 v88 v89 v90 v91 v92 us' w5 he5 hb5
          have HE5 := Lib.hid he5
          have hc5 : Chg (fun b => w.heap.size + 1 ≤ b) w2 w5 := Chg.of_below_ hb5 (fun b _ h => h)
          have HM5 := Lib.hid (HM2.out.chg hc5 (fun h => by have h : w.heap.size + 1 ≤ w.heap.size := h; omega))
          have HB5 : Hid (Below w.heap.size w w5) := Lib.hid (HBW2.out.trans (hc5.below_of HBW2.out.size (fun b hb h => by have h : w.heap.size + 1 ≤ b := h; omega)))
          clear he5 hb5 hc5
          go_wp2_with fail
          go_roundg (L + N 0 + 1 - (s + 1))
          case measure => have := HG.out; omega
          case rel =>
            have e1 : (List.range (s + 1 - L)).flatMap (fun i => entsOf (X 0 i)) = ((List.range (s - L)).flatMap fun i => entsOf (X 0 i)) ++ x.keys.zip x.vals := by
              have h1 : s + 1 - L = (s - L) + 1 := by omega
              rw [h1, List.range_succ, List.flatMap_append, List.flatMap_singleton, ← HII.out, ← HXX.out]; rfl
            refine ⟨s + 1, us', _, rfl, by omega, ?_, congrArg (fun t : Nat => Value.int .i64 (t : Int)) HNN.out, ?_, HM5.out, HFV2, HB5.out⟩
            · have : decide (L < s + 1) = true := decide_eq_true (by omega)
              rw [this]
            · rw [e1]; exact HE5.out
      · have hm0 := hmid3 hsL hsN
        have hsE : s = L + N 0 := by omega
        subst hm0
        clear hmid hmid2 hmid3
        go_wp2_with (first | (go_at_call 49; go_loud (refine (read_out F p nodes root sl _ wr (HX.out.below HB.out) (.inl (by decide))).mono ?_); rintro e w1 ⟨⟨A1, n1, c1, A2, n2, c2, A3, n3, c3, A4, n4, c4, rfl⟩, hb1⟩; have hz1 := hb1.size; have hb2 : Below wr.heap.size wr (w1.alloc (.cells #[.int .i64 0, .slice A1 n1 c1, .int .i64 0, .slice A2 n2 c2, .slice A3 n3 c3, .slice A4 n4 c4] 93)) := hb1.alloc hz1 _; have HB2 := Lib.hid hb2; have hl1 : (Instr.lookup 107 (.map (some w.heap.size)) (.int .i64 0) false).run Try.prog (w1.alloc (.cells #[.int .i64 0, .slice A1 n1 c1, .int .i64 0, .slice A2 n2 c2, .slice A3 n3 c3, .slice A4 n4 c4] 93)) = .ok (.int .i64 0) (w1.alloc (.cells #[.int .i64 0, .slice A1 n1 c1, .int .i64 0, .slice A2 n2 c2, .slice A3 n3 c3, .slice A4 n4 c4] 93)) := look_zero (HM.out.below hb2) (by omega) (by omega) HF0.out; clear hb1 hb2) | (at_mapUpdate; go_loud (refine wpList_MapII_put rfl _ _ _ rfl rfl (HM.out.below HB2.out) (by unfold maxLen; omega) 0 1 rfl rfl (by omega) (by omega) (by omega) (by omega) ?_); intro w2 hm2 hc2; have HC2 := Lib.hid hc2; clear hm2 hc2 hl1))
        simp only [Exit.noGoto]
        obtain ⟨A, c, rfl, a1, a2⟩ := own_val HE.out.own
        go_ret
        have hbw : Below w.heap.size w w2 := HB.out.trans ((HB2.out.mono (by omega)).trans (HC2.out.below_of (Nat.le_trans (by omega) HB2.out.size) (fun b hb h => by have h : b = w.heap.size := h; omega)))
        have he := ((HE.out.below HB2.out).chg HC2.out (fun b hb h => by have h : b = w.heap.size := h; omega)).ents rfl
        rw [show s - L = N 0 by omega] at he ⊢
        exact ⟨A, _, c, rfl, he.weak (fun b hb => by simp only [From] at hb ⊢; omega), hbw⟩
end Go.Proofs.Ytgjphmlmndcaeaa

namespace Go.Proofs.Ytgjphmlmndcaeaa
open Go.RowKit
/-- the answer is the program's arena -/
def BuiltX (w : World) (nodes : Int) (t : List Slt × Int) (e : Ending) (w' : World) : Prop :=
  ∃ p, e = .returned (.tuple #[.pointer (some ⟨p, 0, none⟩), .int .i64 0, .int .i64 0]) ∧ ArX w' (From w.heap.size) p nodes t.1 t.2 ∧ Below w.heap.size w w'
def BuiltR (w : World) (nodes : Int) (t : List Slt × Int) (e : Ending) (w' : World) : Prop :=
  ∃ p, e = .returned (.tuple #[.pointer (some ⟨p, 0, none⟩), .int .i64 0, .int .i64 0]) ∧ ArR w' (From w.heap.size) p nodes t.1 t.2 ∧ Below w.heap.size w w'

theorem tree_any (nd lf bl : Int) (inn fill : Nat) (A : Option Addr) (n c : Nat) (F0 : Nat → Prop) (l : List Ent) (w : World) (hc : cfgOk nd lf inn fill bl) (hE : Ents w F0 A n l) (hnc : n ≤ c) (hcm : c ≤ maxLen) (hn : n ≤ 1152921504606)
    (hsm : ∀ e ∈ l, e.1.length ≤ 1152921504606 ∧ e.2.length ≤ 1152921504606) (hlv : (nodesOf nd lf inn fill bl n).2 = 0) :
    Calls Try.prog 33 #[.agg #[.int .i64 nd, .int .i64 lf, .int .i64 inn, .int .i64 fill, .int .i64 bl], .slice A n c] w (NewTree w nd (treeOf fill inn l)) := by
  obtain ⟨c1, c2, c3, c4, c5, c6, c7, c8, c9, c10⟩ := hc
  rcases Nat.eq_zero_or_pos n with h0 | h0
  · subst h0
    have : l = [] := List.eq_nil_of_length_eq_zero hE.len.symm
    subst this
    rw [treeOf_nil]
    exact tree_nil nd lf bl inn fill A c w c1 c2
  · rw [nodesOf_ok ⟨c1, c2, c3, c4, c5, c6, c7, c8, c9, c10⟩ (by omega)] at hlv
    exact tree_cons nd lf bl inn fill A n c F0 l w c1 c2 (by omega) (by omega) (by omega) (by omega) hE hnc hcm hn h0 hsm hlv

set_option maxRecDepth 100000 in
theorem pbuild_ok (nd lf bl : Int) (inn fill : Nat) (A : Option Addr) (n c : Nat) (F : Nat → Prop) (l : List Ent) (w : World) (hE : Ents w F A n l) (hnc : n ≤ c) (hcm : c ≤ maxLen) (hn : n ≤ 1152921504606) (hsm : ∀ e ∈ l, e.1.length ≤ 1152921504606 ∧ e.2.length ≤ 1152921504606) (hc : cfgOk nd lf inn fill bl) (hs : sortedOf l = (0, 0)) (hf : (nodesOf nd lf inn fill bl n).2 = 0) :
    Calls Try.prog 20 #[.agg #[.int .i64 nd, .int .i64 lf, .int .i64 inn, .int .i64 fill, .int .i64 bl], .slice A n c] w (BuiltX w nd (treeOf fill inn l)) := by
  have he := cfgE_ok hc
  have HC := Lib.hid he
  have HCF := Lib.hid hc
  have HE := Lib.hid hE
  have HS := Lib.hid hsm
  obtain ⟨ni, hni⟩ : ∃ x, x = nodesOf nd lf inn fill bl n := ⟨_, rfl⟩
  have HF := Lib.hid hf
  have hf' : (ni.2 == 0) = true := by rw [hni, beq_iff_eq]; exact hf
  have HNI := Lib.hid hni
  have HSS := Lib.hid hs
  clear he hc hE hsm hni hf hs
  go_enter Try.func20, Try.ntmps20
  go_wp2_with (first | (go_at_call 30; refine (config_any nd lf inn fill bl _).mono ?_; rintro e w1 ⟨rfl, hb1⟩; rw [HC.out]; have HB1 : Hid (Below w.heap.size w w1) := Lib.hid (((Below.refl _ _).alloc (Nat.le_refl _) _).trans (hb1.mono (by simp))); have HK1 := Lib.hid ((Blk.new w 23 #[.int .i64 nd, .int .i64 lf, .int .i64 inn, .int .i64 fill, .int .i64 bl]).below hb1); clear hb1) | (go_at_call 41; refine (sorted_any A n c F l _ (HE.out.below HB1.out) hn).mono ?_; rintro e w2 ⟨rfl, hb2⟩; rw [HSS.out]; have HB2 : Hid (Below w.heap.size w w2) := Lib.hid (HB1.out.trans (hb2.mono HB1.out.size)); have HK2 := Lib.hid (HK1.out.below hb2); obtain ⟨z0, z1, z2, z3, z4⟩ := cf_of HK2.out; clear hb2) | (go_at_call 8; refine (nodes_ok nd lf inn fill bl n _ HCF.out (by omega) (by omega)).mono ?_; rintro e w3 ⟨rfl, hb3⟩; rw [← HNI.out]; unfold nodesV; have HB3 : Hid (Below w.heap.size w w3) := Lib.hid (HB2.out.trans (hb3.mono HB2.out.size)); have HK3 := Lib.hid (HK2.out.below hb3); obtain ⟨z0, z1, z2, z3, z4⟩ := cf_of HK3.out; clear hb3) | (go_at_call 33; refine (tree_any nd lf bl inn fill A n c F l _ HCF.out (HE.out.below HB3.out) hnc hcm hn HS.out HF.out).mono ?_; rintro e w4 ⟨p, rfl, q1, q2⟩; have HQ1 := Lib.hid q1; have HQ2 := Lib.hid q2; clear q1 q2))
  go_ret3
  exact ⟨p, rfl, HQ1.out.weak (fun b hb => Nat.le_trans HB3.out.size hb), HB3.out.trans (HQ2.out.mono HB3.out.size)⟩
end Go.Proofs.Ytgjphmlmndcaeaa

namespace Go.Proofs.Ytgjphmlmndcaeaa
open Go.RowKit
set_option maxRecDepth 100000 in
theorem rbuild_nil (nd lf bl : Int) (inn fill : Nat) (A : Option Addr) (c : Nat) (F : Nat → Prop) (w : World) (hE : Ents w F A 0 []) (hc : cfgOk nd lf inn fill bl) (hf : (nodesOf nd lf inn fill bl (0 : Nat)).2 = 0) :
    Calls Try.prog 21 #[.agg #[.int .i64 nd, .int .i64 lf, .int .i64 inn, .int .i64 fill, .int .i64 bl], .slice A 0 c] w (BuiltR w nd ([(0, Nd.zero)], 1)) := by
  obtain ⟨n, hn0⟩ : ∃ n : Nat, n = 0 := ⟨0, rfl⟩
  obtain ⟨l, hl0⟩ : ∃ l : List Ent, l = [] := ⟨[], rfl⟩
  rw [← hn0, ← hl0] at hE
  rw [← hn0] at hf ⊢
  have hn : n ≤ 1152921504606 := by omega
  have hsm : ∀ e ∈ l, e.1.length ≤ 1152921504606 ∧ e.2.length ≤ 1152921504606 := by rw [hl0]; simp
  have hs : sortedOf l = (0, 0) := by rw [hl0]; rfl
  have hz : ((n : Int) == 0) = true := by rw [hn0]; rfl
  clear hn0 hl0
  have he := cfgE_ok hc
  have HC := Lib.hid he
  have HCF := Lib.hid hc
  have HE := Lib.hid hE
  have HS := Lib.hid hsm
  obtain ⟨ni, hni⟩ : ∃ x, x = nodesOf nd lf inn fill bl n := ⟨_, rfl⟩
  have HF := Lib.hid hf
  have hf' : (ni.2 == 0) = true := by rw [hni, beq_iff_eq]; exact hf
  have HNI := Lib.hid hni
  have HSS := Lib.hid hs
  have hn1 : 1 ≤ nd := hc.1
  have hn2 : nd ≤ 65536 := hc.2.1
  clear he hc hE hsm hni hf hs
  go_enter Try.func21, Try.ntmps21
  go_wp2_with (first | (go_at_call 11; refine (rconfig_any nd lf inn fill bl _).mono ?_; rintro e w1 ⟨rfl, hb1⟩; rw [HC.out]; have HB1 : Hid (Below w.heap.size w w1) := Lib.hid (((Below.refl _ _).alloc (Nat.le_refl _) _).trans (hb1.mono (by simp))); have HK1 := Lib.hid ((Blk.new w 23 #[.int .i64 nd, .int .i64 lf, .int .i64 inn, .int .i64 fill, .int .i64 bl]).below hb1); clear hb1) | (go_at_call 23; refine (rsorted_any A n c F l _ (HE.out.below HB1.out) hn (fun i e he => (HS.out e (List.mem_of_getElem? he)).1)).mono ?_; rintro e w2 ⟨rfl, hb2⟩; rw [HSS.out]; have HB2 : Hid (Below w.heap.size w w2) := Lib.hid (HB1.out.trans (hb2.mono HB1.out.size)); have HK2 := Lib.hid (HK1.out.below hb2); obtain ⟨z0, z1, z2, z3, z4⟩ := cf_of HK2.out; clear hb2) | (go_at_call 9; refine (rnodes_ok nd lf inn fill bl n _ HCF.out (by omega) (by omega)).mono ?_; rintro e w3 ⟨rfl, hb3⟩; rw [← HNI.out]; unfold nodesV; have HB3 : Hid (Below w.heap.size w w3) := Lib.hid (HB2.out.trans (hb3.mono HB2.out.size)); have HK3 := Lib.hid (HK2.out.below hb3); obtain ⟨z0, z1, z2, z3, z4⟩ := cf_of HK3.out; clear hb3) | (go_at_call 42; refine (rnew_ok nd hn1 hn2 _).mono ?_; rintro e w4 ⟨p, g, rfl, p1, p2, p3, p4, hb4⟩; have HB4 : Hid (Below w.heap.size w w4) := Lib.hid (HB3.out.trans (hb4.mono HB3.out.size)); have HK4 := Lib.hid (HK3.out.below hb4); obtain ⟨z0, z1, z2, z3, z4⟩ := cf_of HK4.out; have HP3 := Lib.hid p3; have HP4 := Lib.hid p4; have hs3 : w.heap.size ≤ w3.heap.size := HB3.out.size; have pc1 : w4.cell? ⟨p, 1, none⟩ = some (.slice (some ⟨g, 0, none⟩) 1 1) := (HP3.out.cell 1).trans rfl; have pcf := HP3.out.frozen; have hk3 : w.heap.size < w3.heap.size := HK3.out.lt; clear hb4 p3 p4))
  go_ret3
  refine ⟨p, rfl, ?_, HB4.out⟩
  refine ⟨_, 1, 1, Nat.le_trans hs3 p1, HP3.out, rfl, [.int .u64 0, .int .i64 0, .slice none 0 0, .int .i64 0, .slice none 0 0, .slice none 0 0, .slice none 0 0], ⟨rfl, fun _ => ⟨g, 0, rfl, Nat.le_trans hs3 p2, fun j u hj => by rw [Nat.zero_add, HP4.out.cell]; simpa using hj⟩⟩, fun i s hi => ?_⟩
  match i, hi with
  | 0, hi =>
    have : s = (0, Nd.zero) := by simpa using hi.symm
    subst this
    exact ⟨none, 0, 0, none, 0, 0, none, 0, 0, none, 0, 0, rfl, Bt.nil _ _, Tx.nil _ _, Tx.nil _ _, It.nil _ _⟩
  | i + 1, hi => simp at hi

set_option maxRecDepth 100000 in
set_option maxHeartbeats 4000000 in
theorem rbuild_cons (nd lf bl : Int) (inn fill : Nat) (A : Option Addr) (n c : Nat) (F : Nat → Prop) (l : List Ent) (w : World) (hE : Ents w F A n l) (hnc : n ≤ c) (hcm : c ≤ maxLen) (hn : n ≤ 1152921504606) (hpos : 0 < n) (hsm : ∀ e ∈ l, e.1.length ≤ 1152921504606 ∧ e.2.length ≤ 1152921504606) (hc : cfgOk nd lf inn fill bl) (hs : sortedOf l = (0, 0)) (hf : (nodesOf nd lf inn fill bl n).2 = 0) :
    Calls Try.prog 21 #[.agg #[.int .i64 nd, .int .i64 lf, .int .i64 inn, .int .i64 fill, .int .i64 bl], .slice A n c] w (BuiltR w nd (rtreeOf fill inn l)) := by
  have hz : ((n : Int) == 0) = false := by rw [beq_eq_false_iff_ne]; omega
  have hfi : 1 ≤ fill ∧ fill ≤ 64 ∧ 3 ≤ inn ∧ inn ≤ 64 := by have := hc; unfold cfgOk at this; omega
  have he := cfgE_ok hc
  have HC := Lib.hid he
  have HCF := Lib.hid hc
  have HE := Lib.hid hE
  have HS := Lib.hid hsm
  obtain ⟨ni, hni⟩ : ∃ x, x = nodesOf nd lf inn fill bl n := ⟨_, rfl⟩
  have HF := Lib.hid hf
  have hf' : (ni.2 == 0) = true := by rw [hni, beq_iff_eq]; exact hf
  have HNI := Lib.hid hni
  have HSS := Lib.hid hs
  have hn1 : 1 ≤ nd := hc.1
  have hn2 : nd ≤ 65536 := hc.2.1
  clear he hc hE hsm hni hf hs
  go_enter Try.func21, Try.ntmps21
  go_wp2_with (first | (go_at_call 11; refine (rconfig_any nd lf inn fill bl _).mono ?_; rintro e w1 ⟨rfl, hb1⟩; rw [HC.out]; have HB1 : Hid (Below w.heap.size w w1) := Lib.hid (((Below.refl _ _).alloc (Nat.le_refl _) _).trans (hb1.mono (by simp))); have HK1 := Lib.hid ((Blk.new w 23 #[.int .i64 nd, .int .i64 lf, .int .i64 inn, .int .i64 fill, .int .i64 bl]).below hb1); clear hb1) | (go_at_call 23; refine (rsorted_any A n c F l _ (HE.out.below HB1.out) hn (fun i e he => (HS.out e (List.mem_of_getElem? he)).1)).mono ?_; rintro e w2 ⟨rfl, hb2⟩; rw [HSS.out]; have HB2 : Hid (Below w.heap.size w w2) := Lib.hid (HB1.out.trans (hb2.mono HB1.out.size)); have HK2 := Lib.hid (HK1.out.below hb2); obtain ⟨z0, z1, z2, z3, z4⟩ := cf_of HK2.out; clear hb2) | (go_at_call 9; refine (rnodes_ok nd lf inn fill bl n _ HCF.out (by omega) (by omega)).mono ?_; rintro e w3 ⟨rfl, hb3⟩; rw [← HNI.out]; unfold nodesV; have HB3 : Hid (Below w.heap.size w w3) := Lib.hid (HB2.out.trans (hb3.mono HB2.out.size)); have HK3 := Lib.hid (HK2.out.below hb3); obtain ⟨z0, z1, z2, z3, z4⟩ := cf_of HK3.out; clear hb3) | (go_at_call 42; refine (rnew_ok nd hn1 hn2 _).mono ?_; rintro e w4 ⟨p, g, rfl, p1, p2, p3, p4, hb4⟩; have HB4 : Hid (Below w.heap.size w w4) := Lib.hid (HB3.out.trans (hb4.mono HB3.out.size)); have HK4 := Lib.hid (HK3.out.below hb4); obtain ⟨z0, z1, z2, z3, z4⟩ := cf_of HK4.out; have HP3 := Lib.hid p3; have HP4 := Lib.hid p4; have hs3 : w.heap.size ≤ w3.heap.size := HB3.out.size; have pc1 : w4.cell? ⟨p, 1, none⟩ = some (.slice (some ⟨g, 0, none⟩) 1 1) := (HP3.out.cell 1).trans rfl; have pcf := HP3.out.frozen; have hk3 : w.heap.size < w3.heap.size := HK3.out.lt; clear hb4 p3 p4) | (go_at_call 43; have hE5 : Ents (w4.setCell ⟨p, 1, none⟩ (.slice none 0 0)) (fun b => F b ∧ b < w.heap.size) A n l := (HE.out.lt.below HB4.out).chg (Chg.set1 w4 p 1 _) (fun b hb e => by have e : b = p := e; have := hb.2; omega); go_loud (refine (rleaves_any nd lf bl inn fill A n c _ l _ hfi.1 hfi.2.1 hE5 hnc hcm hn hpos HS.out).mono ?_); rintro e w6 ⟨v, rfl, hlvl, hb6⟩; have HLV := Lib.hid hlvl; have HB6 := Lib.hid hb6; clear hlvl hb6 hE5))
  have hp0 : w.heap.size + 1 ≤ p := by omega
  have hsz5 : (w4.setCell ⟨p, 1, none⟩ (.slice none 0 0)).heap.size = w4.heap.size := by simp [World.setCell]
  have hp4 : p < w4.heap.size := HP3.out.lt
  have HBW : Hid (Below w.heap.size w w6) := Lib.hid ((HB4.out.setCell (p := ⟨p, 1, none⟩) (by show w.heap.size ≤ p; omega) _).trans (HB6.out.mono (by rw [hsz5]; exact HB4.out.size)))
  have HBP : Hid (Blk w6 p 83 #[.int .i64 nd, .slice none 0 0, .int .i64 1]) := Lib.hid ((HP3.out.set_ 1 (.slice none 0 0)).below HB6.out)
  have HKC : Hid (Blk w6 w.heap.size 23 #[.int .i64 nd, .int .i64 lf, .int .i64 inn, .int .i64 fill, .int .i64 bl]) := Lib.hid ((HK4.out.far (p := ⟨p, 1, none⟩) (by show w.heap.size ≠ p; omega) _).below HB6.out)
  have HLV0 : Hid ((lv nd inn 32 ((leavesN fill l).length : Int) (([] : List Slt).length : Int)).2 = 0) := Lib.hid (by
    have h1 := HF.out
    rw [nodesOf_ok HCF.out (by omega)] at h1
    have h2 : (leavesN fill l).length = pn l.length fill := by simp [leavesN]
    rw [h2, pn_cast _ _ hfi.1, ← HE.out.len]
    exact h1)
  have hw46 : w4.heap.size ≤ w6.heap.size := by have := HB6.out.size; omega
  obtain ⟨lus, lo, lb, ln⟩ := HLV.out
  obtain ⟨A6, c6, rfl, hc6, hm6⟩ := own_val lo
  have hpl1 : 1 ≤ (leavesN fill l).length := by have := pn_pos l.length fill hfi.1; simpa [leavesN] using this
  have hlne : l ≠ [] := fun e => by have := HE.out.len; rw [e] at this; simp at this; omega
  have HNE := Lib.hid hlne
  clear hlne
  have hup : ∀ y, y < w6.heap.size → (((F y ∧ y < w.heap.size) ∧ y < (w4.setCell ⟨p, 1, none⟩ (.slice none 0 0)).heap.size) ∨ (w4.setCell ⟨p, 1, none⟩ (.slice none 0 0)).heap.size ≤ y) → y ≠ p ∧ y < w6.heap.size := fun y hy h => ⟨by rw [hsz5] at h; rcases h with h | h; have := h.1.2; omega; omega, hy⟩
  have HLR : Hid (Rd w6 (fun y => y ≠ p ∧ y < w6.heap.size) 6 A6 (leavesN fill l).length lus) := Lib.hid ((rd_own_blk lo lb).and (by omega) hup)
  have HLN : Hid (Nds w6 (fun y => y ≠ p ∧ y < w6.heap.size) lus (leavesN fill l)) := Lib.hid (Nds.next ln (Chg.refl Nil _) (fun _ _ _ h => h) hup)
  clear hup lo lb ln
  have hbig : (Value.slice none 0 0).ownBlock = none := rfl
  go_loopg [11] 32 (fun g' lvv wr => ∃ (k : Nat) (lev : Int) (sl : List Slt) (out : Value) (us : List Value) (DL : Nat → Prop) (A' : Option Addr) (n' c' : Nat) (lus : List Value) (lvl : List Nd), g' = k ∧ lvv = .slice A' n' c' ∧ ArB wr (w.heap.size + 1) p nd sl out us ∧ Rd wr DL 6 A' n' lus ∧ Nds wr DL lus lvl ∧ Hid (lvl.length = n') ∧ (1 ≤ n' ∧ n' ≤ c' ∧ c' ≤ maxLen) ∧ (∀ y, DL y → y ≠ p ∧ out.ownBlock ≠ some y ∧ y < wr.heap.size) ∧ (lv nd inn k (n' : Int) (sl.length : Int)).2 = 0 ∧ rups inn k lev sl lvl = rtreeOf fill inn l ∧ (∀ s ∈ lvl, Small s) ∧ (∀ s, lvl[0]? = some s → s.lev = lev) ∧ (0 ≤ lev ∧ lev + (k : Int) = 32) ∧ Below w.heap.size w wr ∧ Blk wr w.heap.size 23 #[.int .i64 nd, .int .i64 lf, .int .i64 inn, .int .i64 fill, .int .i64 bl])
  case atStart => exact ⟨32, 0, [], .slice none 0 0, [], _, A6, _, c6, lus, leavesN fill l, rfl, rfl, ⟨HBP.out, World.ownsRow_nil _ _ _ _, fun i s h => by simp at h⟩, HLR.out, HLN.out, rfl, ⟨by omega, hc6, hm6⟩, fun y hy => ⟨hy.1, by simp [Value.ownBlock], hy.2⟩, HLV0.out, (by rw [rtreeOf, if_neg HNE.out]), (fun s hs => by obtain ⟨i, _, rfl⟩ := List.mem_map.1 hs; exact small_leafN hfi.2.1 HS.out i), (fun s hs => by unfold leavesN at hs; rw [List.getElem?_map] at hs; rcases h : (List.range (pn l.length fill))[0]? with _ | x; rw [h] at hs; simp at hs; rw [h] at hs; have hs : leafN fill l x = s := (by simpa using hs); subst hs; rfl), ⟨by omega, by omega⟩, HBW.out, HKC.out⟩
  case round =>
    obtain ⟨k, lev, sl, out, us, DL, A', n', c', lus', lvl, hg, rfl, hab, hrd, hnd, hll, hnn, hdl, hlv, hru, hsl, hle, hlk, hbw, hkc⟩ := hrel
    rename World => wr
    have HAB := Lib.hid hab
    have HRD := Lib.hid hrd
    have HND := Lib.hid hnd
    have HDL := Lib.hid hdl
    have HLV2 := Lib.hid hlv
    have HRU := Lib.hid hru
    have HSL := Lib.hid hsl
    have HLE := Lib.hid hle
    have HBWr := Lib.hid hbw
    have HKCr := Lib.hid hkc
    have HG := Lib.hid hg
    clear hab hrd hnd hdl hlv hru hsl hle hbw hkc hg HLR HLN HBP HKC HLV0 HLV HBW HB6 HP3 HP4 HK1 HK2 HK3 HK4 HB1 HB2 HB3 HB4
    obtain ⟨kk, rfl⟩ : ∃ kk, k = kk + 1 := by
      cases k with
      | zero => have := HLV2.out; simp [lv] at this
      | succ kk => exact ⟨kk, rfl⟩
    have hfit : ¬ nd - (sl.length : Int) < (n' : Int) := by
      intro hx
      have := HLV2.out
      rw [lv_full hx] at this
      simp at this
    have hslen : sl.length + n' ≤ 65536 := by omega
    obtain ⟨A3, c3, rfl, hc3, hm3⟩ := own_val HAB.out.own
    have pc1 : wr.cell? ⟨p, 1, none⟩ = some (.slice A3 sl.length c3) := (HAB.out.blk.cell 1).trans rfl
    have hw1 := IntWalk.i64_in ((sl.length : Int) + 1) (by omega)
    have hbase : w.heap.size + 1 ≤ wr.heap.size := by have := HKCr.out.lt; omega
    obtain ⟨b, o, _, _, _, _, rfl, _⟩ := node_at HRD.out HND.out (by have := hll.out; omega) hnn.1
    clear hfit
    go_wp2
    refine rb_in (w.heap.size + 1) p b o n' c' nd ((sl.length : Int) + 1) sl (.slice A3 sl.length c3) us lus' DL lvl wr _ (Lib.hid (fun _ _ _ _ h => h)) HAB hslen hbase HRD HND hll HDL (by omega) HSL ?_
    intro v14 v60 v61 v62 v63 v64 v65 v66 v67 v68 v69 v70 v71 v72 v73 v74 v75 v76 v77 v78 v79 v80 v81 v82 v83 v84 v85 v86 v87 v88 v89 v90 v91 v92 out' us'' w7 hab7 hch7 hat7
    have HAB7 := Lib.hid hab7
    have HCH7 := Lib.hid hch7
    have hdis : ∀ y, DL y → ¬ (y = p ∨ (Value.slice A3 sl.length c3).ownBlock = some y) := fun y hy h => h.elim (HDL.out y hy).1 (HDL.out y hy).2.1
    have HRD7 := Lib.hid (HRD.out.chg hch7 hdis)
    have HND7 := Lib.hid (HND.out.next hch7 (fun y _ hy => hdis y hy) (fun _ _ h => h))
    have HAT7 := Lib.hid hat7
    have hgo : ∀ y, (Value.slice A3 sl.length c3).ownBlock = some y → w.heap.size + 1 ≤ y := fun y hy => (own_lt HAB.out.own y hy).1
    have HB7 : Hid (Below w.heap.size w w7) := Lib.hid (HBWr.out.trans (hch7.below_of HBWr.out.size (fun y hy h => h.elim (fun h => by omega) (fun h => by have := hgo y h; omega))))
    have HK7 : Hid (Blk w7 w.heap.size 23 #[.int .i64 nd, .int .i64 lf, .int .i64 inn, .int .i64 fill, .int .i64 bl]) := Lib.hid (HKCr.out.chg hch7 (fun h => h.elim (fun h => by omega) (fun h => by have := hgo _ h; omega)))
    have hw7 : wr.heap.size ≤ w7.heap.size := hch7.size
    have HL7 : Hid ((sl ++ (List.range n').map (slotN lvl ((sl.length : Int) + 1))).length = sl.length + n') := Lib.hid (by simp)
    clear hab7 hch7 hat7 hdis hgo pc1
    by_cases hone : n' = 1
    · have h1 : ((n' : Int) == 1) = true := by rw [beq_iff_eq]; omega
      have pc2 : w7.cell? ⟨p, 2, none⟩ = some (.int .i64 1) := (HAB7.out.blk.cell 2).trans rfl
      have pcf := HAB7.out.blk.frozen
      have HON := Lib.hid hone
      clear hone
      go_wp2
      go_ret3
      have hd := HAB7.out.done (by omega) ((sl.length : Int) + 1)
      have hr : rtreeOf fill inn l = (sl ++ (List.range n').map (slotN lvl ((sl.length : Int) + 1)), (sl.length : Int) + 1) := by
        rw [← HRU.out, rups, if_pos (by rw [hll.out]; exact HON.out), hll.out]
      refine ⟨p, rfl, ?_, HB7.out.setCell (p := ⟨p, 2, none⟩) (by show w.heap.size ≤ p; omega) _⟩
      rw [hr]
      exact hd.weak (fun y hy => by simp only [From] at hy ⊢; omega)
    · have h1 : ((n' : Int) == 1) = false := by rw [beq_eq_false_iff_ne]; omega
      obtain ⟨z0, z1, z2, z3, z4⟩ := cf_of HK7.out
      have HON := Lib.hid hone
      clear hone
      go_wp2_with (go_at_call 45; go_loud (refine (rabove_any nd lf bl fill inn (some ⟨b, o, none⟩) n' c' DL lus' lvl ((sl.length : Int) + 1) lev _ (by omega) (by omega) HRD7.out HND7.out hll hnn.2.1 hnn.2.2 (by omega) (by omega) (by omega) (Lib.hid HLE.out) (by omega)).mono ?_); rintro e w8 ⟨v, rfl, hlvl, hb8⟩; have HLV8 := Lib.hid hlvl; have HB8 := Lib.hid hb8; clear hlvl hb8)
      obtain ⟨lus8, lo, lb, ln⟩ := HLV8.out
      rw [List.length_map, List.length_range] at lo
      obtain ⟨A8, c8, rfl, hc8, hm8⟩ := own_val lo
      have hpp := pn_pos n' inn (by omega)
      have hup : ∀ y, y < w8.heap.size → ((DL y ∧ y < w7.heap.size) ∨ w7.heap.size ≤ y) → (y ≠ p ∧ out'.ownBlock ≠ some y ∧ y < w8.heap.size) := fun y hy h => by
        refine ⟨fun e => ?_, fun e => ?_, hy⟩
        · subst e
          rcases h with h | h
          · exact (HDL.out y h.1).1 rfl
          · have := HAB7.out.blk.lt; omega
        · rcases h with h | h
          · rcases HAT7.out with e' | ⟨z, hz, e'⟩
            · exact (HDL.out y h.1).2.1 (e' ▸ e)
            · rw [e'] at e
              injection e with e
              have := (HDL.out y h.1).2.2
              omega
          · have := (own_lt HAB7.out.own y e).2; omega
      have hrd8 : Rd w8 (fun y => y ≠ p ∧ out'.ownBlock ≠ some y ∧ y < w8.heap.size) 6 A8 (pn n' inn) lus8 := (rd_own_blk lo lb).and (by omega) hup
      have hnd8 : Nds w8 (fun y => y ≠ p ∧ out'.ownBlock ≠ some y ∧ y < w8.heap.size) lus8 ((List.range (pn n' inn)).map (aboveN inn (lev + 1) lvl ((sl.length : Int) + 1))) := Nds.next ln (Chg.refl Nil _) (fun _ _ _ h => h) hup
      go_roundg kk
      case measure => have := HG.out; omega
      case rel =>
        refine ⟨kk, lev + 1, _, out', us'', _, A8, pn n' inn, c8, lus8, _, rfl, rfl, HAB7.out.below HB8.out, hrd8, hnd8, Lib.hid (by simp), ⟨hpp, hc8, hm8⟩, fun y hy => hy, ?_, ?_, ?_, ?_, by omega, HB7.out.trans (HB8.out.mono HB7.out.size), HK7.out.below HB8.out⟩
        · have h := HLV2.out
          have hfit : ¬ nd - (sl.length : Int) < (n' : Int) := by
            intro hx
            rw [lv_full hx] at h
            simp at h
          rw [lv_step hfit (by have := HON.out; omega), ← pn_cast n' inn (by omega)] at h
          rw [HL7.out, Int.natCast_add]
          exact h
        · have h := HRU.out
          rw [rups, if_neg (by rw [hll.out]; exact HON.out), hll.out] at h
          exact h
        · intro s hs
          obtain ⟨i, _, rfl⟩ := List.mem_map.1 hs
          exact small_aboveN (by omega) HSL.out _ _ i
        · intro s hs
          rw [List.getElem?_map] at hs
          rcases h : (List.range (pn n' inn))[0]? with _ | x
          · rw [h] at hs; simp at hs
          · rw [h] at hs
            have hs : aboveN inn (lev + 1) lvl ((sl.length : Int) + 1) x = s := by simpa using hs
            subst hs
            rfl
end Go.Proofs.Ytgjphmlmndcaeaa
