/- WALKS: what is alike is found alike: texts, heads, bodies. WALKS: the kids of a level (shape.children): one kid's low is compared. WALKS: the kids of a level (shape.children): one node's kids. WALKS: the kids of a level (shape.children): where all is right. -/
import Derived.Test.YtgjphmlmndcaeaaPs16
import Derived.Laws.BytesArg
set_option linter.unusedVariables false
set_option linter.unusedSimpArgs false
namespace Go.Proofs.Ytgjphmlmndcaeaa
open Go.RowKit

/-- a text, as a string -/
def sOf (bs : List UInt8) : ByteArray := ⟨bs.toArray⟩
set_option maxRecDepth 100000 in
theorem conv_any (w : World) (F : Nat → Prop) (A : Option Addr) (n c : Nat) (bs : List UInt8) (h : Rd w F 1 A n (bvs bs)) (hn : n = bs.length) :
    (convert 41 9 (.slice A n c)).run Try.prog w = .ok (.string (sOf bs)) w := by
  cases A with
  | none =>
    have h0 : n = 0 := by
      rcases Nat.eq_zero_or_pos n with h0 | h0
      · exact h0
      · obtain ⟨_, _, e, _⟩ := h.2 h0; cases e
    subst h0
    have hb : bs = [] := List.eq_nil_of_length_eq_zero hn.symm
    subst hb
    exact run_convert_bytes_nil w 41 5 Try.underlying41 Try.underlying5 0 c _ Try.underlying9
  | some a =>
    rcases Nat.eq_zero_or_pos n with h0 | h0
    · subst h0
      have hb : bs = [] := List.eq_nil_of_length_eq_zero hn.symm
      subst hb
      rw [run_convert_bytes_string w 41 9 5 (some a) 0 c Try.underlying41 Try.underlying5 Try.underlying9]
      have hl : (loadCells a 0).run Try.prog w = .ok (([] : List Int).map (Value.int .u8)).toArray w := run_loadCells_list (P := Try.prog) w a [] (fun j v hj => by simp at hj)
      exact (run_bytesToString w a 0 c [] hl).trans (by rw [foldl_push_bytes]; simp only [sOf, ByteArray.empty, ByteArray.emptyWithCapacity]; congr 2)
    · obtain ⟨b, o, e, _, hc⟩ := h.2 h0
      injection e with e
      subst e
      have hk := run_convert_bytes_arg (P := Try.prog) w 41 5 Try.underlying41 Try.underlying5 b o n c (bs.map fun x => (x.toNat : Int)) (by simp [hn]) (fun i hi => by
        have hl : i < bs.length := by omega
        rw [hc i (bv bs[i]) (by simp [bvs, List.getElem?_eq_getElem hl])]
        simp [bv, List.getD, List.getElem?_eq_getElem hl]) _ Try.underlying9
      rw [hk]
      congr 2
      simp [strOfNums, sOf, Function.comp_def]

theorem sameTexts_eq (F G : Nat → Prop) (A B : Option Addr) (n c m d : Nat) (ts : List (List UInt8)) (w : World) (h : Tx w F A n c ts) (k : Tx w G B m d ts) (hn : n ≤ 1152921504606) :
    Calls Try.prog 101 #[.slice A n c, .slice B m d] w fun e w' => e = .returned (.bool true) ∧ Below w.heap.size w w' := by
  have e1 : n = m := by rw [h.len, k.len]
  subst e1
  have HH := Lib.hid h
  have HK := Lib.hid k
  clear h k
  go_enter Try.func101, Try.ntmps101
  go_wp2
  go_loopg [5] n (fun g i wr => ∃ (k : Nat), g = n - k ∧ k ≤ n ∧ i = .int .i64 k ∧ Below w.heap.size w wr)
  case atStart => exact ⟨0, by omega, by omega, rfl, Below.refl _ _⟩
  case round =>
    obtain ⟨k, hg, hk, rfl, hbl⟩ := hrel
    have HG := Lib.hid hg
    clear hg
    by_cases hlt : k < n
    · obtain ⟨b, o, Ak, nk, ck, t, rfl, _, ht, c1, h1, h2, h3, h4⟩ := (HH.out.below hbl).at_ hlt
      obtain ⟨b', o', Bk, mk, dk, t', rfl, _, ht', c2, k1, k2, k3, k4⟩ := (HK.out.below hbl).at_ hlt
      rw [ht] at ht'
      injection ht' with ht'
      subst ht'
      have q1 := fun (r : Nat) => conv_any (wr.drewN r) F Ak nk ck t (h4.drewN r) h3.out
      have q2 := fun (r : Nat) => conv_any (wr.drewN r) G Bk mk dk t (k4.drewN r) k3.out
      clear ht h4 k4
      go_wp2
      go_quiet (fail)
      go_wp2
      go_roundg (n - (k + 1))
      case measure => have := HG.out; omega
      case rel => exact ⟨k + 1, rfl, by omega, by go_num, below_drewN hbl _⟩
    · go_wp2
      go_ret
      exact ⟨rfl, hbl⟩

theorem sameHead_eq (F G : Nat → Prop) (A B : Option Addr) (n c m d : Nat) (high : List UInt8) (lev right : Int) (w : World) (h : Bt w F A n c high) (k : Bt w G B m d high) :
    Calls Try.prog 87 #[.agg #[.int .i64 lev, .slice A n c, .int .i64 right], .agg #[.int .i64 lev, .slice B m d, .int .i64 right]] w fun e w' => e = .returned (.bool true) ∧ Below w.heap.size w w' := by
  have b1 : Below w.heap.size w ((w.alloc (.cells #[.int .i64 lev, .slice A n c, .int .i64 right] 88)).alloc (.cells #[.int .i64 lev, .slice B m d, .int .i64 right] 88)) := ((Below.refl _ _).alloc (Nat.le_refl _) _).alloc (by simp) _
  have q1 := conv_any _ F A n c high (h.below b1).2.2.2 h.len
  have q2 := conv_any _ G B m d high (k.below b1).2.2.2 k.len
  clear h k
  go_enter Try.func87, Try.ntmps87
  go_wp2
  go_ret
  exact ⟨rfl, b1⟩

set_option maxRecDepth 100000 in
theorem sameBody_eq (F G : Nat → Prop) (A1 A2 A3 B1 B2 B3 : Option Addr) (n1 c1 n2 c2 n3 c3 m1 d1 m2 d2 m3 d3 : Nat) (keys vals : List (List UInt8)) (kids : List Int) (w : World)
    (h1 : Tx w F A1 n1 c1 keys) (h2 : Tx w F A2 n2 c2 vals) (h3 : It w F A3 n3 c3 kids) (k1 : Tx w G B1 m1 d1 keys) (k2 : Tx w G B2 m2 d2 vals) (k3 : It w G B3 m3 d3 kids) (l1 : n1 ≤ 1152921504606) (l2 : n2 ≤ 1152921504606) (l3 : n3 ≤ 1152921504606) :
    Calls Try.prog 88 #[.agg #[.slice A1 n1 c1, .slice A2 n2 c2, .slice A3 n3 c3], .agg #[.slice B1 m1 d1, .slice B2 m2 d2, .slice B3 m3 d3]] w fun e w' => e = .returned (.bool true) ∧ Below w.heap.size w w' := by
  have b1 : Below w.heap.size w ((w.alloc (.cells #[.slice A1 n1 c1, .slice A2 n2 c2, .slice A3 n3 c3] 91)).alloc (.cells #[.slice B1 m1 d1, .slice B2 m2 d2, .slice B3 m3 d3] 91)) := ((Below.refl _ _).alloc (Nat.le_refl _) _).alloc (by simp) _
  obtain ⟨u, hu⟩ : ∃ u, u = (w.alloc (.cells #[.slice A1 n1 c1, .slice A2 n2 c2, .slice A3 n3 c3] 91)).alloc (.cells #[.slice B1 m1 d1, .slice B2 m2 d2, .slice B3 m3 d3] 91) := ⟨_, rfl⟩
  rw [← hu] at b1
  have e3 : n3 = m3 := by rw [h3.len, k3.len]
  subst e3
  have H1 := Lib.hid (h1.below b1)
  have H2 := Lib.hid (h2.below b1)
  have H3 := Lib.hid (h3.below b1)
  have K1 := Lib.hid (k1.below b1)
  have K2 := Lib.hid (k2.below b1)
  have K3 := Lib.hid (k3.below b1)
  have B1' : Blk u w.heap.size 91 #[.slice A1 n1 c1, .slice A2 n2 c2, .slice A3 n3 c3] := by rw [hu]; exact (Blk.new _ _ _).alloc _
  have B2' : Blk u (w.heap.size + 1) 91 #[.slice B1 m1 d1, .slice B2 m2 d2, .slice B3 n3 d3] := by rw [hu]; simpa using Blk.new (w.alloc (.cells #[.slice A1 n1 c1, .slice A2 n2 c2, .slice A3 n3 c3] 91)) 91 #[.slice B1 m1 d1, .slice B2 m2 d2, .slice B3 n3 d3]
  have HB1 := Lib.hid B1'
  have HB2 := Lib.hid B2'
  clear h1 h2 h3 k1 k2 k3
  go_enter Try.func88, Try.ntmps88
  go_wp2_with (first | (go_at_call 101; rw [← hu]; refine (sameTexts_eq F G A1 B1 n1 c1 m1 d1 keys u H1.out K1.out l1).mono ?_; rintro e w1 ⟨rfl, hb1⟩; have x1 : w1.cell? ⟨w.heap.size, 1, none⟩ = some (.slice A2 n2 c2) := bkeep hb1 (by rw [HB1.out.cell]; rfl); have x2 : w1.cell? ⟨w.heap.size + 1, 1, none⟩ = some (.slice B2 m2 d2) := bkeep hb1 (by rw [HB2.out.cell]; rfl)) | (go_at_call 101; refine (sameTexts_eq F G A2 B2 n2 c2 m2 d2 vals _ (H2.out.below hb1) (K2.out.below hb1) l2).mono ?_; rintro e w2 ⟨rfl, hb2⟩; have hb12 := hb1.trans (hb2.mono hb1.size); have x3 : w2.cell? ⟨w.heap.size, 2, none⟩ = some (.slice A3 n3 c3) := bkeep hb12 (by rw [HB1.out.cell]; rfl); have x4 : w2.cell? ⟨w.heap.size + 1, 2, none⟩ = some (.slice B3 n3 d3) := bkeep hb12 (by rw [HB2.out.cell]; rfl)))
  go_loopg [7] n3 (fun g i wr => ∃ (k : Nat), g = n3 - k ∧ k ≤ n3 ∧ i = .int .i64 k ∧ Below w2.heap.size w2 wr)
  case atStart => exact ⟨0, by omega, by omega, rfl, Below.refl _ _⟩
  case round =>
    obtain ⟨k, hg, hk, rfl, hbl⟩ := hrel
    have HG := Lib.hid hg
    have y3 := bkeep hbl x3
    have y4 := bkeep hbl x4
    have hbl2 := hb12.trans (hbl.mono hb12.size)
    clear hg
    by_cases hlt : k < n3
    · obtain ⟨b, o, x, rfl, _, hx, p1⟩ := (H3.out.below hbl2).at_ hlt
      obtain ⟨b', o', x', rfl, _, hx', p2⟩ := (K3.out.below hbl2).at_ hlt
      rw [hx] at hx'
      injection hx' with hx'
      subst hx'
      clear hx
      go_wp2
      go_quiet (fail)
      go_wp2
      go_roundg (n3 - (k + 1))
      case measure => have := HG.out; omega
      case rel => exact ⟨k + 1, rfl, by omega, by go_num, below_drewN hbl _⟩
    · go_wp2
      go_ret
      exact ⟨rfl, b1.trans (hbl2.mono b1.size)⟩
end Go.Proofs.Ytgjphmlmndcaeaa

namespace Go.Proofs.Ytgjphmlmndcaeaa
open Go.RowKit Go.Maps
open Go.Lib (compareBytes)
theorem bytesEqual_same (F G : Nat → Prop) (A B : Option Addr) (n c m d : Nat) (bs : List UInt8) (w : World) (h : Bt w F A n c bs) (k : Bt w G B m d bs) :
    Calls Try.prog 97 #[.slice A n c, .slice B m d] w fun e w' => e = .returned (.bool true) ∧ w = w' := by
  have q1 := conv_any w F A n c bs h.2.2.2 h.len
  have q2 := conv_any w G B m d bs k.2.2.2 k.len
  clear h k
  go_enter Try.func97, Try.ntmps97
  go_wp2
  go_ret
  exact ⟨rfl, rfl⟩
noncomputable def chldC : Code := codeOr (Try.f77.body.bind (regionAt 16))
set_option maxRecDepth 100000 in
set_option maxHeartbeats 4000000 in
theorem child_low (D G : Nat → Prop) (A : Option Addr) (n c q j : Nat) (id : Int) (low : List UInt8) (l : List Lk) (k : Lk) (lA : Option Addr) (ln lc : Nat) (w : World) {u0 u2 u3 u4 u5 u6 u7 u10 u11 u13 u14 u15 u16 u17 u18 u19 u20 u21 u22 u23 u24 u25 u26 u27 u28 u29 u30 u31 u32 u33 u34 u35 u36 u37 u38 u39 u40 u41 u42 u43 u44 u45 u46 u47 u48 u49 u50 u51 u52 u53 u54 u55 u56 u57 u58 u59 u60 u61 u62 u63 u64 u65 u66 u67 u68 u69 u70 u71 u72 u73 u74 u75 : Value} (Q : Exit → Act → World → Prop) (HQP : Hid (∀ c t (a : Act) w, Q (.panic c) ⟨t, a.defers⟩ w → Q (.panic c) a w))
    (HL : Hid (Lks w D A n l)) (hj : j < n) (hn : n ≤ 1000000) (HK : Hid (l[j]? = some k)) (hlow : k.2.1 = low) (HB : Hid (Bt w G lA ln lc low)) (hq : w.cell? ⟨q, 0, none⟩ = some (.int .i64 id))
    (hexit : ∀ (v58 v59 v60 v61 v62 v63 v64 v65 v66 v67 v68 v69 v70 v71 v72 v73 : Value) (w' : World), Below w.heap.size w w' → Q .normal ⟨(u0 :: .slice A n c :: u2 :: u3 :: u4 :: u5 :: u6 :: u7 :: .pointer (some ⟨q, 0, none⟩) :: .slice lA ln lc :: u10 :: u11 :: .int .i64 ((j : Int) + 1) :: u13 :: u14 :: u15 :: u16 :: u17 :: u18 :: u19 :: u20 :: u21 :: u22 :: u23 :: u24 :: u25 :: u26 :: u27 :: u28 :: u29 :: u30 :: u31 :: u32 :: u33 :: u34 :: u35 :: u36 :: u37 :: u38 :: u39 :: u40 :: u41 :: u42 :: u43 :: u44 :: u45 :: u46 :: u47 :: u48 :: u49 :: u50 :: u51 :: u52 :: u53 :: u54 :: u55 :: u56 :: u57 :: v58 :: v59 :: v60 :: v61 :: v62 :: v63 :: v64 :: v65 :: v66 :: v67 :: v68 :: v69 :: v70 :: v71 :: v72 :: v73 :: u74 :: u75 :: []).toArray, []⟩ w') :
    Code.wp Try.prog chldC Q ⟨(u0 :: .slice A n c :: u2 :: u3 :: u4 :: u5 :: u6 :: u7 :: .pointer (some ⟨q, 0, none⟩) :: .slice lA ln lc :: u10 :: u11 :: .int .i64 ((j : Int) + 1) :: u13 :: u14 :: u15 :: u16 :: u17 :: u18 :: u19 :: u20 :: u21 :: u22 :: u23 :: u24 :: u25 :: u26 :: u27 :: u28 :: u29 :: u30 :: u31 :: u32 :: u33 :: u34 :: u35 :: u36 :: u37 :: u38 :: u39 :: u40 :: u41 :: u42 :: u43 :: u44 :: u45 :: u46 :: u47 :: u48 :: u49 :: u50 :: u51 :: u52 :: u53 :: u54 :: u55 :: u56 :: u57 :: u58 :: u59 :: u60 :: u61 :: u62 :: u63 :: u64 :: u65 :: u66 :: u67 :: u68 :: u69 :: u70 :: u71 :: u72 :: u73 :: u74 :: u75 :: []).toArray, []⟩ w := by
  obtain ⟨b, o, k', lB, hA, kA, vA, dA, lm, ld, hn', hc, kn, kc, vn, vc, dn, dc, rfl, _, hk', c0, c1, _, _, _, _, _, _, hb, _⟩ := HL.out.at_ hj
  have hkk : k' = k := by rw [HK.out] at hk'; injection hk' with hk'; exact hk'.symm
  subst hkk
  subst hlow
  have HBL := Lib.hid hb
  have HEX := Lib.hid hexit
  have h1 : max ((j : Int) + 1) 1 = (j : Int) + 1 := by omega
  have h2 := IntWalk.i64_in (j : Int) (by omega)
  have h5 : (j : Int) < (n : Int) := by omega
  have h6 : (0 : Int) < (j : Int) + 1 := by omega
  have S0 : w.drew.cell? ⟨b, o + j * 8 + 1, none⟩ = some (.slice lB lm ld) ∧ w.drew.cell? ⟨q, 0, none⟩ = some (.int .i64 id) := ⟨c1, hq⟩
  have HB1 := Lib.hid (HBL.out.below (Below.refl w.heap.size w).drew)
  have HB2 := Lib.hid (HB.out.below (Below.refl w.heap.size w).drew)
  clear hexit c0 c1 hk' hb hq
  conv => arg 2; whnf
  refine wp_region_V (fun w' => w'.cell? ⟨b, o + j * 8 + 1, none⟩ = some (.slice lB lm ld) ∧ w'.cell? ⟨q, 0, none⟩ = some (.int .i64 id)) (by kernel_rfl) ?_
  refine wpV_take (i := 0) (v := ?_) rfl (by kernel_rfl) (by kernel_rfl) (by kernel_rfl) (by first | exact fun _ _ _ h => h | exact fun c a w h => HQP.out c _ a w h) S0 (Or.inl ⟨by kernel_rfl, ?_⟩) ?_
  rotate_left
  · intro w hSw
    go_simp
    try with_reducible rfl
  try simp only [Act.put, List.setIfInBounds_toArray, List.set_cons_zero, List.set_cons_succ]
  refine wpV_take (i := 1) (v := ?_) rfl (by kernel_rfl) (by kernel_rfl) (by kernel_rfl) (by first | exact fun _ _ _ h => h | exact fun c a w h => HQP.out c _ a w h) S0 (Or.inl ⟨by kernel_rfl, ?_⟩) ?_
  rotate_left
  · intro w hSw
    go_simp
    try with_reducible rfl
  try simp only [Act.put, List.setIfInBounds_toArray, List.set_cons_zero, List.set_cons_succ]
  refine wpV_take (i := 2) (v := ?_) rfl (by kernel_rfl) (by kernel_rfl) (by kernel_rfl) (by first | exact fun _ _ _ h => h | exact fun c a w h => HQP.out c _ a w h) S0 (Or.inl ⟨by kernel_rfl, ?_⟩) ?_
  rotate_left
  · intro w hSw
    go_simp
    try with_reducible rfl
  try simp only [Act.put, List.setIfInBounds_toArray, List.set_cons_zero, List.set_cons_succ]
  refine wpV_take (i := 3) (v := ?_) rfl (by kernel_rfl) (by kernel_rfl) (by kernel_rfl) (by first | exact fun _ _ _ h => h | exact fun c a w h => HQP.out c _ a w h) S0 (Or.inl ⟨by kernel_rfl, ?_⟩) ?_
  rotate_left
  · intro w hSw
    go_simp
    try with_reducible rfl
  try simp only [Act.put, List.setIfInBounds_toArray, List.set_cons_zero, List.set_cons_succ]
  refine wpV_take (i := 4) (v := ?_) rfl (by kernel_rfl) (by kernel_rfl) (by kernel_rfl) (by first | exact fun _ _ _ h => h | exact fun c a w h => HQP.out c _ a w h) S0 (Or.inl ⟨by kernel_rfl, ?_⟩) ?_
  rotate_left
  · intro w hSw
    go_simp
    try with_reducible rfl
  try simp only [Act.put, List.setIfInBounds_toArray, List.set_cons_zero, List.set_cons_succ]
  refine wpV_take (i := 5) (v := ?_) rfl (by kernel_rfl) (by kernel_rfl) (by kernel_rfl) (by first | exact fun _ _ _ h => h | exact fun c a w h => HQP.out c _ a w h) S0 (Or.inl ⟨by kernel_rfl, ?_⟩) ?_
  rotate_left
  · intro w hSw
    go_simp
    try with_reducible rfl
  try simp only [Act.put, List.setIfInBounds_toArray, List.set_cons_zero, List.set_cons_succ]
  refine wpV_take (i := 6) (v := ?_) rfl (by kernel_rfl) (by kernel_rfl) (by kernel_rfl) (by first | exact fun _ _ _ h => h | exact fun c a w h => HQP.out c _ a w h) S0 (Or.inl ⟨by kernel_rfl, ?_⟩) ?_
  rotate_left
  · intro w hSw
    go_simp
    try with_reducible rfl
  try simp only [Act.put, List.setIfInBounds_toArray, List.set_cons_zero, List.set_cons_succ]
  refine wpV_take (i := 7) (v := ?_) rfl (by kernel_rfl) (by kernel_rfl) (by kernel_rfl) (by first | exact fun _ _ _ h => h | exact fun c a w h => HQP.out c _ a w h) S0 (Or.inl ⟨by kernel_rfl, ?_⟩) ?_
  rotate_left
  · intro w hSw
    go_simp
    try with_reducible rfl
  try simp only [Act.put, List.setIfInBounds_toArray, List.set_cons_zero, List.set_cons_succ]
  refine wpV_take (i := 8) (v := ?_) rfl (by kernel_rfl) (by kernel_rfl) (by kernel_rfl) (by first | exact fun _ _ _ h => h | exact fun c a w h => HQP.out c _ a w h) S0 (Or.inl ⟨by kernel_rfl, ?_⟩) ?_
  rotate_left
  · intro w hSw
    go_simp
    try with_reducible rfl
  try simp only [Act.put, List.setIfInBounds_toArray, List.set_cons_zero, List.set_cons_succ]
  refine wpV_take (i := 10) (v := ?_) rfl (by kernel_rfl) (by kernel_rfl) (by kernel_rfl) (by first | exact fun _ _ _ h => h | exact fun c a w h => HQP.out c _ a w h) S0 (Or.inl ⟨by kernel_rfl, ?_⟩) ?_
  rotate_left
  · intro w hSw
    go_simp
    try with_reducible rfl
  try simp only [Act.put, List.setIfInBounds_toArray, List.set_cons_zero, List.set_cons_succ]
  refine wpV_take (i := 13) (v := ?_) rfl (by kernel_rfl) (by kernel_rfl) (by kernel_rfl) (by first | exact fun _ _ _ h => h | exact fun c a w h => HQP.out c _ a w h) S0 (Or.inl ⟨by kernel_rfl, ?_⟩) ?_
  rotate_left
  · intro w hSw
    go_simp
    try with_reducible rfl
  try simp only [Act.put, List.setIfInBounds_toArray, List.set_cons_zero, List.set_cons_succ]
  refine wpV_take (i := 9) (v := ?_) rfl (by kernel_rfl) (by kernel_rfl) (by kernel_rfl) (by first | exact fun _ _ _ h => h | exact fun c a w h => HQP.out c _ a w h) S0 (Or.inl ⟨by kernel_rfl, ?_⟩) ?_
  rotate_left
  · intro w hSw
    obtain ⟨s0, s1⟩ := hSw
    go_simp
    try with_reducible rfl
  try simp only [Act.put, List.setIfInBounds_toArray, List.set_cons_zero, List.set_cons_succ]
  refine wpV_take (i := 14) (v := ?_) rfl (by kernel_rfl) (by kernel_rfl) (by kernel_rfl) (by first | exact fun _ _ _ h => h | exact fun c a w h => HQP.out c _ a w h) S0 (Or.inl ⟨by kernel_rfl, ?_⟩) ?_
  rotate_left
  · intro w hSw
    obtain ⟨s0, s1⟩ := hSw
    go_simp
    try with_reducible rfl
  try simp only [Act.put, List.setIfInBounds_toArray, List.set_cons_zero, List.set_cons_succ]
  refine wpV_one (i := 11) (by kernel_rfl) rfl (fun K hK => ?_)
  go_simp
  refine (bytesEqual_same D G lB lA lm ld ln lc _ _ HB1.out HB2.out).mono ?_; rintro e w' ⟨rfl, rfl⟩
  refine hK.out _ _ S0 ?_
  clear hK K
  try simp only [Act.put, List.setIfInBounds_toArray, List.set_cons_zero, List.set_cons_succ]
  refine wpV_take (i := 12) (v := ?_) rfl (by kernel_rfl) (by kernel_rfl) (by kernel_rfl) (by first | exact fun _ _ _ h => h | exact fun c a w h => HQP.out c _ a w h) S0 (Or.inl ⟨by kernel_rfl, ?_⟩) ?_
  rotate_left
  · intro w hSw
    go_simp
    try with_reducible rfl
  try simp only [Act.put, List.setIfInBounds_toArray, List.set_cons_zero, List.set_cons_succ]
  refine wpV_one (i := 15) (by kernel_rfl) rfl (fun K hK => ?_)
  go_simp
  refine (need_true _ _ _).mono ?_; rintro e w' ⟨rfl, rfl⟩
  refine hK.out _ _ S0 ?_
  clear hK K
  try simp only [Act.put, List.setIfInBounds_toArray, List.set_cons_zero, List.set_cons_succ]
  refine wpV_done (by kernel_rfl) ?_ _
  exact HEX.out _ _ _ _ _ _ _ _ _ _ _ _ _ _ _ _ _ (Below.refl _ _).drew
end Go.Proofs.Ytgjphmlmndcaeaa

namespace Go.Proofs.Ytgjphmlmndcaeaa
open Go.RowKit Go.Maps
open Go.Lib (compareBytes)
/-- each kid of a node is a node of the level below, with the low that leads to it -/
def KidOk (m dd : Nat) (Xd : Nat → Nd) (low0 : List UInt8) (x : Nd) : Prop := ∀ (c : Nat) (kid : Int), x.kids[c]? = some kid → ∃ j, j < m ∧ kid = (dd : Int) + (j : Int) + 1 ∧ (c = 0 → low0 = lowOf (fun t => (Xd t).high) j) ∧ (c ≠ 0 → x.keys[c - 1]? = some (lowOf (fun t => (Xd t).high) j))
theorem lk_some {d M j : Nat} {X : Nat → Nd} (h : j < M) : ((List.range M).map (lkAt d X))[j]? = some (lkAt d X j) := by rw [List.getElem?_map, List.getElem?_range h]; rfl
noncomputable def chldIn : Code := codeOr (Try.f77.body.bind (blockIn 4))
set_option maxRecDepth 100000 in
set_option maxHeartbeats 4000000 in
theorem child_kids (G E : Nat → Prop) (B : Option Addr) (m e0 mb cnt q dd : Nat) (id : Int) (low0 : List UInt8) (x : Nd) (Xd : Nat → Nd) (lA hA kA vA dA : Option Addr) (ln lc hn hc kn kc vn vc dn dc : Nat) (w : World) {u0 u2 u3 u5 u6 u7 u10 u11 u12 u13 u14 u15 u16 u17 u18 u19 u20 u21 u22 u23 u24 u25 u26 u27 u28 u29 u30 u31 u32 u33 u34 u35 u36 u37 u41 u42 u43 u44 u45 u46 u47 u48 u49 u50 u51 u52 u53 u54 u55 u56 u57 u58 u59 u60 u61 u62 u63 u64 u65 u66 u67 u68 u69 u70 u71 u72 u73 u74 u75 : Value} (Q : Exit → Act → World → Prop) (HQP : Hid (∀ c t (a : Act) w, Q (.panic c) ⟨t, a.defers⟩ w → Q (.panic c) a w))
    (HD : Hid (Lks w G B m ((List.range m).map (lkAt dd Xd)))) (HK : Hid (KidOk m dd Xd low0 x)) (HQ : Hid (Blk w q 106 #[.int .i64 id, .slice lA ln lc, .int .i64 x.lev, .slice hA hn hc, .int .i64 x.right, .slice kA kn kc, .slice vA vn vc, .slice dA dn dc]))
    (HL : Hid (Bt w E lA ln lc low0)) (HV : Hid (NdV w E x hA kA vA dA hn hc kn kc vn vc dn dc)) (HM : Hid (MapII w mb cnt (fun k => if (dd : Int) + 1 ≤ k ∧ k ≤ (dd : Int) + (m : Int) then k - (dd : Int) else 0))) (hm : m ≤ 100000) (hdd : dd ≤ 100000) (hdn : dn ≤ 1000)
    (hexit : ∀ (v9 v10 v11 v12 v40 v41 v42 v43 v44 v45 v46 v47 v48 v49 v50 v51 v52 v53 v54 v55 v56 v57 v58 v59 v60 v61 v62 v63 v64 v65 v66 v67 v68 v69 v70 v71 v72 v73 v74 : Value) (w' : World), Below w.heap.size w w' → Q (.exit 4) ⟨(u0 :: .slice B m e0 :: u2 :: u3 :: .map (some mb) :: u5 :: u6 :: u7 :: .pointer (some ⟨q, 0, none⟩) :: v9 :: v10 :: v11 :: v12 :: u13 :: u14 :: u15 :: u16 :: u17 :: u18 :: u19 :: u20 :: u21 :: u22 :: u23 :: u24 :: u25 :: u26 :: u27 :: u28 :: u29 :: u30 :: u31 :: u32 :: u33 :: u34 :: u35 :: u36 :: u37 :: .slice dA dn dc :: .int .i64 dn :: v40 :: v41 :: v42 :: v43 :: v44 :: v45 :: v46 :: v47 :: v48 :: v49 :: v50 :: v51 :: v52 :: v53 :: v54 :: v55 :: v56 :: v57 :: v58 :: v59 :: v60 :: v61 :: v62 :: v63 :: v64 :: v65 :: v66 :: v67 :: v68 :: v69 :: v70 :: v71 :: v72 :: v73 :: v74 :: u75 :: []).toArray, []⟩ w') :
    Code.wp Try.prog chldIn Q ⟨(u0 :: .slice B m e0 :: u2 :: u3 :: .map (some mb) :: u5 :: u6 :: u7 :: .pointer (some ⟨q, 0, none⟩) :: .slice lA ln lc :: u10 :: u11 :: u12 :: u13 :: u14 :: u15 :: u16 :: u17 :: u18 :: u19 :: u20 :: u21 :: u22 :: u23 :: u24 :: u25 :: u26 :: u27 :: u28 :: u29 :: u30 :: u31 :: u32 :: u33 :: u34 :: u35 :: u36 :: u37 :: .slice dA dn dc :: .int .i64 dn :: .int .i64 0 :: u41 :: u42 :: u43 :: u44 :: u45 :: u46 :: u47 :: u48 :: u49 :: u50 :: u51 :: u52 :: u53 :: u54 :: u55 :: u56 :: u57 :: u58 :: u59 :: u60 :: u61 :: u62 :: u63 :: u64 :: u65 :: u66 :: u67 :: u68 :: u69 :: u70 :: u71 :: u72 :: u73 :: u74 :: u75 :: []).toArray, []⟩ w := by
  have HEX := Lib.hid hexit
  clear hexit
  conv => arg 2; whnf
  go_loopg [9, 40] dn (fun g' lowv iv wr => ∃ (c : Nat) (lA' : Option Addr) (ln' lc' : Nat), g' = dn - c ∧ c ≤ dn ∧ iv = .int .i64 c ∧ lowv = .slice lA' ln' lc' ∧ Hid (c = 0 → Bt wr E lA' ln' lc' low0) ∧ Below w.heap.size w wr)
  case atStart => exact ⟨0, lA, ln, lc, by omega, by omega, rfl, rfl, Lib.hid (fun _ => HL.out), Below.refl _ _⟩
  case round =>
    obtain ⟨c, lA', ln', lc', hg, hc0, rfl, rfl, hlow, hb⟩ := hrel
    have HG := Lib.hid hg
    have HLW := Lib.hid hlow.out
    have HB := Lib.hid hb
    rename World => wr
    clear hg hlow hb
    by_cases hlt : c < dn
    · have hlt' : (c : Int) < (dn : Int) := by omega
      obtain ⟨b, o, kid, rfl, _, he, c1'⟩ := HV.out.d.at_ (k := c) hlt
      have c1 := bkeep HB.out c1'
      obtain ⟨j, hj, hkid, hk0, hk1⟩ := HK.out c kid he
      have HJ0 := Lib.hid hk0
      have HJ1 := Lib.hid hk1
      have hl : (Instr.lookup 107 (.map (some mb)) (.int .i64 kid) false).run Try.prog wr = .ok (.int .i64 ((j : Int) + 1)) wr := by
        have := (HM.out.below HB.out).look (k := kid) (by omega) (by omega)
        have e : (if (dd : Int) + 1 ≤ kid ∧ kid ≤ (dd : Int) + (m : Int) then kid - (dd : Int) else 0) = (j : Int) + 1 := by rw [if_pos (by omega)]; omega
        rw [e] at this
        exact this
      have HQ1 := Lib.hid (HQ.out.below HB.out)
      have x0 := HQ1.out.cell 0
      have x5 := HQ1.out.cell 5
      have HLD : Hid (((List.range m).map (lkAt dd Xd))[j]? = some (lkAt dd Xd j)) := Lib.hid (lk_some hj)
      clear c1' he hk0 hk1 hkid
      by_cases h0 : c = 0
      · subst h0
        rw [Nat.add_zero] at c1
        have hp0 : ¬ (0 : Int) < ((0 : Nat) : Int) := by omega
        have HBT := Lib.hid (HLW.out rfl)
        have HJJ := Lib.hid (HJ0.out rfl).symm
        clear HJ0 HJ1
        go_upto_region 16 with fail
        refine child_low G E B m e0 q j id low0 _ (lkAt dd Xd j) lA' ln' lc' wr _ (by exact Lib.hid (fun c t a w h => HQP.out c t a w h)) (Lib.hid (HD.out.below HB.out)) hj (by omega) HLD HJJ.out HBT x0 ?_
        intro v58 v59 v60 v61 v62 v63 v64 v65 v66 v67 v68 v69 v70 v71 v72 v73 w' hb'
        have HB' := Lib.hid (HB.out.trans (hb'.mono HB.out.size))
        clear hb'
        go_wp2
        go_roundg (dn - (0 + 1))
        case measure => have := HG.out; omega
        case rel => exact ⟨0 + 1, _, _, _, rfl, by omega, by go_num, rfl, Lib.hid (fun h => absurd h (by omega)), HB'.out⟩
      · have hp0 : (0 : Int) < (c : Int) := by omega
        have hkey := HJ1.out h0
        have hck : c - 1 < kn := by rw [HV.out.k.len]; exact (List.getElem?_eq_some_iff.1 hkey).1
        obtain ⟨b2, o2, Ak, nk, ck, t, rfl, _, ht, d1', q1, q2, q3, q4⟩ := HV.out.k.at_ (k := c - 1) hck
        have htt : t = lowOf (fun t => (Xd t).high) j := by rw [ht] at hkey; injection hkey
        have d1 := bkeep HB.out d1'
        have HBT : Hid (Bt wr E Ak nk ck t) := Lib.hid ⟨q1, q2, q3, q4.below HB.out⟩
        have hw1 := IntWalk.i64_in ((c : Int) - 1) (by omega)
        have hw2 : 0 ≤ (c : Int) - 1 := by omega
        have hw3 : (c : Int) - 1 < (kn : Int) := by omega
        have hw4 : ((c : Int) - 1).toNat = c - 1 := by omega
        have HTT := Lib.hid htt
        clear hkey ht d1' q1 q2 q3 q4 HJ0 HJ1 htt
        go_upto_region 16 with fail
        refine child_low G E B m e0 q j id t _ (lkAt dd Xd j) Ak nk ck wr _ (by exact Lib.hid (fun c t a w h => HQP.out c t a w h)) (Lib.hid (HD.out.below HB.out)) hj (by omega) HLD HTT.out.symm HBT x0 ?_
        intro v58 v59 v60 v61 v62 v63 v64 v65 v66 v67 v68 v69 v70 v71 v72 v73 w' hb'
        have HB' := Lib.hid (HB.out.trans (hb'.mono HB.out.size))
        clear hb'
        go_wp2
        go_roundg (dn - (c + 1))
        case measure => have := HG.out; omega
        case rel => exact ⟨c + 1, _, _, _, rfl, by omega, by go_num, rfl, Lib.hid (fun h => absurd h (by omega)), HB'.out⟩
    · have hlt' : ¬ (c : Int) < (dn : Int) := by omega
      obtain rfl : c = dn := by omega
      go_wp2
      exact HEX.out _ _ _ _ _ _ _ _ _ _ _ _ _ _ _ _ _ _ _ _ _ _ _ _ _ _ _ _ _ _ _ _ _ _ _ _ _ _ _ _ HB.out
end Go.Proofs.Ytgjphmlmndcaeaa

namespace Go.Proofs.Ytgjphmlmndcaeaa
open Go.RowKit Go.Maps
open Go.Lib (compareBytes)
/-- each kid of the upper nodes is a node of the level below, with the low that leads to it -/
def KidsOk (Mu Md dd : Nat) (Xu Xd : Nat → Nd) : Prop := ∀ i, i < Mu → KidOk Md dd Xd (lowOf (fun t => (Xu t).high) i) (Xu i)
set_option maxRecDepth 100000 in
set_option maxHeartbeats 4000000 in
theorem children_any (D G : Nat → Prop) (A B : Option Addr) (n c m e0 du dd : Nat) (Xu Xd : Nat → Nd) (w : World) (hu : Lks w D A n ((List.range n).map (lkAt du Xu))) (hd : Lks w G B m ((List.range m).map (lkAt dd Xd))) (hk : KidsOk n m dd Xu Xd) (hn : n ≤ 100000) (hm : m ≤ 100000) (hdd : dd ≤ 100000)
    (hkl : ∀ i, i < n → (Xu i).kids.length ≤ 1000) :
    Calls Try.prog 77 #[.slice A n c, .slice B m e0] w fun e w' => e = .returned (.tuple #[]) ∧ Below w.heap.size w w' := by
  have HU := Lib.hid hu
  have HD := Lib.hid hd
  have HK := Lib.hid hk
  have HKL := Lib.hid hkl
  have hmm := @run_makeMap Try.prog
  have HB0 : Hid (Below w.heap.size w (w.alloc (.map #[] 0))) := Lib.hid ((Below.refl _ _).alloc (Nat.le_refl _) _)
  have HM0 := Lib.hid (MapII.made w)
  clear hu hd hk hkl
  go_enter Try.func77, Try.ntmps77
  go_wp2
  go_loopg [16] m (fun g' iv wr => ∃ i : Nat, g' = m - i ∧ i ≤ m ∧ iv = .int .i64 i ∧ MapII wr w.heap.size i (fun k => if (dd : Int) + 1 ≤ k ∧ k ≤ (dd : Int) + (i : Int) then k - (dd : Int) else 0) ∧ Below w.heap.size w wr)
  case atStart =>
    have e : (fun k => if (dd : Int) + 1 ≤ k ∧ k ≤ (dd : Int) + ((0 : Nat) : Int) then k - (dd : Int) else 0) = fun _ => 0 := by funext k; rw [if_neg (by omega)]
    refine ⟨0, by omega, by omega, rfl, ?_, HB0.out⟩
    rw [e]; exact HM0.out
  case round =>
    obtain ⟨i, hg, hi, rfl, hmp, hb⟩ := hrel
    have HG := Lib.hid hg
    have HM := Lib.hid hmp
    have HB := Lib.hid hb
    rename World => wr
    clear hg hmp hb HM0 HB0
    by_cases hlt : i < m
    · have hlt' : (i : Int) < (m : Int) := by omega
      obtain ⟨b, o, k, lB, hA, kA, vA, dA, lm, ld, hn', hc, kn, kc, vn, vc, dn, dc, rfl, _, hk', c0, c1, c2, c3, c4, c5, c6, c7, hb, _⟩ := (HD.out.below HB.out).at_ hlt
      have hkk : k = lkAt dd Xd i := by rw [lk_some hlt] at hk'; injection hk' with hk'; exact hk'.symm
      have hk1 : k.1 = (dd : Int) + (i : Int) + 1 := by rw [hkk]; rfl
      rw [hk1] at c0
      have cb : ∀ t v, wr.cell? ⟨b, o + i * 8 + t, none⟩ = some v → True := fun _ _ _ => trivial
      clear cb hk' hkk hk1 hb
      have hw1 := IntWalk.i64_in ((i : Int) + 1) (by omega)
      obtain ⟨wx, hwx⟩ : ∃ W, W = wr.alloc (.cells #[.int .i64 ((dd : Int) + (i : Int) + 1), .slice lB lm ld, .int .i64 k.2.2.lev, .slice hA hn' hc, .int .i64 k.2.2.right, .slice kA kn kc, .slice vA vn vc, .slice dA dn dc] 106) := ⟨_, rfl⟩
      have HBX : Hid (Below wr.heap.size wr wx) := Lib.hid (by rw [hwx]; exact (Below.refl _ _).alloc (Nat.le_refl _) _)
      have HMX := Lib.hid (HM.out.below HBX.out)
      go_upto_region 4 with fail
      rw [← hwx]
      have x0 : wx.cell? ⟨wr.heap.size, 0, none⟩ = some (.int .i64 ((dd : Int) + (i : Int) + 1)) := by rw [hwx]; simp
      clear hwx c0 c1 c2 c3 c4 c5 c6 c7
      go_wp2_with (at_mapUpdate; go_loud (refine wpList_MapII_put rfl _ _ _ rfl rfl HMX.out (by unfold maxLen; omega) ((dd : Int) + (i : Int) + 1) ((i : Int) + 1) rfl rfl (by omega) (by omega) (by omega) (by omega) ?_); intro w1 hm1 hc1; have HM1 := Lib.hid hm1; have HC1 := Lib.hid hc1; clear hm1 hc1)
      go_roundg (m - (i + 1))
      case measure => have := HG.out; omega
      case rel =>
        have ef : (fun j => if j = (dd : Int) + (i : Int) + 1 then (i : Int) + 1 else (if (dd : Int) + 1 ≤ j ∧ j ≤ (dd : Int) + (i : Int) then j - (dd : Int) else 0)) = fun k => if (dd : Int) + 1 ≤ k ∧ k ≤ (dd : Int) + ((i + 1 : Nat) : Int) then k - (dd : Int) else 0 := by
          funext j
          by_cases h1 : j = (dd : Int) + (i : Int) + 1
          · rw [if_pos h1, if_pos (by omega)]; omega
          · rw [if_neg h1]
            by_cases h2 : (dd : Int) + 1 ≤ j ∧ j ≤ (dd : Int) + (i : Int)
            · rw [if_pos h2, if_pos (by omega)]
            · rw [if_neg h2, if_neg (by omega)]
        have hm2 : MapII w1 w.heap.size (i + 1) (fun j => if j = (dd : Int) + (i : Int) + 1 then (i : Int) + 1 else (if (dd : Int) + 1 ≤ j ∧ j ≤ (dd : Int) + (i : Int) then j - (dd : Int) else 0)) := HM1.out
        rw [ef] at hm2
        have hsz := HB.out.size
        exact ⟨i + 1, rfl, by omega, by go_num, hm2, (HB.out.trans (HBX.out.mono hsz)).trans (HC1.out.below_of (Nat.le_trans hsz HBX.out.size) (fun b hb h => by have h : b = w.heap.size := h; omega))⟩
    · have hlt' : ¬ (i : Int) < (m : Int) := by omega
      have him : i = m := by omega
      subst him
      go_wp2
      go_loopg [29] n (fun g' iv wz => ∃ t : Nat, g' = n - t ∧ t ≤ n ∧ iv = .int .i64 t ∧ Below wr.heap.size wr wz)
      case atStart => exact ⟨0, by omega, by omega, rfl, Below.refl _ _⟩
      case round =>
        obtain ⟨t, hg2, ht, rfl, hbz⟩ := hrel
        have HG2 := Lib.hid hg2
        have HBZ := Lib.hid hbz
        rename World => wz
        clear hg2 hbz
        by_cases htl : t < n
        · have htl' : (t : Int) < (n : Int) := by omega
          have HBW : Hid (Below w.heap.size w wz) := Lib.hid (HB.out.trans (HBZ.out.mono HB.out.size))
          obtain ⟨b, o, ⟨id, low0, x⟩, lB, hA, kA, vA, dA, lm, ld, hn', hc, kn, kc, vn, vc, dn, dc, rfl, _, hk', c0, c1, c2, c3, c4, c5, c6, c7, hb, hv⟩ := (HU.out.below HBW.out).at_ htl
          have hkk : (id, low0, x) = lkAt du Xu t := by rw [List.getElem?_map, List.getElem?_range htl] at hk'; injection hk' with hk'; exact hk'.symm
          dsimp only at c0 c2 c4 hb hv
          have hxx : x = Xu t := congrArg (fun k : Lk => k.2.2) hkk
          have hll : low0 = lowOf (fun t => (Xu t).high) t := congrArg (fun k : Lk => k.2.1) hkk
          have hko : KidOk i dd Xd low0 x := by rw [hxx, hll]; exact HK.out t htl
          have hdn : dn ≤ 1000 := by rw [hv.d.len, hxx]; exact HKL.out t htl
          obtain ⟨wx, hwx⟩ : ∃ W, W = wz.alloc (.cells #[.int .i64 id, .slice lB lm ld, .int .i64 x.lev, .slice hA hn' hc, .int .i64 x.right, .slice kA kn kc, .slice vA vn vc, .slice dA dn dc] 106) := ⟨_, rfl⟩
          have HBX : Hid (Below wz.heap.size wz wx) := Lib.hid (by rw [hwx]; exact (Below.refl _ _).alloc (Nat.le_refl _) _)
          have HQX : Hid (Blk wx wz.heap.size 106 #[.int .i64 id, .slice lB lm ld, .int .i64 x.lev, .slice hA hn' hc, .int .i64 x.right, .slice kA kn kc, .slice vA vn vc, .slice dA dn dc]) := Lib.hid (by rw [hwx]; exact Blk.new _ _ _)
          have HLX := Lib.hid (hb.below HBX.out)
          have HVX := Lib.hid (hv.below HBX.out)
          have HKO := Lib.hid hko
          clear hk' hkk hxx hll hb hv hko
          go_upto_region 9 with fail
          rw [← hwx]
          clear hwx c0 c1 c2 c3 c4 c5 c6 c7
          have x1 : wx.cell? ⟨wz.heap.size, 1, none⟩ = some (.slice lB lm ld) := HQX.out.cell 1
          have x7 : wx.cell? ⟨wz.heap.size, 7, none⟩ = some (.slice dA dn dc) := HQX.out.cell 7
          go_wp2_with fail
          refine child_kids G D B i e0 w.heap.size i wz.heap.size dd id low0 x Xd lB hA kA vA dA lm ld hn' hc kn kc vn vc dn dc wx _ (by exact Lib.hid (fun _ _ _ _ h => h)) (Lib.hid (HD.out.below (HBW.out.trans (HBX.out.mono HBW.out.size)))) HKO HQX HLX HVX (Lib.hid (HM.out.below (HBZ.out.trans (HBX.out.mono HBZ.out.size)))) hm hdd hdn ?_
          intro v9 v10 v11 v12 v40 v41 v42 v43 v44 v45 v46 v47 v48 v49 v50 v51 v52 v53 v54 v55 v56 v57 v58 v59 v60 v61 v62 v63 v64 v65 v66 v67 v68 v69 v70 v71 v72 v73 v74 w9 hb9
          have HB9 : Hid (Below wr.heap.size wr w9) := Lib.hid ((HBZ.out.trans (HBX.out.mono HBZ.out.size)).trans (hb9.mono (Nat.le_trans HBZ.out.size HBX.out.size)))
          clear hb9
          go_wp2
          go_roundg (n - (t + 1))
          case measure => have := HG2.out; omega
          case rel => exact ⟨t + 1, rfl, by omega, by go_num, HB9.out⟩
        · have htl' : ¬ (t : Int) < (n : Int) := by omega
          go_wp2
          first | go_end0 | skip
          exact ⟨rfl, HB.out.trans (HBZ.out.mono HB.out.size)⟩
end Go.Proofs.Ytgjphmlmndcaeaa
