/- WALKS: the document's Map and does, off a set of blocks. (offs.py printed this from XRefR) WALKS: coppiceref20.Check: a call of the line is loaded. -/
import Derived.Test.YtpbnngfiinihmaaOc08
import Derived.Test.YtpbnngfiinihmaaOc09
set_option linter.unusedVariables false
set_option linter.unusedSimpArgs false
namespace Go.Proofs.Ytpbnngfiinihmaa.Sf
open Go.RowKit
open Go.Lib (compareBytes)
set_option maxRecDepth 100000 in
set_option maxHeartbeats 4000000 in
theorem rmap_any {X : Nat → Prop} (A : Option Addr) (n c : Nat) (l : List Ent) (w : World) (h : Ents w (Off X) A n l) (hn : n ≤ 1048576) (hs : Short 1152921504606 l) (hX : ∀ b, X b → b < w.heap.size) :
    Calls Try.prog 29 #[.slice A n c] w (NewEntsX X w (mapE l)) := by
  have HE := Lib.hid h
  have HN := Lib.hid h.len
  have HS := Lib.hid hs
  have HX := Lib.hid hX
  clear h hs hX
  go_enter Try.func29, Try.ntmps29
  go_wp2
  go_loopg [4, 3] n (fun g' iv v wz => ∃ (i mn mc : Nat) (mA : Option Addr), g' = n - i ∧ i ≤ n ∧ iv = .int .i64 i ∧ v = .slice mA mn mc ∧ Ents wz (Off X) mA mn (mapE (l.take i)) ∧ Below w.heap.size w wz)
  case atStart => exact ⟨0, 0, 0, none, by omega, by omega, rfl, rfl, Ents.nil _ _ _, Below.refl _ _⟩
  case round =>
    obtain ⟨i, mn, mc, mA, hg, hi, rfl, rfl, hm, hb⟩ := hrel
    have HG := Lib.hid hg
    have HM := Lib.hid hm
    have HB := Lib.hid hb
    have hml : mn ≤ n := by
      have h1 := hm.len
      have h2 := mapE_len (l.take i)
      rw [List.length_take] at h2
      omega
    clear hg hm hb
    by_cases hlt : i < n
    · obtain ⟨b, o, Ak, nk, ck, Av, nv, cv, key, val, rfl, hmi, c1', c2', s1, s2⟩ := rd_textF HE.out hlt
      have c1 := bkeep HB.out c1'
      have c2 := bkeep HB.out c2'
      have HST := Lib.hid (mapE_take hmi)
      have HKL : Hid (key.length ≤ 1152921504606) := Lib.hid (HS.out _ (List.mem_of_getElem? hmi)).1
      have HSH : Hid (Short 1152921504606 (mapE (l.take i))) := Lib.hid (fun e he => HS.out e (mapE_sub l i e he))
      have K1 := Lib.hid (s1.below HB.out)
      have K2 := Lib.hid (s2.below HB.out)
      clear s1 s2 hmi c1' c2'
      go_wp2_with (go_at_call 50; go_loud (refine (rput_any mA Ak Av mn mc nk ck nv cv _ (key, val) wr HM.out (mapE_up _) HSH.out (by omega) K1.out K2.out HKL.out (fun b hb => Nat.lt_of_lt_of_le (HX.out b hb) HB.out.size)).mono ?_); rintro e w1 ⟨A2, n2, d2, rfl, he2, hb2⟩; have HE2 := Lib.hid he2; have HB2 := Lib.hid (HB.out.trans (hb2.mono HB.out.size)); clear he2 hb2)
      go_roundg (n - (i + 1))
      case measure => have := HG.out; omega
      case rel => exact ⟨i + 1, n2, d2, A2, rfl, by omega, by go_num, rfl, by rw [HST.out]; exact HE2.out, HB2.out⟩
    · have hin : i = n := by omega
      subst hin
      go_wp2
      go_ret
      have hd : l.take i = l := List.take_of_length_le (by have := HN.out; omega)
      have h1 := HM.out
      rw [hd] at h1
      exact ⟨mA, mn, mc, rfl, h1, HB.out⟩
set_option maxRecDepth 100000 in
set_option maxHeartbeats 4000000 in
theorem rdoes_any {X : Nat → Prop} (A : Option Addr) (n d : Nat) (m : List Ent) (c : CallD) (x : CallX) (w : World) (h : CallW w (Off X) c x) (hm : Ents w (Off X) A n m) (hu : Up m) (hs : Short 1152921504606 m) (hn : n ≤ 1152921504) (hX : ∀ b, X b → b < w.heap.size) :
    Calls Try.prog 31 #[.slice A n d, callV c x] w (NewEntsX X w (doesE m c)) := by
  have HW := Lib.hid h
  have HM := Lib.hid hm
  have HU := Lib.hid hu
  have HS := Lib.hid hs
  have HX := Lib.hid hX
  clear h hm hu hs hX
  obtain ⟨gb, hgb⟩ : ∃ gb, gb = decide (countsE c) := ⟨_, rfl⟩
  have HGB := Lib.hid hgb
  clear hgb
  go_enter Try.func31, Try.ntmps31
  go_upto_region 1 with fail
  obtain ⟨w1, hw1⟩ : ∃ W, W = w.alloc (.cells (callCs c x) 48) := ⟨_, rfl⟩
  rw [← hw1]
  have HB : Hid (Below w.heap.size w w1) := Lib.hid (by rw [hw1]; exact (Below.refl _ _).alloc (Nat.le_refl _) _)
  have HK : Hid (Blk w1 w.heap.size 48 (callCs c x)) := Lib.hid (by rw [hw1]; exact Blk.new _ _ _)
  have HAT := Lib.hid (CallAt.of_blk HK.out)
  have HW1 := Lib.hid (HW.out.below HB.out)
  clear hw1
  go_upto_region 2 with (first | (refine wpList_load_call rfl (.tmp 3) rfl rfl HAT.out ?_) | (go_at_call 52; go_loud (refine (counts_any (Off X) c x w1 HW1.out).mono ?_); rintro e w2 ⟨rfl, hb2⟩; rw [← HGB.out]; have HB2 := Lib.hid hb2; clear hb2))
  have HK2 := Lib.hid (HK.out.below HB2.out)
  have z2 : w2.cell? ⟨w.heap.size, 2, none⟩ = some (.int .i64 c.kd) := HK2.out.cell 2
  have z3 : w2.cell? ⟨w.heap.size, 3, none⟩ = some (.slice x.kA x.kn x.kc) := HK2.out.cell 3
  have z4 : w2.cell? ⟨w.heap.size, 4, none⟩ = some (.slice x.vA x.vn x.vc) := HK2.out.cell 4
  have HB3 := Lib.hid (HB.out.trans (HB2.out.mono HB.out.size))
  have HW3 := Lib.hid (HW.out.below HB3.out)
  have HM3 := Lib.hid (HM.out.below HB3.out)
  by_cases hc : countsE c
  · have hgt : gb = true := by rw [HGB.out]; simp [hc]
    have HKL : Hid (c.key.length ≤ 1152921504606) := Lib.hid (by have := hc.1.2.1; omega)
    subst hgt
    have HC := Lib.hid hc
    clear hc
    by_cases hk : c.kd = 2
    · have HKD := Lib.hid hk
      rw [hk] at z2
      clear hk
      go_wp2_with (go_at_call 50; go_loud (refine (rput_any A x.kA x.vA n d x.kn x.kc x.vn x.vc m (c.key, c.val) w2 HM3.out HU.out HS.out hn HW3.out.keyF HW3.out.valF HKL.out (fun b hb => Nat.lt_of_lt_of_le (HX.out b hb) HB3.out.size)).mono ?_); rintro e w4 ⟨A2, n2, d2, rfl, he2, hb2⟩; have HE2 := Lib.hid he2; have HB4 := Lib.hid hb2; clear he2 hb2)
      go_ret
      exact ⟨A2, n2, d2, rfl, by unfold doesE; rw [if_pos HC.out, if_pos HKD.out]; exact HE2.out, HB3.out.trans (HB4.out.mono HB3.out.size)⟩
    · have HKD := Lib.hid hk
      go_wp2_with (go_at_call 53; go_loud (refine (rcut_any A x.kA n d x.kn x.kc m c.key w2 HM3.out hn HW3.out.keyF (fun b hb => Nat.lt_of_lt_of_le (HX.out b hb) HB3.out.size)).mono ?_); rintro e w4 ⟨A2, n2, d2, rfl, he2, hb2⟩; have HE2 := Lib.hid he2; have HB4 := Lib.hid hb2; clear he2 hb2)
      go_ret
      exact ⟨A2, n2, d2, rfl, by unfold doesE; rw [if_pos HC.out, if_neg HKD.out]; exact HE2.out, HB3.out.trans (HB4.out.mono HB3.out.size)⟩
  · have hgt : gb = false := by rw [HGB.out]; simp [hc]
    subst hgt
    have HC := Lib.hid hc
    clear hc
    go_wp2
    go_ret
    exact ⟨A, n, d, rfl, by unfold doesE; rw [if_neg HC.out]; exact HM3.out, HB3.out⟩
end Go.Proofs.Ytpbnngfiinihmaa.Sf

namespace Go.Proofs.Ytpbnngfiinihmaa
open Go.RowKit
noncomputable def ldC : Code := codeOr (Try.f11.body.bind (regionAt 12))
/-- what the load asks of a world -/
structure LdAt (q : Nat) (v : Value) (g e k p b o : Nat) (c : CallD) (x : CallX) (w : World) : Prop where
  q1 : w.cell? ⟨q, 1, none⟩ = some v
  zi : w.cell? ⟨g, e + k, none⟩ = some (.int .i64 p)
  at_ : CallAt w b (o + p * 17) c x
theorem LdAt.chg {S : Nat → Prop} {q g e k p b o : Nat} {v : Value} {c : CallD} {x : CallX} {w w' : World} (h : LdAt q v g e k p b o c x w) (hc : Chg S w w') (h1 : ¬ S q) (h2 : ¬ S g) (h3 : ¬ S b) : LdAt q v g e k p b o c x w' :=
  ⟨hc.cell h1 h.q1, hc.cell h2 h.zi, h.at_.chg hc h3⟩
theorem LdAt.new {q g e k p b o : Nat} {v : Value} {c : CallD} {x : CallX} {w : World} (h : LdAt q v g e k p b o c x w) (ob : Obj) : LdAt q v g e k p b o c x (w.alloc ob) :=
  h.chg (S := Nil) ((Chg.refl _ _).alloc _) (fun h => h) (fun h => h) (fun h => h)
set_option maxRecDepth 100000 in
set_option maxHeartbeats 4000000 in
theorem ld_call (q g e m lc k p b o n cc : Nat) (c : CallD) (x : CallX) (w : World) {u0 u2 u3 u4 u5 u6 u9 u10 u11 u12 u13 u14 u15 u16 u17 u18 u19 u20 u21 u22 u23 u24 u25 u26 u27 u28 u29 u30 u31 u32 u33 u34 u35 u36 u37 u38 u39 u40 u41 u42 u43 u44 u45 u46 u47 u48 u49 u50 u51 u52 u53 u54 u55 u56 u57 u58 u59 u60 u61 u62 u63 u64 u65 u66 u67 u68 u69 u70 u71 u72 : Value} (Q : Exit → Act → World → Prop) (HQP : Hid (∀ c t (a : Act) w, Q (.panic c) ⟨t, a.defers⟩ w → Q (.panic c) a w))
    (hk : k < m) (hm : m ≤ 1152921504606) (hp : p < n) (hn : n ≤ 1152921504606) (S0 : LdAt q (.slice (some ⟨b, o, none⟩) n cc) g e k p b o c x w)
    (hexit : ∀ (v37 v38 v39 v40 v41 v42 v43 v44 : Value) (w' : World), Blk w' w.heap.size 48 (callCs c x) → Below w.heap.size w w' → (let s9 := w.heap.size; Q .normal ⟨(u0 :: .pointer (some ⟨q, 0, none⟩) :: u2 :: u3 :: u4 :: u5 :: u6 :: .slice (some ⟨g, e, none⟩) m lc :: .int .i64 k :: .pointer (some ⟨s9, 0, none⟩) :: u10 :: u11 :: u12 :: u13 :: u14 :: u15 :: u16 :: u17 :: u18 :: u19 :: u20 :: u21 :: u22 :: u23 :: u24 :: u25 :: u26 :: u27 :: u28 :: u29 :: u30 :: u31 :: u32 :: u33 :: u34 :: u35 :: u36 :: v37 :: v38 :: v39 :: v40 :: v41 :: v42 :: v43 :: v44 :: u45 :: u46 :: u47 :: u48 :: u49 :: u50 :: u51 :: u52 :: u53 :: u54 :: u55 :: u56 :: u57 :: u58 :: u59 :: u60 :: u61 :: u62 :: u63 :: u64 :: u65 :: u66 :: u67 :: u68 :: u69 :: u70 :: u71 :: u72 :: []).toArray, []⟩ w')) :
    Code.wp Try.prog ldC Q ⟨(u0 :: .pointer (some ⟨q, 0, none⟩) :: u2 :: u3 :: u4 :: u5 :: u6 :: .slice (some ⟨g, e, none⟩) m lc :: .int .i64 k :: u9 :: u10 :: u11 :: u12 :: u13 :: u14 :: u15 :: u16 :: u17 :: u18 :: u19 :: u20 :: u21 :: u22 :: u23 :: u24 :: u25 :: u26 :: u27 :: u28 :: u29 :: u30 :: u31 :: u32 :: u33 :: u34 :: u35 :: u36 :: u37 :: u38 :: u39 :: u40 :: u41 :: u42 :: u43 :: u44 :: u45 :: u46 :: u47 :: u48 :: u49 :: u50 :: u51 :: u52 :: u53 :: u54 :: u55 :: u56 :: u57 :: u58 :: u59 :: u60 :: u61 :: u62 :: u63 :: u64 :: u65 :: u66 :: u67 :: u68 :: u69 :: u70 :: u71 :: u72 :: []).toArray, []⟩ w := by
  have HEX := Lib.hid hexit
  have S1 : LdAt q (.slice (some ⟨b, o, none⟩) n cc) g e k p b o c x w.drew := S0.chg (S := Nil) (Chg.refl _ _).drew (fun h => h) (fun h => h) (fun h => h)
  have s0l := cell_lt S0.q1
  have s1l := cell_lt S0.zi
  have s2l := cell_lt S0.at_.c0
  have hqw : ∀ b, b < w.heap.size → ¬ One w.heap.size b := (by intro b hb e; have e : b = w.heap.size := e; omega)
  clear hexit S0
  conv => arg 2; whnf
  refine wp_region_V (fun w' => LdAt q (.slice (some ⟨b, o, none⟩) n cc) g e k p b o c x w') (by kernel_rfl) ?_
  refine wpV_take (i := 0) (v := ?_) rfl (by kernel_rfl) (by kernel_rfl) (by kernel_rfl) (by first | exact fun _ _ _ h => h | exact fun c a w h => HQP.out c _ a w h) S1 (Or.inl ⟨by kernel_rfl, ?_⟩) ?_
  rotate_left
  · intro w hSw
    go_simp
    try with_reducible rfl
  try simp only [Act.put, List.setIfInBounds_toArray, List.set_cons_zero, List.set_cons_succ]
  refine wpV_take (i := 2) (v := ?_) rfl (by kernel_rfl) (by kernel_rfl) (by kernel_rfl) (by first | exact fun _ _ _ h => h | exact fun c a w h => HQP.out c _ a w h) S1 (Or.inl ⟨by kernel_rfl, ?_⟩) ?_
  rotate_left
  · intro w hSw
    go_simp
    try with_reducible rfl
  try simp only [Act.put, List.setIfInBounds_toArray, List.set_cons_zero, List.set_cons_succ]
  refine wpV_take (i := 3) (v := ?_) rfl (by kernel_rfl) (by kernel_rfl) (by kernel_rfl) (by first | exact fun _ _ _ h => h | exact fun c a w h => HQP.out c _ a w h) S1 (Or.inl ⟨by kernel_rfl, ?_⟩) ?_
  rotate_left
  · intro w hSw
    go_simp
    try with_reducible rfl
  try simp only [Act.put, List.setIfInBounds_toArray, List.set_cons_zero, List.set_cons_succ]
  refine wpV_take (i := 4) (v := ?_) rfl (by kernel_rfl) (by kernel_rfl) (by kernel_rfl) (by first | exact fun _ _ _ h => h | exact fun c a w h => HQP.out c _ a w h) S1 (Or.inl ⟨by kernel_rfl, ?_⟩) ?_
  rotate_left
  · intro w hSw
    go_simp
    try with_reducible rfl
  try simp only [Act.put, List.setIfInBounds_toArray, List.set_cons_zero, List.set_cons_succ]
  refine wpV_take (i := 1) (v := ?_) rfl (by kernel_rfl) (by kernel_rfl) (by kernel_rfl) (by first | exact fun _ _ _ h => h | exact fun c a w h => HQP.out c _ a w h) S1 (Or.inl ⟨by kernel_rfl, ?_⟩) ?_
  rotate_left
  · intro w hSw
    obtain ⟨s0, s1, _⟩ := hSw
    go_simp
    try with_reducible rfl
  try simp only [Act.put, List.setIfInBounds_toArray, List.set_cons_zero, List.set_cons_succ]
  refine wpV_take (i := 5) (v := ?_) rfl (by kernel_rfl) (by kernel_rfl) (by kernel_rfl) (by first | exact fun _ _ _ h => h | exact fun c a w h => HQP.out c _ a w h) S1 (Or.inl ⟨by kernel_rfl, ?_⟩) ?_
  rotate_left
  · intro w hSw
    obtain ⟨s0, s1, _⟩ := hSw
    go_simp
    try with_reducible rfl
  try simp only [Act.put, List.setIfInBounds_toArray, List.set_cons_zero, List.set_cons_succ]
  refine wpV_take (i := 6) (v := ?_) rfl (by kernel_rfl) (by kernel_rfl) (by kernel_rfl) (by first | exact fun _ _ _ h => h | exact fun c a w h => HQP.out c _ a w h) S1 (Or.inl ⟨by kernel_rfl, ?_⟩) ?_
  rotate_left
  · intro w hSw
    go_simp
    try with_reducible rfl
  try simp only [Act.put, List.setIfInBounds_toArray, List.set_cons_zero, List.set_cons_succ]
  refine wpV_take (i := 7) (v := callV c x) rfl (by kernel_rfl) (by kernel_rfl) (by kernel_rfl) (by first | exact fun _ _ _ h => h | exact fun c a w h => HQP.out c _ a w h) S1 ?_ ?_
  · refine yields_load_call (b := b) (o := o + p * 17) rfl (.tmp 43) rfl (by go_simp) (fun w h => h.at_)
  try simp only [Act.put, List.setIfInBounds_toArray, List.set_cons_zero, List.set_cons_succ]
  refine wpV_one (i := 8) (by kernel_rfl) rfl (fun K hK => ?_)
  go_simp
  skip
  refine hK.out _ _ (S1.new _) ?_
  clear hK K
  try simp only [Act.put, List.setIfInBounds_toArray, List.set_cons_zero, List.set_cons_succ]
  refine wpV_one (i := 9) (by kernel_rfl) rfl (fun K hK => ?_)
  refine step_store_call (c := c) (y := x) w.heap.size _ rfl (.tmp 9) (.tmp 44) rfl (by go_simp) (by go_simp) (Blk.new w _ _) rfl ?_; intro w2 hk2 hc2; have HC2 := Lib.hid hc2
  refine hK.out _ _ ((S1.new _).chg hc2 (hqw _ s0l) (hqw _ s1l) (hqw _ s2l)) ?_
  clear hK K
  try simp only [Act.put, List.setIfInBounds_toArray, List.set_cons_zero, List.set_cons_succ]
  refine wpV_done (by kernel_rfl) ?_ _
  go_simp
  have hb1 : Below w.heap.size w w2 := (((Below.refl w.heap.size w).alloc (Nat.le_refl _) _).drew).trans (HC2.out.below_of (by simp) (fun b hb e => hqw b hb e))
  exact HEX.out _ _ _ _ _ _ _ _ _ hk2 hb1
end Go.Proofs.Ytpbnngfiinihmaa
