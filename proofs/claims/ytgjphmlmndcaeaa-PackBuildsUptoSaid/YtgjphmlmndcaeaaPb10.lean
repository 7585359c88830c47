/- WALKS: the high of a leaf that another one follows (pack). WALKS: the leaves of a packed tree (pack). WALKS: the kids of an inner node (pack). -/
import Derived.Test.YtgjphmlmndcaeaaPb09
set_option linter.unusedVariables false
set_option linter.unusedSimpArgs false
namespace Go.Proofs.Ytgjphmlmndcaeaa
open Go.RowKit
noncomputable def leafH : Code := codeOr (Try.f61.body.bind (regionAt 15))
set_option maxRecDepth 100000 in
set_option maxHeartbeats 4000000 in
theorem leaf_high (r K cp k b o j d q b3 o3 mi2 d2 : Nat) (Ak Bk : Option Addr) (nk nk3 ck ck3 : Nat) (D E : Nat → Prop) (xs ys : List UInt8) (w : World) {u0 u1 u2 u3 u4 u5 u6 u7 u12 u13 u14 u15 u16 u17 u18 u19 u20 u21 u22 u23 u24 u25 u26 u27 u28 u29 u30 u31 u32 u33 u34 u35 u36 u37 u38 u39 u40 u41 u42 u43 u44 u45 u46 u47 u48 u49 u50 u51 u52 u53 u54 u55 u56 u57 u58 u59 u60 u61 u62 u63 u64 u65 u66 u67 u68 u69 u70 u71 u72 u73 u74 u75 u76 u77 u78 u79 u80 u81 u82 u83 u84 u85 u86 u87 u88 u89 : Value} (Q : Exit → Act → World → Prop) (HQP : Hid (∀ c t (a : Act) w, Q (.panic c) ⟨t, a.defers⟩ w → Q (.panic c) a w))
    (hk : k < K) (hK : K ≤ 1152921504606) (hj : 1 ≤ j) (hjm : j ≤ 1152921504606) (hm2 : 0 < mi2)
    (c1 : w.cell? ⟨b, o + (j - 1) * 2, none⟩ = some (.slice Ak nk ck)) (c2 : w.cell? ⟨r, k + 1, none⟩ = some (.slice (some ⟨b3, o3, none⟩) mi2 d2)) (c3 : w.cell? ⟨b3, o3, none⟩ = some (.slice Bk nk3 ck3))
    (HSA : Hid (Bt w D Ak nk ck xs)) (HSB : Hid (Bt w E Bk nk3 ck3 ys)) (lx : xs.length ≤ 1152921504606) (ly : ys.length ≤ 1152921504606)
    (v0 v2 v3 v4 v5 : Value) (HBK : Hid (Blk w q 93 #[v0, .slice none 0 0, v2, v3, v4, v5]))
    (hexit : ∀ (v56 v57 v58 v59 v60 v61 v62 v63 v64 v65 v66 v67 v68 v69 v70 v71 v72 v73 v74 v75 v76 : Value) (K5 : Option Addr) (n5 c5 : Nat) (w5 : World), Bt w5 (From w.heap.size) K5 n5 c5 (betw xs ys).1 → Below w.heap.size w w5 → Q .normal ⟨(u0 :: u1 :: u2 :: u3 :: u4 :: u5 :: u6 :: u7 :: .slice (some ⟨r, 0, none⟩) (K + 1) cp :: .int .i64 k :: .slice (some ⟨b, o, none⟩) j d :: .pointer (some ⟨q, 0, none⟩) :: u12 :: u13 :: u14 :: u15 :: u16 :: u17 :: u18 :: u19 :: u20 :: u21 :: u22 :: u23 :: u24 :: u25 :: u26 :: u27 :: u28 :: u29 :: u30 :: u31 :: u32 :: u33 :: u34 :: u35 :: u36 :: u37 :: u38 :: u39 :: u40 :: u41 :: u42 :: u43 :: u44 :: u45 :: u46 :: u47 :: u48 :: u49 :: u50 :: u51 :: u52 :: u53 :: u54 :: u55 :: v56 :: v57 :: v58 :: v59 :: v60 :: v61 :: v62 :: v63 :: v64 :: v65 :: v66 :: v67 :: v68 :: v69 :: v70 :: v71 :: v72 :: v73 :: v74 :: v75 :: v76 :: u77 :: u78 :: u79 :: u80 :: u81 :: u82 :: u83 :: u84 :: u85 :: u86 :: u87 :: u88 :: u89 :: []).toArray, []⟩ (w5.setCell ⟨q, 1, none⟩ (.slice K5 n5 c5))) :
    Code.wp Try.prog leafH Q ⟨(u0 :: u1 :: u2 :: u3 :: u4 :: u5 :: u6 :: u7 :: .slice (some ⟨r, 0, none⟩) (K + 1) cp :: .int .i64 k :: .slice (some ⟨b, o, none⟩) j d :: .pointer (some ⟨q, 0, none⟩) :: u12 :: u13 :: u14 :: u15 :: u16 :: u17 :: u18 :: u19 :: u20 :: u21 :: u22 :: u23 :: u24 :: u25 :: u26 :: u27 :: u28 :: u29 :: u30 :: u31 :: u32 :: u33 :: u34 :: u35 :: u36 :: u37 :: u38 :: u39 :: u40 :: u41 :: u42 :: u43 :: u44 :: u45 :: u46 :: u47 :: u48 :: u49 :: u50 :: u51 :: u52 :: u53 :: u54 :: u55 :: u56 :: u57 :: u58 :: u59 :: u60 :: u61 :: u62 :: u63 :: u64 :: u65 :: u66 :: u67 :: u68 :: u69 :: u70 :: u71 :: u72 :: u73 :: u74 :: u75 :: u76 :: u77 :: u78 :: u79 :: u80 :: u81 :: u82 :: u83 :: u84 :: u85 :: u86 :: u87 :: u88 :: u89 :: []).toArray, []⟩ w := by
  have HEX := Lib.hid hexit
  have w1 := IntWalk.i64_in ((j : Int) - 1) (by omega)
  have w2 : (0 : Int) ≤ (j : Int) - 1 := by omega
  have w3 : ((j : Int) - 1) < j := by omega
  have w4 : ((j : Int) - 1).toNat = j - 1 := by omega
  have w5 := IntWalk.i64_in ((k : Int) + 1) (by omega)
  have w6 : (0 : Int) ≤ (k : Int) + 1 := by omega
  have w7 : ((k : Int) + 1).toNat = k + 1 := by omega
  have w8 : (1 : Int) ≤ (j : Int) := by omega
  have lna : nk ≤ 1152921504606 := by have := HSA.out.len; omega
  have lnb : nk3 ≤ 1152921504606 := by have := HSB.out.len; omega
  clear hexit lx ly
  conv => arg 2; whnf
  refine wp_region_U (fun w' => w'.cell? ⟨b, o + (j - 1) * 2, none⟩ = some (.slice Ak nk ck) ∧ w'.cell? ⟨r, k + 1, none⟩ = some (.slice (some ⟨b3, o3, none⟩) mi2 d2) ∧ w'.cell? ⟨b3, o3, none⟩ = some (.slice Bk nk3 ck3)) 21 (by kernel_rfl) ?_
  have S0 : w.drew.cell? ⟨b, o + (j - 1) * 2, none⟩ = some (.slice Ak nk ck) ∧ w.drew.cell? ⟨r, k + 1, none⟩ = some (.slice (some ⟨b3, o3, none⟩) mi2 d2) ∧ w.drew.cell? ⟨b3, o3, none⟩ = some (.slice Bk nk3 ck3) := ⟨c1, c2, c3⟩
  refine wpU_free (i := 0) (v := ?_) rfl (by kernel_rfl) (by kernel_rfl) (by kernel_rfl) (by kernel_rfl) (by first | exact fun _ _ _ h => h | exact fun c a w h => HQP.out c _ a w h) (fun _ => S0) (Or.inl ⟨by rfl, ?_⟩) ?_
  rotate_left
  · intro w hSw
    go_simp
    try with_reducible rfl
  try simp only [Act.put, List.setIfInBounds_toArray, List.set_cons_zero, List.set_cons_succ]
  refine wpU_free (i := 1) (v := ?_) rfl (by kernel_rfl) (by kernel_rfl) (by kernel_rfl) (by kernel_rfl) (by first | exact fun _ _ _ h => h | exact fun c a w h => HQP.out c _ a w h) (fun _ => S0) (Or.inl ⟨by rfl, ?_⟩) ?_
  rotate_left
  · intro w hSw
    go_simp
    try with_reducible rfl
  try simp only [Act.put, List.setIfInBounds_toArray, List.set_cons_zero, List.set_cons_succ]
  refine wpU_free (i := 2) (v := ?_) rfl (by kernel_rfl) (by kernel_rfl) (by kernel_rfl) (by kernel_rfl) (by first | exact fun _ _ _ h => h | exact fun c a w h => HQP.out c _ a w h) (fun _ => S0) (Or.inl ⟨by rfl, ?_⟩) ?_
  rotate_left
  · intro w hSw
    go_simp
    try with_reducible rfl
  try simp only [Act.put, List.setIfInBounds_toArray, List.set_cons_zero, List.set_cons_succ]
  refine wpU_free (i := 3) (v := ?_) rfl (by kernel_rfl) (by kernel_rfl) (by kernel_rfl) (by kernel_rfl) (by first | exact fun _ _ _ h => h | exact fun c a w h => HQP.out c _ a w h) (fun _ => S0) (Or.inl ⟨by rfl, ?_⟩) ?_
  rotate_left
  · intro w hSw
    go_simp
    try with_reducible rfl
  try simp only [Act.put, List.setIfInBounds_toArray, List.set_cons_zero, List.set_cons_succ]
  refine wpU_free (i := 4) (v := ?_) rfl (by kernel_rfl) (by kernel_rfl) (by kernel_rfl) (by kernel_rfl) (by first | exact fun _ _ _ h => h | exact fun c a w h => HQP.out c _ a w h) (fun _ => S0) (Or.inl ⟨by rfl, ?_⟩) ?_
  rotate_left
  · intro w hSw
    go_simp
    try with_reducible rfl
  try simp only [Act.put, List.setIfInBounds_toArray, List.set_cons_zero, List.set_cons_succ]
  refine wpU_free (i := 5) (v := ?_) rfl (by kernel_rfl) (by kernel_rfl) (by kernel_rfl) (by kernel_rfl) (by first | exact fun _ _ _ h => h | exact fun c a w h => HQP.out c _ a w h) (fun _ => S0) (Or.inl ⟨by rfl, ?_⟩) ?_
  rotate_left
  · intro w hSw
    go_simp
    try with_reducible rfl
  try simp only [Act.put, List.setIfInBounds_toArray, List.set_cons_zero, List.set_cons_succ]
  refine wpU_free (i := 7) (v := ?_) rfl (by kernel_rfl) (by kernel_rfl) (by kernel_rfl) (by kernel_rfl) (by first | exact fun _ _ _ h => h | exact fun c a w h => HQP.out c _ a w h) (fun _ => S0) (Or.inl ⟨by rfl, ?_⟩) ?_
  rotate_left
  · intro w hSw
    go_simp
    try with_reducible rfl
  try simp only [Act.put, List.setIfInBounds_toArray, List.set_cons_zero, List.set_cons_succ]
  refine wpU_free (i := 8) (v := ?_) rfl (by kernel_rfl) (by kernel_rfl) (by kernel_rfl) (by kernel_rfl) (by first | exact fun _ _ _ h => h | exact fun c a w h => HQP.out c _ a w h) (fun _ => S0) (Or.inl ⟨by rfl, ?_⟩) ?_
  rotate_left
  · intro w hSw
    go_simp
    try with_reducible rfl
  try simp only [Act.put, List.setIfInBounds_toArray, List.set_cons_zero, List.set_cons_succ]
  refine wpU_free (i := 9) (v := ?_) rfl (by kernel_rfl) (by kernel_rfl) (by kernel_rfl) (by kernel_rfl) (by first | exact fun _ _ _ h => h | exact fun c a w h => HQP.out c _ a w h) (fun _ => S0) (Or.inl ⟨by rfl, ?_⟩) ?_
  rotate_left
  · intro w hSw
    go_simp
    try with_reducible rfl
  try simp only [Act.put, List.setIfInBounds_toArray, List.set_cons_zero, List.set_cons_succ]
  refine wpU_free (i := 10) (v := ?_) rfl (by kernel_rfl) (by kernel_rfl) (by kernel_rfl) (by kernel_rfl) (by first | exact fun _ _ _ h => h | exact fun c a w h => HQP.out c _ a w h) (fun _ => S0) (Or.inl ⟨by rfl, ?_⟩) ?_
  rotate_left
  · intro w hSw
    go_simp
    try with_reducible rfl
  try simp only [Act.put, List.setIfInBounds_toArray, List.set_cons_zero, List.set_cons_succ]
  refine wpU_take (i := 6) (v := ?_) rfl (by kernel_rfl) (by kernel_rfl) (by kernel_rfl) (by kernel_rfl) (by first | exact fun _ _ _ h => h | exact fun c a w h => HQP.out c _ a w h) S0 (Or.inl ⟨by rfl, ?_⟩) ?_
  rotate_left
  · intro w hSw
    obtain ⟨s0, s1, s2⟩ := hSw
    go_simp
    try with_reducible rfl
  try simp only [Act.put, List.setIfInBounds_toArray, List.set_cons_zero, List.set_cons_succ]
  refine wpU_take (i := 11) (v := ?_) rfl (by kernel_rfl) (by kernel_rfl) (by kernel_rfl) (by kernel_rfl) (by first | exact fun _ _ _ h => h | exact fun c a w h => HQP.out c _ a w h) S0 (Or.inl ⟨by rfl, ?_⟩) ?_
  rotate_left
  · intro w hSw
    obtain ⟨s0, s1, s2⟩ := hSw
    go_simp
    try with_reducible rfl
  try simp only [Act.put, List.setIfInBounds_toArray, List.set_cons_zero, List.set_cons_succ]
  refine wpU_free (i := 12) (v := ?_) rfl (by kernel_rfl) (by kernel_rfl) (by kernel_rfl) (by kernel_rfl) (by first | exact fun _ _ _ h => h | exact fun c a w h => HQP.out c _ a w h) (fun _ => S0) (Or.inl ⟨by rfl, ?_⟩) ?_
  rotate_left
  · intro w hSw
    go_simp
    try with_reducible rfl
  try simp only [Act.put, List.setIfInBounds_toArray, List.set_cons_zero, List.set_cons_succ]
  refine wpU_free (i := 13) (v := ?_) rfl (by kernel_rfl) (by kernel_rfl) (by kernel_rfl) (by kernel_rfl) (by first | exact fun _ _ _ h => h | exact fun c a w h => HQP.out c _ a w h) (fun _ => S0) (Or.inl ⟨by rfl, ?_⟩) ?_
  rotate_left
  · intro w hSw
    go_simp
    try with_reducible rfl
  try simp only [Act.put, List.setIfInBounds_toArray, List.set_cons_zero, List.set_cons_succ]
  refine wpU_take (i := 14) (v := ?_) rfl (by kernel_rfl) (by kernel_rfl) (by kernel_rfl) (by kernel_rfl) (by first | exact fun _ _ _ h => h | exact fun c a w h => HQP.out c _ a w h) S0 (Or.inl ⟨by rfl, ?_⟩) ?_
  rotate_left
  · intro w hSw
    obtain ⟨s0, s1, s2⟩ := hSw
    go_simp
    try with_reducible rfl
  try simp only [Act.put, List.setIfInBounds_toArray, List.set_cons_zero, List.set_cons_succ]
  refine wpU_one (i := 15) (by kernel_rfl) rfl (fun K hK => ?_)
  go_simp
  refine (between_any2 Ak Bk nk nk3 ck ck3 _ _ xs ys _ HSA.out.2.2.2.drew HSA.out.2.2.1 HSB.out.2.2.2.drew HSB.out.2.2.1 HSB.out.1 lna lnb HSB.out.2.1).mono ?_; rintro e w5 ⟨K5, n5, c5, rfl, p1, p2, p3, p4, hb5⟩; have Q0 := ((HBK.out.drew).below hb5); have q1 : w5.cell? ⟨q, 1, none⟩ = some (.slice none 0 0) := (Q0.cell 1).trans rfl; have qf := Q0.frozen; have S5 : w5.cell? ⟨b, o + (j - 1) * 2, none⟩ = some (.slice Ak nk ck) ∧ w5.cell? ⟨r, k + 1, none⟩ = some (.slice (some ⟨b3, o3, none⟩) mi2 d2) ∧ w5.cell? ⟨b3, o3, none⟩ = some (.slice Bk nk3 ck3) := ⟨bkeep hb5 S0.1, bkeep hb5 S0.2.1, bkeep hb5 S0.2.2⟩
  refine hK.out _ _ (fun _ => S5) ?_
  clear hK K
  try simp only [Act.put, List.setIfInBounds_toArray, List.set_cons_zero, List.set_cons_succ]
  refine wpU_free (i := 16) (v := ?_) rfl (by kernel_rfl) (by kernel_rfl) (by kernel_rfl) (by kernel_rfl) (by first | exact fun _ _ _ h => h | exact fun c a w h => HQP.out c _ a w h) (fun _ => S5) (Or.inl ⟨by rfl, ?_⟩) ?_
  rotate_left
  · intro w hSw
    go_simp
    try with_reducible rfl
  try simp only [Act.put, List.setIfInBounds_toArray, List.set_cons_zero, List.set_cons_succ]
  refine wpU_free (i := 17) (v := ?_) rfl (by kernel_rfl) (by kernel_rfl) (by kernel_rfl) (by kernel_rfl) (by first | exact fun _ _ _ h => h | exact fun c a w h => HQP.out c _ a w h) (fun _ => S5) (Or.inl ⟨by rfl, ?_⟩) ?_
  rotate_left
  · intro w hSw
    go_simp
    try with_reducible rfl
  try simp only [Act.put, List.setIfInBounds_toArray, List.set_cons_zero, List.set_cons_succ]
  refine wpU_free (i := 18) (v := ?_) rfl (by kernel_rfl) (by kernel_rfl) (by kernel_rfl) (by kernel_rfl) (by first | exact fun _ _ _ h => h | exact fun c a w h => HQP.out c _ a w h) (fun _ => S5) (Or.inl ⟨by rfl, ?_⟩) ?_
  rotate_left
  · intro w hSw
    go_simp
    try with_reducible rfl
  try simp only [Act.put, List.setIfInBounds_toArray, List.set_cons_zero, List.set_cons_succ]
  refine wpU_free (i := 19) (v := ?_) rfl (by kernel_rfl) (by kernel_rfl) (by kernel_rfl) (by kernel_rfl) (by first | exact fun _ _ _ h => h | exact fun c a w h => HQP.out c _ a w h) (fun _ => S5) (Or.inl ⟨by rfl, ?_⟩) ?_
  rotate_left
  · intro w hSw
    go_simp
    try with_reducible rfl
  try simp only [Act.put, List.setIfInBounds_toArray, List.set_cons_zero, List.set_cons_succ]
  refine wpU_free (i := 20) (v := ?_) rfl (by kernel_rfl) (by kernel_rfl) (by kernel_rfl) (by kernel_rfl) (by first | exact fun _ _ _ h => h | exact fun c a w h => HQP.out c _ a w h) (fun _ => S5) (Or.inl ⟨by rfl, ?_⟩) ?_
  rotate_left
  · intro w hSw
    go_simp
    try with_reducible rfl
  try simp only [Act.put, List.setIfInBounds_toArray, List.set_cons_zero, List.set_cons_succ]
  refine wpU_one (i := 21) (by kernel_rfl) rfl (fun K hK => ?_)
  go_simp
  refine hK.out _ _ (fun h => absurd h (by decide)) ?_
  clear hK K
  try simp only [Act.put, List.setIfInBounds_toArray, List.set_cons_zero, List.set_cons_succ]
  refine wpU_done (by kernel_rfl) ?_ _
  exact HEX.out _ _ _ _ _ _ _ _ _ _ _ _ _ _ _ _ _ _ _ _ _ K5 n5 c5 w5 ⟨p1, p2, p3, p4.weak (fun b hb => hb.1)⟩ ((Below.refl _ _).drew.trans hb5)
end Go.Proofs.Ytgjphmlmndcaeaa

namespace Go.Proofs.Ytgjphmlmndcaeaa
open Go.RowKit

theorem Rd.next {w w' : World} {S D D' : Nat → Prop} {size n : Nat} {A : Option Addr} {xs : List Value} (h : Rd w D size A n xs) (hz : 0 < size) (hc : Chg S w w') (hs : ∀ b, D b → ¬ S b) (hD : ∀ b, b < w.heap.size → D b → D' b) : Rd w' D' size A n xs :=
  ((h.lt hz).chg hc (fun b hb => hs b hb.1)).weak (fun b hb => hD b hb.2 hb.1)
theorem SB.next {w w' : World} {S D D' : Nat → Prop} {v : Value} {bs : List UInt8} (h : SB w D v bs) (hc : Chg S w w') (hs : ∀ b, D b → ¬ S b) (hD : ∀ b, b < w.heap.size → D b → D' b) : SB w' D' v bs :=
  let ⟨A, n, c, h1, h2, h3, h4, h5⟩ := h; ⟨A, n, c, h1, h2, h3, h4, h5.next Nat.zero_lt_one hc hs hD⟩
theorem Hold.next {w w' : World} {S D D' : Nat → Prop} {base fill K m c : Nat} {t : TypeId} {gv : Value} {vs vals : List Value} {A : Option Addr} (h : Hold w D base t gv vs fill K m vals A c) (hc : Chg S w w') (hs : ∀ b, D b → ¬ S b) (hD : ∀ b, b < w.heap.size → D b → D' b) : Hold w' D' base t gv vs fill K m vals A c :=
  ⟨own_chg h.own hc (fun g hg => hs g (h.blk g hg)), fun g hg => hD g (own_lt h.own g hg).2 (h.blk g hg), h.len, fun i hi => let ⟨B, d, a, b, e, f⟩ := h.parts i hi; ⟨B, d, a, b, e, f.next (by omega) hc hs hD⟩, h.last.next (by omega) hc hs hD, h.mc, h.cm⟩
theorem Txs.next {w w' : World} {S D D' : Nat → Prop} {vs : List Value} {l : List Ent} (h : Txs w D vs l) (hc : Chg S w w') (hs : ∀ b, D b → ¬ S b) (hD : ∀ b, b < w.heap.size → D b → D' b) : Txs w' D' vs l :=
  fun i e he => let ⟨u, v, a, b, c, d⟩ := h i e he; ⟨u, v, a, b, c.next hc hs hD, d.next hc hs hD⟩

/-- the rows of a part's keys and values are texts -/
theorem rows2_tx {w : World} {base k fill mi : Nat} {D G : Nat → Prop} {vs : List Value} {l : List Ent} {kv vv : Value} {kus vus : List Value} (h : Rows2 w base ((vs.drop (k * fill * 2)).take (mi * 2)) mi mi kv vv kus vus) (ht : Txs w D vs l) (hkm : k * fill + mi ≤ l.length)
    (h1 : ∀ b, base ≤ b → G b) (h2 : ∀ b, D b → G b) : ∃ kA kc vA vc, kv = .slice kA mi kc ∧ vv = .slice vA mi vc ∧ Tx w G kA mi kc (((l.drop (k * fill)).take mi).map Prod.fst) ∧ Tx w G vA mi vc (((l.drop (k * fill)).take mi).map Prod.snd) := by
  obtain ⟨kA, kc, rfl, a1, a2⟩ := own_val h.k
  obtain ⟨vA, vc, rfl, b1, b2⟩ := own_val h.v
  have hl : ((l.drop (k * fill)).take mi).length = mi := by rw [List.length_take, List.length_drop]; omega
  have key : ∀ (i : Nat), i < mi → ∃ e : Ent, ((l.drop (k * fill)).take mi)[i]? = some e ∧ l[k * fill + i]? = some e := by
    intro i hi
    have : k * fill + i < l.length := by omega
    exact ⟨l[k * fill + i], by rw [List.getElem?_take, if_pos hi, List.getElem?_drop]; exact List.getElem?_eq_getElem this, List.getElem?_eq_getElem this⟩
  have idx : ∀ (i j : Nat), i < mi → j < 2 → ((vs.drop (k * fill * 2)).take (mi * 2))[2 * i + j]? = vs[2 * (k * fill + i) + j]? := by
    intro i j hi hj
    rw [List.getElem?_take, if_pos (by omega), List.getElem?_drop, show k * fill * 2 + (2 * i + j) = 2 * (k * fill + i) + j by omega]
  refine ⟨kA, kc, vA, vc, rfl, rfl, ⟨a1, a2, Lib.hid (by rw [List.length_map, hl]), kus, (Rd.of_own h.k).weak h1, fun i t ht' => ?_⟩, ⟨b1, b2, Lib.hid (by rw [List.length_map, hl]), vus, (Rd.of_own h.v).weak h1, fun i t ht' => ?_⟩⟩
  · have hi : i < mi := by have := (List.getElem?_eq_some_iff.1 ht').1; rw [List.length_map, hl] at this; exact this
    obtain ⟨e, e1, e2⟩ := key i hi
    rw [List.getElem?_map, e1] at ht'
    injection ht' with ht'
    subst ht'
    obtain ⟨u, v, q1, q2, q3, q4⟩ := ht _ e e2
    have hx := idx i 0 hi (by omega)
    rw [Nat.add_zero, Nat.add_zero] at hx
    exact ⟨u, by rw [h.ku i hi, hx]; exact q1, q3.weak h2⟩
  · have hi : i < mi := by have := (List.getElem?_eq_some_iff.1 ht').1; rw [List.length_map, hl] at this; exact this
    obtain ⟨e, e1, e2⟩ := key i hi
    rw [List.getElem?_map, e1] at ht'
    injection ht' with ht'
    subst ht'
    obtain ⟨u, v, q1, q2, q3, q4⟩ := ht _ e e2
    exact ⟨v, by rw [h.vu i hi, idx i 1 hi (by omega)]; exact q2, q4.weak h2⟩

/-- behind the node that has been told: one leaf more -/
theorem lv_next {w wq wx w' : World} {F F' : Nat → Prop} {p mm : Nat} {nodes root : Int} {done0 : List Slt} {f : Nat → Slt} {hi : Nat → List UInt8} {k : Nat} {o o' : Value} (h : Lv w wq F F' p mm nodes root done0 f hi k o) (hb : Below wq.heap.size wq wx)
    {s : Slt} {high : List UInt8} {id : Int} (hp : Put wx w' F' p mm nodes root ((done0 ++ (List.range k).map f) ++ [s]) w.heap.size o o' (((List.range k).map fun (i : Nat) => ((done0.length : Int) + (i : Int) + 1, hi i)) ++ [(id, high)]))
    (hs : s = f k) (hid : id = (done0.length : Int) + (k : Int) + 1) (hh : high = hi k) (hob : ∀ g, o.ownBlock = some g → w.heap.size ≤ g) : ∃ F'', Lv w w' F F'' p mm nodes root done0 f hi (k + 1) o' ∧ ∀ b, b < wx.heap.size → Rest F' mm o b → Rest F'' mm o' b := by
  obtain ⟨⟨F'', m1, m2, m3, m4⟩, hc⟩ := hp
  subst hs; subst hid; subst hh
  have hsz := h.chg.size
  refine ⟨F'', ⟨?_, ?_, ?_, fun b hb' => (m2 b hb').elim (fun h' => h.sub b h') (fun h' => .inr (by have := hb.size; omega))⟩, m4⟩
  · rw [List.range_succ, List.map_append, ← List.append_assoc]; exact m1
  · rw [List.range_succ, List.map_append]; exact m3
  · refine (h.chg.then hb).trans hc (fun b hb' hx => ?_)
    rcases hx with (hx | hx) | hx
    · exact (h.sub b hx).elim .inl (fun h' => by omega)
    · exact .inr hx
    · exact absurd (hob b hx) (by omega)

theorem small_part {l : List Ent} (hs : ∀ e ∈ l, e.1.length ≤ 1152921504606 ∧ e.2.length ≤ 1152921504606) (s m : Nat) (hm : m ≤ 1152921504606) (lev right : Int) (high : List UInt8) (hh : high.length ≤ 1152921504606) : Small ⟨lev, high, right, ((l.drop s).take m).map Prod.fst, ((l.drop s).take m).map Prod.snd, []⟩ := by
  have hl : ((l.drop s).take m).length ≤ m := by rw [List.length_take]; exact Nat.min_le_left _ _
  have hmem : ∀ e ∈ (l.drop s).take m, e ∈ l := fun e he => List.mem_of_mem_drop (List.mem_of_mem_take he)
  refine ⟨hh, ?_, ?_, by simp, fun t ht => ?_, fun t ht => ?_⟩
  · show (((l.drop s).take m).map Prod.fst).length ≤ _; rw [List.length_map]; omega
  · show (((l.drop s).take m).map Prod.snd).length ≤ _; rw [List.length_map]; omega
  · obtain ⟨e, he, rfl⟩ := List.mem_map.1 ht; exact (hs e (hmem e he)).1
  · obtain ⟨e, he, rfl⟩ := List.mem_map.1 ht; exact (hs e (hmem e he)).2
theorem betw_len (a b : List UInt8) : (betw a b).1.length ≤ b.length := by
  unfold betw; split
  · rw [List.length_take]; exact Nat.min_le_right _ _
  · simp

set_option maxRecDepth 100000 in
set_option maxHeartbeats 4000000 in
theorem leaves_any (F : Nat → Prop) (p mm : Nat) (nodes root : Int) (A : Option Addr) (n c : Nat) (l : List Ent) (fill M : Nat) (w : World) (hst : MakerSt w F p mm nodes root []) (hE : Ents w (Off F mm) A n l) (hnc : n ≤ c) (hcm : c ≤ maxLen)
    (h1 : 1 ≤ fill) (h2 : fill ≤ 1152921504606) (hn : n ≤ 1152921504606) (hpos : 0 < n) (hsm : ∀ e ∈ l, e.1.length ≤ 1152921504606 ∧ e.2.length ≤ 1152921504606) (hM : n ≤ M * fill ∧ M * fill < n + fill) (hMn : (M : Int) ≤ nodes) (hn1 : nodes ≤ 65536) :
    Calls Try.prog 61 #[.pointer (some ⟨mm, 0, none⟩), .slice A n c, .int .i64 fill] w fun e w' => ∃ F' v, e = .returned v ∧ Lv w w' F F' p mm nodes root [] (leafS fill l M) (hiAt fill l) M v := by
  obtain ⟨i0, hi0, iz0, iz1, iz2⟩ := info_parts bytes_info
  have HST := Lib.hid hst
  have HL := Lib.hid hE.len
  obtain ⟨_, vs, hrd, htx⟩ := hE
  have HR := Lib.hid hrd
  have HT := Lib.hid (show Txs w (Off F mm) vs l from htx)
  have HS := Lib.hid hsm
  clear hst hrd htx hsm
  go_enter Try.func61, Try.ntmps61
  go_wp2_with (go_at_call 90; refine (groupsE_any A n c fill (Off F mm) vs w HR.out hnc hcm h1 h2 hn).mono ?_; rintro e w0 ⟨K, vals, A', m, c', gv, rfl, g1, g2, g3, g4, g5, g6, g7, g8, g9, hb0⟩; obtain ⟨r, cp, hgv, hbr, hlr⟩ := g1.form (by omega); subst hgv)
  have hm0 : 0 < m := by rcases g6 with h | h; subst h; simp at g4; omega; exact h
  have hMK : M = K + 1 := by
    have a1 : K * fill < M * fill := by omega
    have a2 : M * fill < (K + 2) * fill := by rw [Nat.add_mul]; omega
    have a3 := Nat.lt_of_mul_lt_mul_right a1
    have a4 := Nat.lt_of_mul_lt_mul_right a2
    omega
  subst hMK
  have hrest0 : ∀ b, Off F mm b → Rest F mm (.slice none 0 0) b := fun b h => ⟨h, by simp [Value.ownBlock]⟩
  have H0 := Lib.hid (show Hold w0 (Rest F mm (.slice none 0 0)) w.heap.size 37 (.slice (some ⟨r, 0, none⟩) (K + 1) cp) vs fill K m vals A' c' from ⟨g1, fun g hg => by have hg : some r = some g := hg; injection hg with hg; subst hg; exact hrest0 _ ⟨fun h => by have := HST.out.2.1 _ h; omega, by have := HST.out.2.2.1; omega⟩, g2, fun i hi => let ⟨B, d, a, b, e, f⟩ := g3 i hi; ⟨B, d, a, b, e, f.weak hrest0⟩, g9.weak hrest0, g7, g8⟩)
  have HN := Lib.hid g4
  have HM := Lib.hid g5
  have HB0 := Lib.hid hb0
  clear g1 g2 g3 g4 g5 g6 g9 hb0
  go_loopg [7, 20] (K + 1) (fun g' out i wr => ∃ (k : Nat) (o : Value) (F' : Nat → Prop), g' = K + 1 - k ∧ k ≤ K + 1 ∧ i = .int .i64 k ∧ o = out ∧ Lv w wr F F' p mm nodes root [] (leafS fill l (K + 1)) (hiAt fill l) k o ∧ Hold wr (Rest F' mm o) w.heap.size 37 (.slice (some ⟨r, 0, none⟩) (K + 1) cp) vs fill K m vals A' c' ∧ Txs wr (Rest F' mm o) vs l)
  case atStart => exact ⟨0, _, F, by omega, by omega, rfl, rfl, ⟨HST.out.below HB0.out, KidRow.nil _ _ _, Chg.of_below HB0.out, fun b hb => .inl hb⟩, H0.out, (HT.out.below HB0.out).next (Chg.refl Nil _) (fun _ _ h => h) (fun b _ h => hrest0 b h)⟩
  case round =>
    obtain ⟨k, o, F', hg, hk, rfl, rfl, hlv, hho, htx⟩ := hrel
    have HG := Lib.hid hg
    have HLV := Lib.hid hlv
    have HHO := Lib.hid hho
    have HTX := Lib.hid htx
    clear hg hlv hho htx
    rename World => wq
    by_cases hlt : k < K + 1
    · obtain ⟨r', cp', B, mi, d, hr', hrl, hrD, hmi, hcell, hd1, hd2, hpr⟩ := HHO.out.at_ hlt
      injection hr' with hr' _ hr''
      injection hr' with hr'
      injection hr' with hr'
      subst hr'; subst hr''
      have HMI := Lib.hid hmi
      have HPR := Lib.hid hpr
      clear hmi hpr
      have hkm : k * fill + mi ≤ l.length := by
        have a1 := HL.out
        have a2 := HN.out
        have a3 := HMI.out
        by_cases hk' : k < K
        · rw [if_pos hk'] at a3
          have a4 : (k + 1) * fill ≤ K * fill := Nat.mul_le_mul_right _ hk'
          rw [Nat.add_mul] at a4
          omega
        · rw [if_neg hk'] at a3
          obtain rfl : k = K := by omega
          omega
      have hmi2 : mi ≤ 1152921504606 := by have := HL.out; omega
      have hmi0 : 0 < mi := by have a3 := HMI.out; rw [a3]; split <;> omega
      have HKM := Lib.hid hkm
      clear hkm hd2
      have HOB : Hid (∀ g, o.ownBlock = some g → w.heap.size ≤ g ∧ Off F' mm g) := Lib.hid (by obtain ⟨us, a, b, _⟩ := HLV.out.row; exact fun g hg => ⟨(own_lt a g hg).1, b g hg⟩)
      have HSZ := Lib.hid HLV.out.chg.size
      have HKN : Hid (((List.range k).map (leafS fill l (K + 1))).length = k) := Lib.hid (by simp)
      go_wp2
      refine leaves_in (Rest F' mm o) vs l B mi d k fill wq hmi2 hd1 _ HPR.out HTX.out HKM.out ?_
      intro v13 v28 v29 v30 v31 v32 v33 v34 v35 v36 v37 v38 v39 v40 v41 v42 v43 v44 v45 v46 v47 v48 v49 kv vv kus vus wz hbk hrw hbz
      have HBK := Lib.hid hbk
      have HBZ := Lib.hid hbz
      obtain ⟨kA, kc, vA, vc, rfl, rfl, tk, tv⟩ := rows2_tx (G := Off F' mm) hrw (HTX.out.below hbz) HKM.out (fun b hb => ⟨fun h => by have := HLV.out.st.2.1 b h; omega, by have := HLV.out.st.2.2.1; omega⟩) (fun b hb => hb.1)
      have HTQ : Hid ((∀ (w5 : World), Below wz.heap.size wz w5 → ∀ u, Tx (w5.setCell ⟨wq.heap.size, 1, none⟩ u) (Off F' mm) kA mi kc (((l.drop (k * fill)).take mi).map Prod.fst)) ∧ (∀ (w5 : World), Below wz.heap.size wz w5 → ∀ u, Tx (w5.setCell ⟨wq.heap.size, 1, none⟩ u) (Off F' mm) vA mi vc (((l.drop (k * fill)).take mi).map Prod.snd))) := Lib.hid (by
        obtain ⟨kA', kc', vA', vc', e1, e2, tk', tv'⟩ := rows2_tx (G := fun b => Off F' mm b ∧ b ≠ wq.heap.size) hrw (Txs.next HTX.out (Chg.of_below (S := Nil) hbz) (fun _ _ h => h) (D' := fun b => Rest F' mm o b ∧ b < wq.heap.size) (fun b hb h => ⟨h, hb⟩)) HKM.out (fun b hb => ⟨⟨fun h => by have := HLV.out.st.2.1 b h; omega, by have := HLV.out.st.2.2.1; omega⟩, by omega⟩) (fun b hb => ⟨hb.1.1, by omega⟩)
        injection e1 with e1 _ e1'
        injection e2 with e2 _ e2'
        subst e1; subst e1'; subst e2; subst e2'
        exact ⟨fun w5 h5 u => ((tk'.below h5).chg (Chg.set1 _ _ _ _) (fun b hb e => hb.2 e)).weak (fun b hb => hb.1), fun w5 h5 u => ((tv'.below h5).chg (Chg.set1 _ _ _ _) (fun b hb e => hb.2 e)).weak (fun b hb => hb.1)⟩)
      have HTK := Lib.hid tk
      have HTV := Lib.hid tv
      have hqR : Rest F' mm o wq.heap.size := ⟨⟨fun h => by have := HLV.out.st.2.1 _ h; omega, by have := HLV.out.st.2.2.1; omega⟩, fun e => by obtain ⟨us, a, _⟩ := HLV.out.row; have := (own_lt a _ e).2; omega⟩
      have HQR := Lib.hid hqR
      clear hbk hrw hbz tk tv hqR
      by_cases hmore : k < K
      · have hmf : Hid (mi = fill) := Lib.hid (by have := HMI.out; rw [if_pos hmore] at this; exact this)
        obtain ⟨r2, cp2, B2, mi2, d2, hr2, _, _, hmi2', hcell2, _, _, hpr2⟩ := HHO.out.at_ (show k + 1 < K + 1 by omega)
        injection hr2 with hr2 _ hr2'
        injection hr2 with hr2
        injection hr2 with hr2
        subst hr2; subst hr2'
        have hm2 : 0 < mi2 := by rw [hmi2']; split <;> omega
        have hlk : (k + 1) * fill + mi2 ≤ l.length := by
          have a1 := HL.out
          have a2 := HN.out
          by_cases hk' : k + 1 < K
          · rw [if_pos hk'] at hmi2'
            have a4 : (k + 1 + 1) * fill ≤ K * fill := Nat.mul_le_mul_right _ hk'
            rw [Nat.add_mul (k + 1)] at a4
            omega
          · rw [if_neg hk'] at hmi2'
            obtain rfl : k + 1 = K := by omega
            omega
        have HLK := Lib.hid hlk
        obtain ⟨b, o1, Ak, nk, ck, Av, nv, cv, rfl, hDb, e1, e2, c1', c2', ea, hea, sa, _⟩ := part_at HPR.out HTX.out HKM.out (j := mi - 1) (by omega)
        obtain ⟨b3, o3, Bk, nk3, ck3, Bv, nv3, cv3, rfl, hDb3, f1, f2, d1', d2', eb, heb, sb, _⟩ := part_at hpr2 HTX.out hlk (j := 0) hm2
        rw [Nat.zero_mul, Nat.add_zero] at d1'
        have C1 := Lib.hid (bkeep HBZ.out c1')
        have C2 := Lib.hid (bkeep HBZ.out hcell2)
        have C3 := Lib.hid (bkeep HBZ.out d1')
        have la : ea.1.length ≤ 1152921504606 := (HS.out _ (List.mem_of_getElem? hea)).1
        have lb : eb.1.length ≤ 1152921504606 := (HS.out _ (List.mem_of_getElem? heb)).1
        have HSA := Lib.hid (sa.below HBZ.out).bt
        have HSB := Lib.hid (sb.below HBZ.out).bt
        have hhi : Hid (hiAt fill l k = (betw ea.1 eb.1).1) := Lib.hid (by
          have q1 : l.getD ((k + 1) * fill - 1) ([], []) = ea := by
            rw [show (k + 1) * fill - 1 = k * fill + (mi - 1) by have := hmf.out; rw [Nat.add_mul]; omega, List.getD_eq_getElem?_getD, hea]; rfl
          have q2 : l.getD ((k + 1) * fill) ([], []) = eb := by
            rw [List.getD_eq_getElem?_getD]; rw [Nat.add_zero] at heb; rw [heb]; rfl
          unfold hiAt
          rw [if_pos (by omega), q1, q2])
        clear hlk hmi2' hpr2 hcell2 c1' c2' d1' d2' e1 e2 f1 f2 hea heb sa sb hDb hDb3
        have hKK : K ≤ 65536 := by omega
        go_wp2
        refine leaf_high r K cp k b o1 mi d wq.heap.size b3 o3 mi2 d2 Ak Bk nk nk3 ck ck3 _ _ ea.1 eb.1 wz _ (Lib.hid (fun _ _ _ _ h => h)) hmore (by omega) hmi0 hmi2 hm2 C1.out C2.out C3.out HSA HSB la lb _ _ _ _ _ HBK ?_
        intro v56 v57 v58 v59 v60 v61 v62 v63 v64 v65 v66 v67 v68 v69 v70 v71 v72 v73 v74 v75 v76 K5 n5 c5 w5 hk5 hb5
        have HB5 := Lib.hid hb5
        have HBX : Hid (Below wq.heap.size wq (w5.setCell ⟨wq.heap.size, 1, none⟩ (.slice K5 n5 c5))) := Lib.hid ((HBZ.out.trans (hb5.mono HBZ.out.size)).setCell (p := ⟨wq.heap.size, 1, none⟩) (Nat.le_refl _) _)
        have HBK5 : Hid (Blk (w5.setCell ⟨wq.heap.size, 1, none⟩ (.slice K5 n5 c5)) wq.heap.size 93 #[.int .i64 0, .slice K5 n5 c5, .int .i64 0, .slice kA mi kc, .slice vA mi vc, .slice none 0 0]) := Lib.hid ((HBK.out.below hb5).set_ 1 _)
        have hqz : wq.heap.size < wz.heap.size := HBK.out.lt
        have hcx : Chg (One wq.heap.size) w5 (w5.setCell ⟨wq.heap.size, 1, none⟩ (.slice K5 n5 c5)) := Chg.set1 _ _ _ _
        have HT5 := Lib.hid (((hk5.weak (G := fun b => Rest F' mm o b ∧ b ≠ wq.heap.size) (fun b hb => ⟨⟨⟨fun h => by have := HLV.out.st.2.1 b h; have hb : wz.heap.size ≤ b := hb; omega, by have := HLV.out.st.2.2.1; have hb : wz.heap.size ≤ b := hb; omega⟩, fun e => by obtain ⟨us, a, _⟩ := HLV.out.row; have := (own_lt a _ e).2; have hb : wz.heap.size ≤ b := hb; omega⟩, by have hb : wz.heap.size ≤ b := hb; omega⟩)).chg hcx (fun b hb e => hb.2 e)).weak (G := Rest F' mm o) (fun b hb => hb.1))
        clear hk5 hb5 hcx
        have H5K : Hid (Tx (w5.setCell ⟨wq.heap.size, 1, none⟩ (.slice K5 n5 c5)) (Off F' mm) kA mi kc (((l.drop (k * fill)).take mi).map Prod.fst)) := Lib.hid (HTQ.out.1 _ HB5.out (.slice K5 n5 c5))
        have H5V : Hid (Tx (w5.setCell ⟨wq.heap.size, 1, none⟩ (.slice K5 n5 c5)) (Off F' mm) vA mi vc (((l.drop (k * fill)).take mi).map Prod.snd)) := Lib.hid (HTQ.out.2 _ HB5.out (.slice K5 n5 c5))
        go_wp2
        refine leafp F' p mm nodes root ([] ++ (List.range k).map (leafS fill l (K + 1))) ⟨0, (betw ea.1 eb.1).1, 0, ((l.drop (k * fill)).take mi).map Prod.fst, ((l.drop (k * fill)).take mi).map Prod.snd, []⟩ K5 kA vA none n5 c5 mi kc mi vc 0 0 true wq.heap.size (w5.setCell ⟨wq.heap.size, 1, none⟩ (.slice K5 n5 c5)) w.heap.size o _ _ (Lib.hid (fun _ _ _ _ h => h)) (HLV.out.st.below HBX.out) (by simp; omega) hn1 (by simp; omega) (by have := HSZ.out; have := HBX.out.size; omega) HBK5.out HQR.out HT5.out H5K.out H5V.out (It.nil _ _) (small_part HS.out _ _ hmi2 _ _ _ (Nat.le_trans (betw_len _ _) lb)) (HLV.out.row.below HBX.out) ?_
        intro v77 v78 v79 v80 v81 v82 v83 v84 v85 v86 v87 o' w' hput
        obtain ⟨F'', lv2, hr2⟩ := lv_next HLV.out HBX.out hput (by
          have e1 : mi = fill := hmf.out
          have e2 := hhi.out
          simp only [leafS, e1, e2, if_pos (show k + 1 < K + 1 by omega), if_true, List.nil_append, List.length_map, List.length_range]) (by simp) hhi.out.symm (fun g hg => (HOB.out g hg).1)
        have HPC := Lib.hid hput.chg
        have HLV2 := Lib.hid lv2
        have HR2 := Lib.hid hr2
        clear hput lv2 hr2
        have hdis : ∀ b, Rest F' mm o b → ¬ ((F' b ∨ b = mm) ∨ o.ownBlock = some b) := fun b hb h => h.elim (fun h => h.elim hb.1.1 hb.1.2) hb.2
        go_wp2
        go_roundg (K + 1 - (k + 1))
        case measure => have := HG.out; omega
        case rel => exact ⟨k + 1, o', F'', rfl, by omega, by go_num, rfl, HLV2.out, (HHO.out.below HBX.out).next HPC.out hdis HR2.out, (HTX.out.below HBX.out).next HPC.out hdis HR2.out⟩
      · obtain rfl : k = K := by omega
        have hlm : l.length = k * fill + mi := by have a1 := HL.out; have a2 := HN.out; have a3 := HMI.out; rw [if_neg (by omega)] at a3; omega
        have hmf : mi ≤ fill := by have a2 := HM.out; have a3 := HMI.out; rw [if_neg (by omega)] at a3; omega
        have HLM := Lib.hid hlm
        clear hlm
        go_wp2
        refine leafp F' p mm nodes root ([] ++ (List.range k).map (leafS fill l (k + 1))) ⟨0, [], 0, ((l.drop (k * fill)).take mi).map Prod.fst, ((l.drop (k * fill)).take mi).map Prod.snd, []⟩ none kA vA none 0 0 mi kc mi vc 0 0 false wq.heap.size wz w.heap.size o _ _ (Lib.hid (fun _ _ _ _ h => h)) (HLV.out.st.below HBZ.out) (by simp; omega) hn1 (by simp; omega) (by have := HSZ.out; have := HBZ.out.size; omega) HBK.out HQR.out (Bt.nil _ _) HTK.out HTV.out (It.nil _ _) (small_part HS.out _ _ hmi2 _ _ _ (by simp)) (HLV.out.row.below HBZ.out) ?_
        intro v77 v78 v79 v80 v81 v82 v83 v84 v85 v86 v87 o' w' hput
        obtain ⟨F'', lv2, hr2⟩ := lv_next HLV.out HBZ.out hput (by
          have e1 : (l.drop (k * fill)).take fill = (l.drop (k * fill)).take mi := by
            have := HLM.out
            rw [List.take_of_length_le (by rw [List.length_drop]; omega), List.take_of_length_le (by rw [List.length_drop]; omega)]
          have e2 : hiAt fill l k = [] := by unfold hiAt; rw [if_neg (by have := HLM.out; rw [Nat.add_mul]; omega)]
          simp only [leafS, e1, e2, if_neg (Nat.lt_irrefl _), Bool.false_eq_true, if_false]) (by simp) (by unfold hiAt; rw [if_neg (by have := HLM.out; rw [Nat.add_mul]; omega)]) (fun g hg => (HOB.out g hg).1)
        have HPC := Lib.hid hput.chg
        have HLV2 := Lib.hid lv2
        have HR2 := Lib.hid hr2
        clear hput lv2 hr2
        have hdis : ∀ b, Rest F' mm o b → ¬ ((F' b ∨ b = mm) ∨ o.ownBlock = some b) := fun b hb h => h.elim (fun h => h.elim hb.1.1 hb.1.2) hb.2
        go_wp2
        go_roundg (k + 1 - (k + 1))
        case measure => have := HG.out; omega
        case rel => exact ⟨k + 1, o', F'', rfl, by omega, by go_num, rfl, HLV2.out, (HHO.out.below HBZ.out).next HPC.out hdis HR2.out, (HTX.out.below HBZ.out).next HPC.out hdis HR2.out⟩
    · obtain rfl : k = K + 1 := by omega
      go_wp2
      go_ret
      exact ⟨F', _, rfl, HLV.out⟩
end Go.Proofs.Ytgjphmlmndcaeaa

namespace Go.Proofs.Ytgjphmlmndcaeaa
open Go.RowKit

/-- two rows that are filled side by side from a part's kids -/
structure RowsK (w : World) (base : Nat) (pxs : List Value) (j i : Nat) (kv dv : Value) (kus dus : List Value) : Prop where
  k : w.ownsRow base 41 1 kv j kus
  v : w.ownsRow base 3 1 dv i dus
  dis : ∀ g, kv.ownBlock = some g → dv.ownBlock ≠ some g
  ku : ∀ a, a < j → kus[a]? = pxs[2 * a + 1]?
  vu : ∀ a, a < i → dus[a]? = pxs[2 * a]?
section
variable {w w2 w' : World} {base : Nat} {pxs : List Value} {j i : Nat} {kv dv v2 u : Value} {kus dus : List Value}
theorem RowsK.nil (w : World) (base : Nat) (pxs : List Value) : RowsK w base pxs 0 0 (.slice none 0 0) (.slice none 0 0) [] [] :=
  ⟨World.ownsRow_nil _ _ _ _, World.ownsRow_nil _ _ _ _, fun g h => by simp [Value.ownBlock] at h, fun a ha => absurd ha (by omega), fun a ha => absurd ha (by omega)⟩
theorem RowsK.below (h : RowsK w base pxs j i kv dv kus dus) (hb : Below w.heap.size w w') : RowsK w' base pxs j i kv dv kus dus := ⟨own_below h.k hb, own_below h.v hb, h.dis, h.ku, h.vu⟩
theorem RowsK.far (h : RowsK w base pxs j i kv dv kus dus) {b : Nat} (o : Nat) (u : Value) (hb : b < base) : RowsK (w.setCell ⟨b, o, none⟩ u) base pxs j i kv dv kus dus :=
  ⟨own_chg h.k (Chg.set1 w b o u) (fun g hg e => by have := (own_lt h.k g hg).1; have e : g = b := e; omega), own_chg h.v (Chg.set1 w b o u) (fun g hg e => by have := (own_lt h.v g hg).1; have e : g = b := e; omega), h.dis, h.ku, h.vu⟩
theorem RowsK.key (h : RowsK w base pxs j i kv dv kus dus) (ho : w2.ownsRow base 41 1 v2 (j + 1) (kus ++ [u])) (hg : w.grownBy w2 kv.ownBlock) (hat : v2.ownBlock = kv.ownBlock ∨ v2.ownBlock = some w.heap.size)
    (hu : pxs[2 * j + 1]? = some u) : RowsK w2 base pxs (j + 1) i v2 dv (kus ++ [u]) dus :=
  ⟨ho, own_chg h.v (Chg.of_grown hg) (fun g hv hk => h.dis g hk hv), fun g hk hv => hat.elim (fun e => h.dis g (e ▸ hk) hv) (fun e => by rw [e] at hk; injection hk with hk; have := (own_lt h.v g hv).2; omega), row_push (f := fun a => 2 * a + 1) h.ku (by have := h.k.1; omega) hu, h.vu⟩
theorem RowsK.kid (h : RowsK w base pxs j i kv dv kus dus) (ho : w2.ownsRow base 3 1 v2 (i + 1) (dus ++ [u])) (hg : w.grownBy w2 dv.ownBlock) (hat : v2.ownBlock = dv.ownBlock ∨ v2.ownBlock = some w.heap.size)
    (hu : pxs[2 * i]? = some u) : RowsK w2 base pxs j (i + 1) kv v2 kus (dus ++ [u]) :=
  ⟨own_chg h.k (Chg.of_grown hg) (fun g hk hv => h.dis g hk hv), ho, fun g hk hv => hat.elim (fun e => h.dis g hk (e ▸ hv)) (fun e => by rw [e] at hv; injection hv with hv; have := (own_lt h.k g hk).2; omega), h.ku, row_push (f := fun a => 2 * a) h.vu (by have := h.v.1; omega) hu⟩
end

/-- the numbers and highs of kids -/
def Kds (w : World) (D : Nat → Prop) (us : List Value) (ks : List (Int × List UInt8)) : Prop := ∀ (i : Nat) (k : Int × List UInt8), ks[i]? = some k → us[2 * i]? = some (.int .i64 k.1) ∧ ∃ u, us[2 * i + 1]? = some u ∧ SB w D u k.2
theorem Kds.next {w w' : World} {S D D' : Nat → Prop} {us : List Value} {ks : List (Int × List UInt8)} (h : Kds w D us ks) (hc : Chg S w w') (hs : ∀ b, D b → ¬ S b) (hD : ∀ b, b < w.heap.size → D b → D' b) : Kds w' D' us ks :=
  fun i k hk => let ⟨a, u, b, c⟩ := h i k hk; ⟨a, u, b, c.next hc hs hD⟩
theorem Kds.below {w w' : World} {D : Nat → Prop} {us : List Value} {ks : List (Int × List UInt8)} (h : Kds w D us ks) (hb : Below w.heap.size w w') : Kds w' D us ks := h.next (Chg.of_below (S := Nil) hb) (fun _ _ h => h) (fun _ _ h => h)

theorem kid_at {w : World} {D : Nat → Prop} {us : List Value} {ks : List (Int × List UInt8)} {B : Option Addr} {s m j : Nat} (hr : Rd w D 2 B m ((us.drop (s * 2)).take (m * 2))) (ht : Kds w D us ks) (hm : s + m ≤ ks.length) (hj : j < m) :
    ∃ b o id Ah nh ch, B = some ⟨b, o, none⟩ ∧ D b ∧ ((us.drop (s * 2)).take (m * 2))[2 * j]? = some (.int .i64 id) ∧ ((us.drop (s * 2)).take (m * 2))[2 * j + 1]? = some (.slice Ah nh ch) ∧ w.cell? ⟨b, o + j * 2, none⟩ = some (.int .i64 id) ∧ w.cell? ⟨b, o + j * 2 + 1, none⟩ = some (.slice Ah nh ch) ∧ ∃ x : Int × List UInt8, ks[s + j]? = some x ∧ id = x.1 ∧ SB w D (.slice Ah nh ch) x.2 := by
  obtain ⟨b, o, u, v, e, hb, e1, e2, c1, c2⟩ := hr.at2 hj
  have hl : s + j < ks.length := by omega
  obtain ⟨a1, v', a2, s2⟩ := ht (s + j) _ (List.getElem?_eq_getElem hl)
  have q1 := e1
  have q2 := e2
  rw [List.getElem?_take, if_pos (by omega), List.getElem?_drop, show s * 2 + 2 * j = 2 * (s + j) by omega, a1] at q1
  rw [List.getElem?_take, if_pos (by omega), List.getElem?_drop, show s * 2 + (2 * j + 1) = 2 * (s + j) + 1 by omega, a2] at q2
  injection q1 with q1
  injection q2 with q2
  subst q1; subst q2
  obtain ⟨Av, nv, cv, rfl, t2⟩ := s2
  rw [Nat.mul_comm 2 j] at c1 c2
  rw [← Nat.add_assoc] at c2
  exact ⟨b, o, _, Av, nv, cv, e, hb, e1, e2, c1, c2, _, List.getElem?_eq_getElem hl, rfl, ⟨_, _, _, rfl, t2⟩⟩

noncomputable def abKeyC : Code := codeOr (Try.f62.body.bind (regionAt 12))
set_option maxRecDepth 100000 in
set_option maxHeartbeats 4000000 in
theorem ab_key (b o mi d q j : Nat) (base : Nat) (kv : Value) (n : Nat) (kus : List Value) (Ah : Option Addr) (nh ch : Nat) (w : World) {u0 u1 u2 u3 u4 u5 u6 u7 u8 u9 u10 u11 u15 u16 u17 u18 u19 u20 u21 u22 u23 u24 u25 u26 u27 u28 u29 u30 u31 u32 u33 u34 u35 u36 u37 u38 u39 u40 u41 u42 u43 u44 u45 u46 u47 u48 u49 u50 u51 u52 u53 u54 u55 u56 u57 u58 u59 u60 u61 u62 u63 u64 u65 u66 u67 u68 u69 u70 u71 u72 u73 u74 u75 u76 u77 u78 u79 u80 u81 u82 u83 u84 u85 u86 : Value} (Q : Exit → Act → World → Prop) (HQP : Hid (∀ c t (a : Act) w, Q (.panic c) ⟨t, a.defers⟩ w → Q (.panic c) a w))
    (hj : 1 ≤ j) (hjm : j ≤ mi) (hm : mi ≤ 1152921504606) (hn : n ≤ 1152921504606) (hbase : base ≤ w.heap.size) (hqb : q < base) (hbb : b < base)
    (c1 : w.cell? ⟨b, o + (j - 1) * 2 + 1, none⟩ = some (.slice Ah nh ch)) (c2 : w.cell? ⟨q, 3, none⟩ = some kv) (cf : ∀ o, w.frozen? ⟨q, o, none⟩ = false) (hown : w.ownsRow base 41 1 kv n kus)
    (hexit : ∀ (v38 v39 v40 v41 v42 v43 v44 v45 v46 v47 v48 v49 v50 : Value) (v2 : Value) (wa w2 : World), Below w.heap.size w wa → w2.ownsRow base 41 1 v2 (n + 1) (kus ++ [.slice Ah nh ch]) → wa.grownBy w2 kv.ownBlock → (v2.ownBlock = kv.ownBlock ∨ v2.ownBlock = some wa.heap.size) → Q .normal ⟨(u0 :: u1 :: u2 :: u3 :: u4 :: u5 :: u6 :: u7 :: u8 :: u9 :: u10 :: u11 :: .slice (some ⟨b, o, none⟩) mi d :: .pointer (some ⟨q, 0, none⟩) :: .int .i64 j :: u15 :: u16 :: u17 :: u18 :: u19 :: u20 :: u21 :: u22 :: u23 :: u24 :: u25 :: u26 :: u27 :: u28 :: u29 :: u30 :: u31 :: u32 :: u33 :: u34 :: u35 :: u36 :: u37 :: v38 :: v39 :: v40 :: v41 :: v42 :: v43 :: v44 :: v45 :: v46 :: v47 :: v48 :: v49 :: v50 :: u51 :: u52 :: u53 :: u54 :: u55 :: u56 :: u57 :: u58 :: u59 :: u60 :: u61 :: u62 :: u63 :: u64 :: u65 :: u66 :: u67 :: u68 :: u69 :: u70 :: u71 :: u72 :: u73 :: u74 :: u75 :: u76 :: u77 :: u78 :: u79 :: u80 :: u81 :: u82 :: u83 :: u84 :: u85 :: u86 :: []).toArray, []⟩ (w2.setCell ⟨q, 3, none⟩ v2)) :
    Code.wp Try.prog abKeyC Q ⟨(u0 :: u1 :: u2 :: u3 :: u4 :: u5 :: u6 :: u7 :: u8 :: u9 :: u10 :: u11 :: .slice (some ⟨b, o, none⟩) mi d :: .pointer (some ⟨q, 0, none⟩) :: .int .i64 j :: u15 :: u16 :: u17 :: u18 :: u19 :: u20 :: u21 :: u22 :: u23 :: u24 :: u25 :: u26 :: u27 :: u28 :: u29 :: u30 :: u31 :: u32 :: u33 :: u34 :: u35 :: u36 :: u37 :: u38 :: u39 :: u40 :: u41 :: u42 :: u43 :: u44 :: u45 :: u46 :: u47 :: u48 :: u49 :: u50 :: u51 :: u52 :: u53 :: u54 :: u55 :: u56 :: u57 :: u58 :: u59 :: u60 :: u61 :: u62 :: u63 :: u64 :: u65 :: u66 :: u67 :: u68 :: u69 :: u70 :: u71 :: u72 :: u73 :: u74 :: u75 :: u76 :: u77 :: u78 :: u79 :: u80 :: u81 :: u82 :: u83 :: u84 :: u85 :: u86 :: []).toArray, []⟩ w := by
  obtain ⟨i0, hi0, iz0, iz1, iz2⟩ := info_parts bytes_info
  have HEX := Lib.hid hexit
  have HO := Lib.hid hown
  have w1 := IntWalk.i64_in ((j : Int) - 1) (by omega)
  have w2 : (0 : Int) ≤ (j : Int) - 1 := by omega
  have w3 : ((j : Int) - 1) < mi := by omega
  have w4 : ((j : Int) - 1).toNat = j - 1 := by omega
  have w8 : (1 : Int) ≤ (j : Int) := by omega
  have HC := Lib.hid cf
  clear hexit hown cf
  conv => arg 2; whnf
  refine wp_region_U (fun w' => w'.cell? ⟨b, o + (j - 1) * 2 + 1, none⟩ = some (.slice Ah nh ch) ∧ w'.cell? ⟨q, 3, none⟩ = some kv) 13 (by kernel_rfl) ?_
  have S0 : w.drew.cell? ⟨b, o + (j - 1) * 2 + 1, none⟩ = some (.slice Ah nh ch) ∧ w.drew.cell? ⟨q, 3, none⟩ = some kv := ⟨c1, c2⟩
  refine wpU_free (i := 0) (v := ?_) rfl (by kernel_rfl) (by kernel_rfl) (by kernel_rfl) (by kernel_rfl) (by first | exact fun _ _ _ h => h | exact fun c a w h => HQP.out c _ a w h) (fun _ => S0) (Or.inl ⟨by rfl, ?_⟩) ?_
  rotate_left
  · intro w hSw
    go_simp
    try with_reducible rfl
  try simp only [Act.put, List.setIfInBounds_toArray, List.set_cons_zero, List.set_cons_succ]
  refine wpU_free (i := 1) (v := ?_) rfl (by kernel_rfl) (by kernel_rfl) (by kernel_rfl) (by kernel_rfl) (by first | exact fun _ _ _ h => h | exact fun c a w h => HQP.out c _ a w h) (fun _ => S0) (Or.inl ⟨by rfl, ?_⟩) ?_
  rotate_left
  · intro w hSw
    go_simp
    try with_reducible rfl
  try simp only [Act.put, List.setIfInBounds_toArray, List.set_cons_zero, List.set_cons_succ]
  refine wpU_free (i := 3) (v := ?_) rfl (by kernel_rfl) (by kernel_rfl) (by kernel_rfl) (by kernel_rfl) (by first | exact fun _ _ _ h => h | exact fun c a w h => HQP.out c _ a w h) (fun _ => S0) (Or.inl ⟨by rfl, ?_⟩) ?_
  rotate_left
  · intro w hSw
    go_simp
    try with_reducible rfl
  try simp only [Act.put, List.setIfInBounds_toArray, List.set_cons_zero, List.set_cons_succ]
  refine wpU_free (i := 4) (v := ?_) rfl (by kernel_rfl) (by kernel_rfl) (by kernel_rfl) (by kernel_rfl) (by first | exact fun _ _ _ h => h | exact fun c a w h => HQP.out c _ a w h) (fun _ => S0) (Or.inl ⟨by rfl, ?_⟩) ?_
  rotate_left
  · intro w hSw
    go_simp
    try with_reducible rfl
  try simp only [Act.put, List.setIfInBounds_toArray, List.set_cons_zero, List.set_cons_succ]
  refine wpU_free (i := 5) (v := ?_) rfl (by kernel_rfl) (by kernel_rfl) (by kernel_rfl) (by kernel_rfl) (by first | exact fun _ _ _ h => h | exact fun c a w h => HQP.out c _ a w h) (fun _ => S0) (Or.inl ⟨by rfl, ?_⟩) ?_
  rotate_left
  · intro w hSw
    go_simp
    try with_reducible rfl
  try simp only [Act.put, List.setIfInBounds_toArray, List.set_cons_zero, List.set_cons_succ]
  refine wpU_free (i := 6) (v := ?_) rfl (by kernel_rfl) (by kernel_rfl) (by kernel_rfl) (by kernel_rfl) (by first | exact fun _ _ _ h => h | exact fun c a w h => HQP.out c _ a w h) (fun _ => S0) (Or.inl ⟨by rfl, ?_⟩) ?_
  rotate_left
  · intro w hSw
    go_simp
    try with_reducible rfl
  try simp only [Act.put, List.setIfInBounds_toArray, List.set_cons_zero, List.set_cons_succ]
  refine wpU_free (i := 7) (v := ?_) rfl (by kernel_rfl) (by kernel_rfl) (by kernel_rfl) (by kernel_rfl) (by first | exact fun _ _ _ h => h | exact fun c a w h => HQP.out c _ a w h) (fun _ => S0) (Or.inl ⟨by rfl, ?_⟩) ?_
  rotate_left
  · intro w hSw
    go_simp
    try with_reducible rfl
  try simp only [Act.put, List.setIfInBounds_toArray, List.set_cons_zero, List.set_cons_succ]
  refine wpU_take (i := 2) (v := ?_) rfl (by kernel_rfl) (by kernel_rfl) (by kernel_rfl) (by kernel_rfl) (by first | exact fun _ _ _ h => h | exact fun c a w h => HQP.out c _ a w h) S0 (Or.inl ⟨by rfl, ?_⟩) ?_
  rotate_left
  · intro w hSw
    obtain ⟨s0, s1⟩ := hSw
    go_simp
    try with_reducible rfl
  try simp only [Act.put, List.setIfInBounds_toArray, List.set_cons_zero, List.set_cons_succ]
  refine wpU_take (i := 8) (v := ?_) rfl (by kernel_rfl) (by kernel_rfl) (by kernel_rfl) (by kernel_rfl) (by first | exact fun _ _ _ h => h | exact fun c a w h => HQP.out c _ a w h) S0 (Or.inl ⟨by rfl, ?_⟩) ?_
  rotate_left
  · intro w hSw
    obtain ⟨s0, s1⟩ := hSw
    go_simp
    try with_reducible rfl
  try simp only [Act.put, List.setIfInBounds_toArray, List.set_cons_zero, List.set_cons_succ]
  refine wpU_one (i := 9) (by kernel_rfl) rfl (fun K hK => ?_)
  go_simp
  have hb2 : Below w.drew.heap.size w.drew (w.drew.alloc (.cells #[.slice Ah nh ch] 41)) := (Below.refl _ _).alloc (Nat.le_refl _) _; have S2 : (w.drew.alloc (.cells #[.slice Ah nh ch] 41)).cell? ⟨b, o + (j - 1) * 2 + 1, none⟩ = some (.slice Ah nh ch) ∧ (w.drew.alloc (.cells #[.slice Ah nh ch] 41)).cell? ⟨q, 3, none⟩ = some kv := ⟨bkeep hb2 S0.1, bkeep hb2 S0.2⟩
  refine hK.out _ _ (fun _ => S2) ?_
  clear hK K
  try simp only [Act.put, List.setIfInBounds_toArray, List.set_cons_zero, List.set_cons_succ]
  refine wpU_one (i := 10) (by kernel_rfl) rfl (fun K hK => ?_)
  refine step_append_any _ rfl (.tmp 40) (.tmp 47) _ rfl base 41 i0 _ 1 24 Try.underlying89 hi0 iz0 iz1 iz2 rfl (by omega) kv n kus rfl (own_below HO.out ((Below.refl _ _).drew.alloc (Nat.le_refl _) _)) (From w.heap.size) (some ⟨w.heap.size, 0, none⟩) 1 1 [.slice Ah nh ch] rfl (Rd.one w.drew _ _) (by intro u hu; simp at hu; subst hu; rfl) (by simp only [maxLen]; omega) (by omega) (by simp; omega) ?_; intro v2 w2 hown2 hg2 hat2; obtain ⟨K2, kc2, hv2, _, _⟩ := own_val hown2; subst hv2; have hg2' := hg2; have HO2 := Lib.hid hown2; have HG2 := Lib.hid hg2; have HA2 := Lib.hid hat2; have hqf : w2.cell? ⟨q, 3, none⟩ = some kv := (Chg.of_grown hg2).cell (fun e => by have := (own_lt HO.out _ e).1; omega) S2.2; have hf2 : ∀ o, w2.frozen? ⟨q, o, none⟩ = false := SoftAt.chg (w := w) HC.out (((Chg.refl (fun b => kv.ownBlock = some b) w).then ((Below.refl _ _).drew.alloc (Nat.le_refl _) _)).trans (Chg.of_grown hg2) (fun _ _ h => h)) (by have := cell_lt c2; exact this) (fun e => by have := (own_lt HO.out _ e).1; omega); clear hown2 hg2 hat2; have S3 : w2.cell? ⟨b, o + (j - 1) * 2 + 1, none⟩ = some (.slice Ah nh ch) ∧ w2.cell? ⟨q, 3, none⟩ = some kv := ⟨(Chg.of_grown hg2').cell (fun e => by have := (own_lt HO.out _ e).1; omega) S2.1, hqf⟩
  refine hK.out _ _ (fun _ => S3) ?_
  clear hK K
  try simp only [Act.put, List.setIfInBounds_toArray, List.set_cons_zero, List.set_cons_succ]
  refine wpU_free (i := 11) (v := ?_) rfl (by kernel_rfl) (by kernel_rfl) (by kernel_rfl) (by kernel_rfl) (by first | exact fun _ _ _ h => h | exact fun c a w h => HQP.out c _ a w h) (fun _ => S3) (Or.inl ⟨by rfl, ?_⟩) ?_
  rotate_left
  · intro w hSw
    go_simp
    try with_reducible rfl
  try simp only [Act.put, List.setIfInBounds_toArray, List.set_cons_zero, List.set_cons_succ]
  refine wpU_free (i := 12) (v := ?_) rfl (by kernel_rfl) (by kernel_rfl) (by kernel_rfl) (by kernel_rfl) (by first | exact fun _ _ _ h => h | exact fun c a w h => HQP.out c _ a w h) (fun _ => S3) (Or.inl ⟨by rfl, ?_⟩) ?_
  rotate_left
  · intro w hSw
    go_simp
    try with_reducible rfl
  try simp only [Act.put, List.setIfInBounds_toArray, List.set_cons_zero, List.set_cons_succ]
  refine wpU_one (i := 13) (by kernel_rfl) rfl (fun K hK => ?_)
  go_simp
  refine hK.out _ _ (fun h => absurd h (by decide)) ?_
  clear hK K
  try simp only [Act.put, List.setIfInBounds_toArray, List.set_cons_zero, List.set_cons_succ]
  refine wpU_done (by kernel_rfl) ?_ _
  exact HEX.out _ _ _ _ _ _ _ _ _ _ _ _ _ _ _ w2 ((Below.refl _ _).drew.alloc (Nat.le_refl _) _) HO2.out HG2.out HA2.out

noncomputable def abKidC : Code := codeOr (Try.f62.body.bind (regionAt 13))
set_option maxRecDepth 100000 in
set_option maxHeartbeats 4000000 in
theorem ab_kid (q xb : Nat) (id lev : Int) (base : Nat) (kv dv hv : Value) (n : Nat) (dus : List Value) (w : World) {u0 u1 u2 u3 u4 u5 u6 u7 u8 u9 u10 u11 u12 u14 u16 u17 u18 u19 u20 u21 u22 u23 u24 u25 u26 u27 u28 u29 u30 u31 u32 u33 u34 u35 u36 u37 u38 u39 u40 u41 u42 u43 u44 u45 u46 u47 u48 u49 u50 u51 u52 u53 u54 u55 u56 u57 u58 u59 u60 u61 u62 u63 u64 u65 u66 u67 u68 u69 u70 u71 u72 u73 u74 u75 u76 u77 u78 u79 u80 u81 u82 u83 u84 u85 u86 : Value} (Q : Exit → Act → World → Prop)
    (hn : n ≤ 1152921504606) (hbase : base ≤ w.heap.size) (hqb : q < base) (hq : Blk w q 93 #[.int .i64 lev, .slice none 0 0, .int .i64 0, kv, .slice none 0 0, dv]) (hx : Blk w xb 139 #[.int .i64 id, hv]) (hown : w.ownsRow base 3 1 dv n dus)
    (hexit : ∀ (v51 v52 v53 v54 v55 v56 v57 v58 v59 : Value) (v2 : Value) (wa w2 : World), wa = w.alloc (.cells #[.int .i64 id] 3) → w2.ownsRow base 3 1 v2 (n + 1) (dus ++ [.int .i64 id]) → wa.grownBy w2 dv.ownBlock → (v2.ownBlock = dv.ownBlock ∨ v2.ownBlock = some wa.heap.size) → Q .normal ⟨(u0 :: u1 :: u2 :: u3 :: u4 :: u5 :: u6 :: u7 :: u8 :: u9 :: u10 :: u11 :: u12 :: .pointer (some ⟨q, 0, none⟩) :: u14 :: .pointer (some ⟨xb, 0, none⟩) :: u16 :: u17 :: u18 :: u19 :: u20 :: u21 :: u22 :: u23 :: u24 :: u25 :: u26 :: u27 :: u28 :: u29 :: u30 :: u31 :: u32 :: u33 :: u34 :: u35 :: u36 :: u37 :: u38 :: u39 :: u40 :: u41 :: u42 :: u43 :: u44 :: u45 :: u46 :: u47 :: u48 :: u49 :: u50 :: v51 :: v52 :: v53 :: v54 :: v55 :: v56 :: v57 :: v58 :: v59 :: u60 :: u61 :: u62 :: u63 :: u64 :: u65 :: u66 :: u67 :: u68 :: u69 :: u70 :: u71 :: u72 :: u73 :: u74 :: u75 :: u76 :: u77 :: u78 :: u79 :: u80 :: u81 :: u82 :: u83 :: u84 :: u85 :: u86 :: []).toArray, []⟩ (w2.setCell ⟨q, 5, none⟩ v2)) :
    Code.wp Try.prog abKidC Q ⟨(u0 :: u1 :: u2 :: u3 :: u4 :: u5 :: u6 :: u7 :: u8 :: u9 :: u10 :: u11 :: u12 :: .pointer (some ⟨q, 0, none⟩) :: u14 :: .pointer (some ⟨xb, 0, none⟩) :: u16 :: u17 :: u18 :: u19 :: u20 :: u21 :: u22 :: u23 :: u24 :: u25 :: u26 :: u27 :: u28 :: u29 :: u30 :: u31 :: u32 :: u33 :: u34 :: u35 :: u36 :: u37 :: u38 :: u39 :: u40 :: u41 :: u42 :: u43 :: u44 :: u45 :: u46 :: u47 :: u48 :: u49 :: u50 :: u51 :: u52 :: u53 :: u54 :: u55 :: u56 :: u57 :: u58 :: u59 :: u60 :: u61 :: u62 :: u63 :: u64 :: u65 :: u66 :: u67 :: u68 :: u69 :: u70 :: u71 :: u72 :: u73 :: u74 :: u75 :: u76 :: u77 :: u78 :: u79 :: u80 :: u81 :: u82 :: u83 :: u84 :: u85 :: u86 :: []).toArray, []⟩ w := by
  obtain ⟨i0, hi0, iz0, iz1, iz2⟩ := info_parts int_info
  have HEX := Lib.hid hexit
  have HO := Lib.hid hown
  have HQ := Lib.hid hq
  have x0 : w.cell? ⟨xb, 0, none⟩ = some (.int .i64 id) := (hx.cell 0).trans rfl
  have q5 : w.cell? ⟨q, 5, none⟩ = some dv := (hq.cell 5).trans rfl
  clear hexit hown hq hx
  conv => arg 2; whnf
  go_wp2_with (first | (at_builtin; go_loud (refine wpList_append_any _ rfl (.tmp 53) (.tmp 56) _ rfl base 3 i0 _ 1 8 Try.underlying24 hi0 iz0 iz1 iz2 rfl (by omega) dv n dus rfl (own_below HO.out ((Below.refl _ _).alloc (Nat.le_refl _) _)) (From w.heap.size) (some ⟨w.heap.size, 0, none⟩) 1 1 [.int .i64 id] rfl (Rd.one w _ _) (by intro u hu; simp at hu; subst hu; rfl) (by simp only [maxLen]; omega) (by omega) (by simp; omega) ?_); intro v2 w2 hown2 hg2 hat2; obtain ⟨K2, kc2, hv2, _, _⟩ := own_val hown2; subst hv2; have HO2 := Lib.hid hown2; have HG2 := Lib.hid hg2; have HA2 := Lib.hid hat2; have q52 : w2.cell? ⟨q, 5, none⟩ = some dv := (Chg.of_grown hg2).cell (fun e => by have := (own_lt HO.out _ e).1; omega) (bkeep ((Below.refl _ _).alloc (Nat.le_refl _) (.cells #[.int .i64 id] 3)) q5); have hf2 : ∀ o, w2.frozen? ⟨q, o, none⟩ = false := ((HQ.out.alloc (.cells #[.int .i64 id] 3)).chg (Chg.of_grown hg2) (fun e => by have := (own_lt HO.out _ e).1; omega)).frozen; clear hown2 hg2 hat2))
  exact HEX.out _ _ _ _ _ _ _ _ _ _ _ w2 rfl HO2.out HG2.out HA2.out
end Go.Proofs.Ytgjphmlmndcaeaa
