/- WALKS: parts of the document's levels above the leaves. WALKS: a kid is put into the last node of the document's level above. WALKS: the document's levels above the leaves. WALKS: the document's packed tree: a node is put into the arena. -/
import Derived.Test.YtgjphmlmndcaeaaPs12
import Derived.Deep.Cut
set_option linter.unusedVariables false
set_option linter.unusedSimpArgs false
namespace Go.Proofs.Ytgjphmlmndcaeaa
open Go.RowKit

/-- the values that go into the rows of an inner node: numbers and highs, in turns -/
def kidPx (us : List Value) (first : Int) (n s : Nat) : List Value := (List.range (2 * n)).map fun t => if t % 2 = 0 then .int .i64 (first + ((s + t / 2 : Nat) : Int)) else us.getD ((s + t / 2) * 6 + 1) undef
theorem kidPx_kid {us : List Value} {first : Int} {n s a : Nat} (h : a < n) : (kidPx us first n s)[2 * a]? = some (.int .i64 (first + ((s + a : Nat) : Int))) := by
  unfold kidPx
  rw [List.getElem?_map, List.getElem?_range (by omega), Option.map_some, if_pos (by omega), show 2 * a / 2 = a by omega]
theorem kidPx_key {us : List Value} {first : Int} {n s a : Nat} (h : a < n) : (kidPx us first n s)[2 * a + 1]? = some (us.getD ((s + a) * 6 + 1) undef) := by
  unfold kidPx
  rw [List.getElem?_map, List.getElem?_range (by omega), Option.map_some, if_neg (by omega), show (2 * a + 1) / 2 = a by omega]
/-- the nodes of a level that one reads -/
def Nds (w : World) (D : Nat → Prop) (us : List Value) (low : List Nd) : Prop := ∀ (i : Nat) (s : Nd), low[i]? = some s → NodeV w D (nb us i) s
theorem Nds.next {w w' : World} {S D D' : Nat → Prop} {us : List Value} {low : List Nd} (h : Nds w D us low) (hc : Chg S w w') (hs : ∀ b, b < w.heap.size → D b → ¬ S b) (hD : ∀ b, b < w.heap.size → D b → D' b) : Nds w' D' us low := fun i s hi => (h i s hi).next hc hs hD
theorem Nds.below {w w' : World} {D : Nat → Prop} {us : List Value} {low : List Nd} (h : Nds w D us low) (hb : Below w.heap.size w w') : Nds w' D us low := h.next (Chg.of_below (S := Nil) hb) (fun _ _ _ h => h) (fun _ _ h => h)
theorem node_at {w : World} {D : Nat → Prop} {us : List Value} {low : List Nd} {A : Option Addr} {n i : Nat} (hr : Rd w D 6 A n us) (ht : Nds w D us low) (hm : n ≤ low.length) (hi : i < n) :
    ∃ b o hA hn hc s, A = some ⟨b, o, none⟩ ∧ D b ∧ low[i]? = some s ∧ w.cell? ⟨b, o + i * 6, none⟩ = some (.int .i64 s.lev) ∧ w.cell? ⟨b, o + i * 6 + 1, none⟩ = some (.slice hA hn hc) ∧ us.getD (i * 6 + 1) undef = .slice hA hn hc ∧ Bt w D hA hn hc s.high := by
  have hl : i < low.length := by omega
  obtain ⟨b, o, hA', hD, hcell⟩ := hr.2 (by omega)
  obtain ⟨hA, hn, hc, kA, kn, kc, vA, vn, vc, dA, dn, dc, e, q1, _⟩ := ht i low[i] (List.getElem?_eq_getElem hl)
  have h0 : us[i * 6 + 0]? = some (.int .i64 low[i].lev) := nb_at (by omega) (by rw [e]; rfl)
  have h1 : us[i * 6 + 1]? = some (.slice hA hn hc) := nb_at (by omega) (by rw [e]; rfl)
  exact ⟨b, o, hA, hn, hc, low[i], hA', hD, List.getElem?_eq_getElem hl, by have := hcell _ _ h0; simpa using this, by have := hcell _ _ h1; rwa [← Nat.add_assoc] at this, by rw [List.getD_eq_getElem?_getD, h1]; rfl, q1⟩

/-- the nodes under node i of the level above -/
def npart (inn : Nat) (low : List Nd) (i : Nat) : List Nd := (low.drop (i * inn)).take inn
/-- node i of the level above one whose first node lies in a slot -/
def aboveN (inn : Nat) (lev : Int) (low : List Nd) (first : Int) (i : Nat) : Nd :=
  ⟨lev, ((npart inn low i).getLastD Nd.zero).high, 0, (npart inn low i).dropLast.map Nd.high, [], (List.range (npart inn low i).length).map fun j => first + ((i * inn + j : Nat) : Int)⟩

theorem aboveN_V {w : World} {base k inn m n : Nat} {D G : Nat → Prop} {us : List Value} {low : List Nd} {first lev : Int} {kv dv : Value} {kus dus : List Value} {hA : Option Addr} {hn hc : Nat} {A : Option Addr} (h : RowsK w base (kidPx us first n (k * inn)) (m - 1) m kv dv kus dus) (hr : Rd w D 6 A n us) (ht : Nds w D us low) (hln : low.length = n) (hkm : k * inn + m ≤ n) (hm0 : 0 < m)
    (hk : ∀ b, kv.ownBlock = some b → G b) (hv : ∀ b, dv.ownBlock = some b → G b) (h2 : ∀ b, D b → G b) (hm : (low.drop (k * inn)).take inn = (low.drop (k * inn)).take m) (hh : Bt w G hA hn hc ((low.getD (k * inn + m - 1) Nd.zero).high)) :
    NodeV w G [.int .i64 lev, .slice hA hn hc, .int .i64 0, kv, .slice none 0 0, dv] (aboveN inn lev low first k) := by
  obtain ⟨kA, kc, rfl, a1, a2⟩ := own_val h.k
  obtain ⟨dA, dc, rfl, b1, b2⟩ := own_val h.v
  have hl : ((low.drop (k * inn)).take m).length = m := by rw [List.length_take, List.length_drop]; omega
  have e : npart inn low k = (low.drop (k * inn)).take m := hm
  have hlast : (npart inn low k).getLastD Nd.zero = low.getD (k * inn + m - 1) Nd.zero := by
    rw [e, List.getLastD_eq_getLast?, List.getLast?_eq_getElem?, hl, List.getElem?_take, if_pos (by omega), List.getElem?_drop, List.getD_eq_getElem?_getD, show k * inn + (m - 1) = k * inn + m - 1 by omega]
  refine ⟨hA, hn, hc, kA, m - 1, kc, none, 0, 0, dA, m, dc, rfl, ?_, ⟨a1, a2, Lib.hid ?_, kus, rd_own_blk h.k hk, fun i t ht' => ?_⟩, Tx.nil _ _, ⟨b1, b2, Lib.hid ?_, ?_⟩⟩
  · show Bt w G hA hn hc ((npart inn low k).getLastD Nd.zero).high; rw [hlast]; exact hh
  · show m - 1 = ((npart inn low k).dropLast.map Nd.high).length; rw [List.length_map, List.length_dropLast, e, hl]
  · have ht' : ((npart inn low k).dropLast.map Nd.high)[i]? = some t := ht'
    have hi : i < m - 1 := by have := (List.getElem?_eq_some_iff.1 ht').1; rw [List.length_map, List.length_dropLast, e, hl] at this; exact this
    rw [List.getElem?_map, List.getElem?_dropLast, if_pos (by rw [e, hl]; exact hi), e, List.getElem?_take, if_pos (by omega), List.getElem?_drop] at ht'
    obtain ⟨b, o, hA', hn', hc', s, _, _, hs, _, _, hu, hb⟩ := node_at hr ht (by omega) (show k * inn + i < n by omega)
    rw [hs] at ht'
    injection ht' with ht'
    subst ht'
    exact ⟨.slice hA' hn' hc', by rw [h.ku i hi, kidPx_key (by omega), hu], (hb.weak h2).sb⟩
  · show m = ((List.range (npart inn low k).length).map fun j => first + ((k * inn + j : Nat) : Int)).length; rw [List.length_map, List.length_range, e, hl]
  · have he : dus = ((aboveN inn lev low first k).kids).map (Value.int .i64) := by
      show dus = ((List.range (npart inn low k).length).map fun j => first + ((k * inn + j : Nat) : Int)).map (Value.int .i64)
      rw [e, hl]
      apply List.ext_getElem?
      intro i
      rcases Nat.lt_or_ge i m with hi | hi
      · rw [h.vu i hi, kidPx_kid (by omega), List.getElem?_map, List.getElem?_map, List.getElem?_range hi]; rfl
      · have hd : dus.length = m * 1 := h.v.1
        rw [List.getElem?_eq_none (by omega), List.getElem?_eq_none (by simpa using hi)]
    rw [← he]
    exact rd_own_blk h.v hv
theorem RowsK.off {w : World} {base : Nat} {pxs : List Value} {j i : Nat} {kv vv : Value} {kus vus : List Value} (h : RowsK w base pxs j i kv vv kus vus) {b : Nat} (o : Nat) (u : Value) (hk : kv.ownBlock ≠ some b) (hv : vv.ownBlock ≠ some b) : RowsK (w.setCell ⟨b, o, none⟩ u) base pxs j i kv vv kus vus :=
  ⟨own_chg h.k (Chg.set1 w b o u) (fun g hg e => hk (by rw [hg, show g = b from e])), own_chg h.v (Chg.set1 w b o u) (fun g hg e => hv (by rw [hg, show g = b from e])), h.dis, h.ku, h.vu⟩

noncomputable def raKeyC : Code := codeOr (Try.f45.body.bind (regionAt 9))
set_option maxRecDepth 100000 in
set_option maxHeartbeats 4000000 in
theorem ra_key (b o n c i g q : Nat) (base : Nat) (kv : Value) (m : Nat) (kus : List Value) (Ah : Option Addr) (nh ch : Nat) (w : World) {u0 u2 u3 u4 u5 u6 u7 u10 u11 u12 u13 u14 u15 u16 u17 u18 u19 u20 u21 u22 u23 u24 u25 u26 u27 u28 u29 u30 u31 u32 u33 u34 u35 u36 u37 u38 u39 u40 u41 u42 u43 u44 u45 u46 u47 u48 u49 u50 u51 u52 u53 u54 u55 u56 u57 u58 u59 u60 u61 u62 u63 u64 u65 u66 u67 u68 u69 u70 u71 u72 u73 u74 u75 u76 u77 u78 u79 u80 u81 u82 u83 u84 u85 u86 : Value} (Q : Exit → Act → World → Prop) (HQP : Hid (∀ c t (a : Act) w, Q (.panic c) ⟨t, a.defers⟩ w → Q (.panic c) a w))
    (hi1 : 1 ≤ i) (hin : i < n) (hn : n ≤ 1152921504606) (hm : m ≤ 1152921504606) (hbase : base ≤ w.heap.size) (hbb : b < base)
    (c1 : w.cell? ⟨b, o + (i - 1) * 6 + 1, none⟩ = some (.slice Ah nh ch)) (c2 : w.cell? ⟨g, q + 3, none⟩ = some kv) (cf : ∀ o, w.frozen? ⟨g, o, none⟩ = false) (hown : w.ownsRow base 41 1 kv m kus) (hgk : kv.ownBlock ≠ some g)
    (hexit : ∀ (v44 v45 v46 v47 v48 v49 v50 v51 v52 v53 v54 v55 v56 v57 v58 v59 v60 v61 : Value) (v2 : Value) (wa w2 : World), Below w.heap.size w wa → w2.ownsRow base 41 1 v2 (m + 1) (kus ++ [.slice Ah nh ch]) → wa.grownBy w2 kv.ownBlock → (v2.ownBlock = kv.ownBlock ∨ v2.ownBlock = some wa.heap.size) → Q .normal ⟨(u0 :: .slice (some ⟨b, o, none⟩) n c :: u2 :: u3 :: u4 :: u5 :: u6 :: u7 :: .int .i64 i :: .pointer (some ⟨g, q, none⟩) :: u10 :: u11 :: u12 :: u13 :: u14 :: u15 :: u16 :: u17 :: u18 :: u19 :: u20 :: u21 :: u22 :: u23 :: u24 :: u25 :: u26 :: u27 :: u28 :: u29 :: u30 :: u31 :: u32 :: u33 :: u34 :: u35 :: u36 :: u37 :: u38 :: u39 :: u40 :: u41 :: u42 :: u43 :: v44 :: v45 :: v46 :: v47 :: v48 :: v49 :: v50 :: v51 :: v52 :: v53 :: v54 :: v55 :: v56 :: v57 :: v58 :: v59 :: v60 :: v61 :: u62 :: u63 :: u64 :: u65 :: u66 :: u67 :: u68 :: u69 :: u70 :: u71 :: u72 :: u73 :: u74 :: u75 :: u76 :: u77 :: u78 :: u79 :: u80 :: u81 :: u82 :: u83 :: u84 :: u85 :: u86 :: []).toArray, []⟩ (w2.setCell ⟨g, q + 3, none⟩ v2)) :
    Code.wp Try.prog raKeyC Q ⟨(u0 :: .slice (some ⟨b, o, none⟩) n c :: u2 :: u3 :: u4 :: u5 :: u6 :: u7 :: .int .i64 i :: .pointer (some ⟨g, q, none⟩) :: u10 :: u11 :: u12 :: u13 :: u14 :: u15 :: u16 :: u17 :: u18 :: u19 :: u20 :: u21 :: u22 :: u23 :: u24 :: u25 :: u26 :: u27 :: u28 :: u29 :: u30 :: u31 :: u32 :: u33 :: u34 :: u35 :: u36 :: u37 :: u38 :: u39 :: u40 :: u41 :: u42 :: u43 :: u44 :: u45 :: u46 :: u47 :: u48 :: u49 :: u50 :: u51 :: u52 :: u53 :: u54 :: u55 :: u56 :: u57 :: u58 :: u59 :: u60 :: u61 :: u62 :: u63 :: u64 :: u65 :: u66 :: u67 :: u68 :: u69 :: u70 :: u71 :: u72 :: u73 :: u74 :: u75 :: u76 :: u77 :: u78 :: u79 :: u80 :: u81 :: u82 :: u83 :: u84 :: u85 :: u86 :: []).toArray, []⟩ w := by
  obtain ⟨i0, hi0, iz0, iz1, iz2⟩ := info_parts bytes_info
  have HEX := Lib.hid hexit
  have HO := Lib.hid hown
  have HC := Lib.hid cf
  have hgw : g < w.heap.size := cell_lt c2
  have w1 := IntWalk.i64_in ((i : Int) - 1) (by omega)
  have w2 : (0 : Int) ≤ (i : Int) - 1 := by omega
  have w3 : ((i : Int) - 1) < n := by omega
  have w4 : ((i : Int) - 1).toNat = i - 1 := by omega
  have w8 : (1 : Int) ≤ (i : Int) := by omega
  clear hexit hown cf
  conv => arg 2; whnf
  refine wp_region_U (fun w' => w'.cell? ⟨b, o + (i - 1) * 6 + 1, none⟩ = some (.slice Ah nh ch) ∧ w'.cell? ⟨g, q + 3, none⟩ = some kv) 18 (by kernel_rfl) ?_
  have S0 : w.drew.cell? ⟨b, o + (i - 1) * 6 + 1, none⟩ = some (.slice Ah nh ch) ∧ w.drew.cell? ⟨g, q + 3, none⟩ = some kv := ⟨c1, c2⟩
  refine wpU_free (i := 0) (v := ?_) rfl (by kernel_rfl) (by kernel_rfl) (by kernel_rfl) (by kernel_rfl) (by first | exact fun _ _ _ h => h | exact fun c a w h => HQP.out c _ a w h) (fun _ => S0) (Or.inl ⟨by kernel_rfl, ?_⟩) ?_
  rotate_left
  · intro w hSw
    go_simp
    try with_reducible rfl
  try simp only [Act.put, List.setIfInBounds_toArray, List.set_cons_zero, List.set_cons_succ]
  refine wpU_free (i := 1) (v := ?_) rfl (by kernel_rfl) (by kernel_rfl) (by kernel_rfl) (by kernel_rfl) (by first | exact fun _ _ _ h => h | exact fun c a w h => HQP.out c _ a w h) (fun _ => S0) (Or.inl ⟨by kernel_rfl, ?_⟩) ?_
  rotate_left
  · intro w hSw
    go_simp
    try with_reducible rfl
  try simp only [Act.put, List.setIfInBounds_toArray, List.set_cons_zero, List.set_cons_succ]
  refine wpU_free (i := 2) (v := ?_) rfl (by kernel_rfl) (by kernel_rfl) (by kernel_rfl) (by kernel_rfl) (by first | exact fun _ _ _ h => h | exact fun c a w h => HQP.out c _ a w h) (fun _ => S0) (Or.inl ⟨by kernel_rfl, ?_⟩) ?_
  rotate_left
  · intro w hSw
    go_simp
    try with_reducible rfl
  try simp only [Act.put, List.setIfInBounds_toArray, List.set_cons_zero, List.set_cons_succ]
  refine wpU_free (i := 3) (v := ?_) rfl (by kernel_rfl) (by kernel_rfl) (by kernel_rfl) (by kernel_rfl) (by first | exact fun _ _ _ h => h | exact fun c a w h => HQP.out c _ a w h) (fun _ => S0) (Or.inl ⟨by kernel_rfl, ?_⟩) ?_
  rotate_left
  · intro w hSw
    go_simp
    try with_reducible rfl
  try simp only [Act.put, List.setIfInBounds_toArray, List.set_cons_zero, List.set_cons_succ]
  refine wpU_free (i := 4) (v := ?_) rfl (by kernel_rfl) (by kernel_rfl) (by kernel_rfl) (by kernel_rfl) (by first | exact fun _ _ _ h => h | exact fun c a w h => HQP.out c _ a w h) (fun _ => S0) (Or.inl ⟨by kernel_rfl, ?_⟩) ?_
  rotate_left
  · intro w hSw
    go_simp
    try with_reducible rfl
  try simp only [Act.put, List.setIfInBounds_toArray, List.set_cons_zero, List.set_cons_succ]
  refine wpU_free (i := 6) (v := ?_) rfl (by kernel_rfl) (by kernel_rfl) (by kernel_rfl) (by kernel_rfl) (by first | exact fun _ _ _ h => h | exact fun c a w h => HQP.out c _ a w h) (fun _ => S0) (Or.inl ⟨by kernel_rfl, ?_⟩) ?_
  rotate_left
  · intro w hSw
    go_simp
    try with_reducible rfl
  try simp only [Act.put, List.setIfInBounds_toArray, List.set_cons_zero, List.set_cons_succ]
  refine wpU_free (i := 7) (v := ?_) rfl (by kernel_rfl) (by kernel_rfl) (by kernel_rfl) (by kernel_rfl) (by first | exact fun _ _ _ h => h | exact fun c a w h => HQP.out c _ a w h) (fun _ => S0) (Or.inl ⟨by kernel_rfl, ?_⟩) ?_
  rotate_left
  · intro w hSw
    go_simp
    try with_reducible rfl
  try simp only [Act.put, List.setIfInBounds_toArray, List.set_cons_zero, List.set_cons_succ]
  refine wpU_free (i := 8) (v := ?_) rfl (by kernel_rfl) (by kernel_rfl) (by kernel_rfl) (by kernel_rfl) (by first | exact fun _ _ _ h => h | exact fun c a w h => HQP.out c _ a w h) (fun _ => S0) (Or.inl ⟨by kernel_rfl, ?_⟩) ?_
  rotate_left
  · intro w hSw
    go_simp
    try with_reducible rfl
  try simp only [Act.put, List.setIfInBounds_toArray, List.set_cons_zero, List.set_cons_succ]
  refine wpU_free (i := 9) (v := ?_) rfl (by kernel_rfl) (by kernel_rfl) (by kernel_rfl) (by kernel_rfl) (by first | exact fun _ _ _ h => h | exact fun c a w h => HQP.out c _ a w h) (fun _ => S0) (Or.inl ⟨by kernel_rfl, ?_⟩) ?_
  rotate_left
  · intro w hSw
    go_simp
    try with_reducible rfl
  try simp only [Act.put, List.setIfInBounds_toArray, List.set_cons_zero, List.set_cons_succ]
  refine wpU_free (i := 10) (v := ?_) rfl (by kernel_rfl) (by kernel_rfl) (by kernel_rfl) (by kernel_rfl) (by first | exact fun _ _ _ h => h | exact fun c a w h => HQP.out c _ a w h) (fun _ => S0) (Or.inl ⟨by kernel_rfl, ?_⟩) ?_
  rotate_left
  · intro w hSw
    go_simp
    try with_reducible rfl
  try simp only [Act.put, List.setIfInBounds_toArray, List.set_cons_zero, List.set_cons_succ]
  refine wpU_free (i := 11) (v := ?_) rfl (by kernel_rfl) (by kernel_rfl) (by kernel_rfl) (by kernel_rfl) (by first | exact fun _ _ _ h => h | exact fun c a w h => HQP.out c _ a w h) (fun _ => S0) (Or.inl ⟨by kernel_rfl, ?_⟩) ?_
  rotate_left
  · intro w hSw
    go_simp
    try with_reducible rfl
  try simp only [Act.put, List.setIfInBounds_toArray, List.set_cons_zero, List.set_cons_succ]
  refine wpU_take (i := 5) (v := ?_) rfl (by kernel_rfl) (by kernel_rfl) (by kernel_rfl) (by kernel_rfl) (by first | exact fun _ _ _ h => h | exact fun c a w h => HQP.out c _ a w h) S0 (Or.inl ⟨by kernel_rfl, ?_⟩) ?_
  rotate_left
  · intro w hSw
    obtain ⟨s0, s1⟩ := hSw
    go_simp
    try with_reducible rfl
  try simp only [Act.put, List.setIfInBounds_toArray, List.set_cons_zero, List.set_cons_succ]
  refine wpU_take (i := 12) (v := ?_) rfl (by kernel_rfl) (by kernel_rfl) (by kernel_rfl) (by kernel_rfl) (by first | exact fun _ _ _ h => h | exact fun c a w h => HQP.out c _ a w h) S0 (Or.inl ⟨by kernel_rfl, ?_⟩) ?_
  rotate_left
  · intro w hSw
    obtain ⟨s0, s1⟩ := hSw
    go_simp
    try with_reducible rfl
  try simp only [Act.put, List.setIfInBounds_toArray, List.set_cons_zero, List.set_cons_succ]
  refine wpU_one (i := 13) (by kernel_rfl) rfl (fun K hK => ?_)
  go_simp
  have hb2 : Below w.drew.heap.size w.drew (w.drew.alloc (.cells #[.slice Ah nh ch] 41)) := (Below.refl _ _).alloc (Nat.le_refl _) _; have S2 : (w.drew.alloc (.cells #[.slice Ah nh ch] 41)).cell? ⟨b, o + (i - 1) * 6 + 1, none⟩ = some (.slice Ah nh ch) ∧ (w.drew.alloc (.cells #[.slice Ah nh ch] 41)).cell? ⟨g, q + 3, none⟩ = some kv := ⟨bkeep hb2 S0.1, bkeep hb2 S0.2⟩
  refine hK.out _ _ (fun _ => S2) ?_
  clear hK K
  try simp only [Act.put, List.setIfInBounds_toArray, List.set_cons_zero, List.set_cons_succ]
  refine wpU_one (i := 14) (by kernel_rfl) rfl (fun K hK => ?_)
  refine step_append_any _ rfl (.tmp 49) (.tmp 57) _ rfl base 41 i0 _ 1 24 Try.underlying89 hi0 iz0 iz1 iz2 rfl (by omega) kv m kus rfl (own_below HO.out ((Below.refl _ _).drew.alloc (Nat.le_refl _) _)) (From w.heap.size) (some ⟨w.heap.size, 0, none⟩) 1 1 [.slice Ah nh ch] rfl (Rd.one w.drew _ _) (by intro u hu; simp at hu; subst hu; rfl) (by simp only [maxLen]; omega) (by omega) (by simp; omega) ?_; intro v2 w2 hown2 hg2 hat2; obtain ⟨K2, kc2, hv2, _, _⟩ := own_val hown2; subst hv2; have HO2 := Lib.hid hown2; have HG2 := Lib.hid hg2; have HA2 := Lib.hid hat2; have hqf : w2.cell? ⟨g, q + 3, none⟩ = some kv := (Chg.of_grown hg2).cell hgk S2.2; have hf2 : ∀ o, w2.frozen? ⟨g, o, none⟩ = false := SoftAt.chg (w := w) HC.out (((Chg.refl (fun b => kv.ownBlock = some b) w).then ((Below.refl _ _).drew.alloc (Nat.le_refl _) _)).trans (Chg.of_grown hg2) (fun _ _ h => h)) hgw hgk; have S3 : w2.cell? ⟨b, o + (i - 1) * 6 + 1, none⟩ = some (.slice Ah nh ch) ∧ w2.cell? ⟨g, q + 3, none⟩ = some kv := ⟨(Chg.of_grown hg2).cell (fun e => by have := (own_lt HO.out _ e).1; omega) S2.1, hqf⟩; clear hown2 hg2 hat2
  refine hK.out _ _ (fun _ => S3) ?_
  clear hK K
  try simp only [Act.put, List.setIfInBounds_toArray, List.set_cons_zero, List.set_cons_succ]
  refine wpU_free (i := 15) (v := ?_) rfl (by kernel_rfl) (by kernel_rfl) (by kernel_rfl) (by kernel_rfl) (by first | exact fun _ _ _ h => h | exact fun c a w h => HQP.out c _ a w h) (fun _ => S3) (Or.inl ⟨by kernel_rfl, ?_⟩) ?_
  rotate_left
  · intro w hSw
    go_simp
    try with_reducible rfl
  try simp only [Act.put, List.setIfInBounds_toArray, List.set_cons_zero, List.set_cons_succ]
  refine wpU_free (i := 16) (v := ?_) rfl (by kernel_rfl) (by kernel_rfl) (by kernel_rfl) (by kernel_rfl) (by first | exact fun _ _ _ h => h | exact fun c a w h => HQP.out c _ a w h) (fun _ => S3) (Or.inl ⟨by kernel_rfl, ?_⟩) ?_
  rotate_left
  · intro w hSw
    go_simp
    try with_reducible rfl
  try simp only [Act.put, List.setIfInBounds_toArray, List.set_cons_zero, List.set_cons_succ]
  refine wpU_free (i := 17) (v := ?_) rfl (by kernel_rfl) (by kernel_rfl) (by kernel_rfl) (by kernel_rfl) (by first | exact fun _ _ _ h => h | exact fun c a w h => HQP.out c _ a w h) (fun _ => S3) (Or.inl ⟨by kernel_rfl, ?_⟩) ?_
  rotate_left
  · intro w hSw
    go_simp
    try with_reducible rfl
  try simp only [Act.put, List.setIfInBounds_toArray, List.set_cons_zero, List.set_cons_succ]
  refine wpU_one (i := 18) (by kernel_rfl) rfl (fun K hK => ?_)
  go_simp
  refine hK.out _ _ (fun h => absurd h (by decide)) ?_
  clear hK K
  try simp only [Act.put, List.setIfInBounds_toArray, List.set_cons_zero, List.set_cons_succ]
  refine wpU_done (by kernel_rfl) ?_ _
  exact HEX.out _ _ _ _ _ _ _ _ _ _ _ _ _ _ _ _ _ _ _ _ w2 ((Below.refl _ _).drew.alloc (Nat.le_refl _) _) HO2.out HG2.out HA2.out
end Go.Proofs.Ytgjphmlmndcaeaa

namespace Go.Proofs.Ytgjphmlmndcaeaa
open Go.RowKit
noncomputable def raKidC : Code := codeOr (Try.f45.body.bind (regionAt 10))
set_option maxRecDepth 100000 in
set_option maxHeartbeats 4000000 in
theorem ra_kid (first : Int) (i g q : Nat) (base : Nat) (dv : Value) (m : Nat) (dus : List Value) (w : World) {u0 u1 u3 u4 u5 u6 u7 u10 u11 u12 u13 u14 u15 u16 u17 u18 u19 u20 u21 u22 u23 u24 u25 u26 u27 u28 u29 u30 u31 u32 u33 u34 u35 u36 u37 u38 u39 u40 u41 u42 u43 u44 u45 u46 u47 u48 u49 u50 u51 u52 u53 u54 u55 u56 u57 u58 u59 u60 u61 u62 u63 u64 u65 u66 u67 u68 u69 u70 u71 u72 u73 u74 u75 u76 u77 u78 u79 u80 u81 u82 u83 u84 u85 u86 : Value} (Q : Exit → Act → World → Prop)
    (hm : m ≤ 1152921504606) (hbase : base ≤ w.heap.size) (hf : 0 ≤ first ∧ first + (i : Int) ≤ 9223372036854775807) (q5 : w.cell? ⟨g, q + 5, none⟩ = some dv) (cf : ∀ o, w.frozen? ⟨g, o, none⟩ = false) (hown : w.ownsRow base 3 1 dv m dus) (hgk : dv.ownBlock ≠ some g)
    (hexit : ∀ (v62 v63 v64 v65 v66 v67 v68 v69 v70 v71 v72 v73 v74 v75 : Value) (v2 : Value) (wa w2 : World), wa = w.alloc (.cells #[.int .i64 (first + (i : Int))] 3) → w2.ownsRow base 3 1 v2 (m + 1) (dus ++ [.int .i64 (first + (i : Int))]) → wa.grownBy w2 dv.ownBlock → (v2.ownBlock = dv.ownBlock ∨ v2.ownBlock = some wa.heap.size) → Q .normal ⟨(u0 :: u1 :: .int .i64 first :: u3 :: u4 :: u5 :: u6 :: u7 :: .int .i64 i :: .pointer (some ⟨g, q, none⟩) :: u10 :: u11 :: u12 :: u13 :: u14 :: u15 :: u16 :: u17 :: u18 :: u19 :: u20 :: u21 :: u22 :: u23 :: u24 :: u25 :: u26 :: u27 :: u28 :: u29 :: u30 :: u31 :: u32 :: u33 :: u34 :: u35 :: u36 :: u37 :: u38 :: u39 :: u40 :: u41 :: u42 :: u43 :: u44 :: u45 :: u46 :: u47 :: u48 :: u49 :: u50 :: u51 :: u52 :: u53 :: u54 :: u55 :: u56 :: u57 :: u58 :: u59 :: u60 :: u61 :: v62 :: v63 :: v64 :: v65 :: v66 :: v67 :: v68 :: v69 :: v70 :: v71 :: v72 :: v73 :: v74 :: v75 :: u76 :: u77 :: u78 :: u79 :: u80 :: u81 :: u82 :: u83 :: u84 :: u85 :: u86 :: []).toArray, []⟩ (w2.setCell ⟨g, q + 5, none⟩ v2)) :
    Code.wp Try.prog raKidC Q ⟨(u0 :: u1 :: .int .i64 first :: u3 :: u4 :: u5 :: u6 :: u7 :: .int .i64 i :: .pointer (some ⟨g, q, none⟩) :: u10 :: u11 :: u12 :: u13 :: u14 :: u15 :: u16 :: u17 :: u18 :: u19 :: u20 :: u21 :: u22 :: u23 :: u24 :: u25 :: u26 :: u27 :: u28 :: u29 :: u30 :: u31 :: u32 :: u33 :: u34 :: u35 :: u36 :: u37 :: u38 :: u39 :: u40 :: u41 :: u42 :: u43 :: u44 :: u45 :: u46 :: u47 :: u48 :: u49 :: u50 :: u51 :: u52 :: u53 :: u54 :: u55 :: u56 :: u57 :: u58 :: u59 :: u60 :: u61 :: u62 :: u63 :: u64 :: u65 :: u66 :: u67 :: u68 :: u69 :: u70 :: u71 :: u72 :: u73 :: u74 :: u75 :: u76 :: u77 :: u78 :: u79 :: u80 :: u81 :: u82 :: u83 :: u84 :: u85 :: u86 :: []).toArray, []⟩ w := by
  obtain ⟨i0, hi0, iz0, iz1, iz2⟩ := info_parts int_info
  have HEX := Lib.hid hexit
  have HO := Lib.hid hown
  have HC := Lib.hid cf
  have hgw : g < w.heap.size := cell_lt q5
  have hw := IntWalk.i64_in (first + (i : Int)) (by omega)
  clear hexit hown cf
  conv => arg 2; whnf
  go_wp2_with (first | (at_builtin; go_loud (refine wpList_append_any _ rfl (.tmp 67) (.tmp 71) _ rfl base 3 i0 _ 1 8 Try.underlying24 hi0 iz0 iz1 iz2 rfl (by omega) dv m dus rfl (own_below HO.out ((Below.refl _ _).alloc (Nat.le_refl _) _)) (From w.heap.size) (some ⟨w.heap.size, 0, none⟩) 1 1 [.int .i64 (first + (i : Int))] rfl (Rd.one w _ _) (by intro u hu; simp at hu; subst hu; rfl) (by simp only [maxLen]; omega) (by omega) (by simp; omega) ?_); intro v2 w2 hown2 hg2 hat2; obtain ⟨K2, kc2, hv2, _, _⟩ := own_val hown2; subst hv2; have HO2 := Lib.hid hown2; have HG2 := Lib.hid hg2; have HA2 := Lib.hid hat2; have q52 : w2.cell? ⟨g, q + 5, none⟩ = some dv := (Chg.of_grown hg2).cell hgk (bkeep ((Below.refl _ _).alloc (Nat.le_refl _) (.cells #[.int .i64 (first + (i : Int))] 3)) q5); have hf2 : ∀ o, w2.frozen? ⟨g, o, none⟩ = false := SoftAt.chg (w := w) HC.out (((Chg.refl (fun b => dv.ownBlock = some b) w).then ((Below.refl _ _).alloc (Nat.le_refl _) _)).trans (Chg.of_grown hg2) (fun _ _ h => h)) hgw hgk; clear hown2 hg2 hat2))
  exact HEX.out _ _ _ _ _ _ _ _ _ _ _ _ _ _ _ _ w2 rfl HO2.out HG2.out HA2.out
end Go.Proofs.Ytgjphmlmndcaeaa

namespace Go.Proofs.Ytgjphmlmndcaeaa
open Go.RowKit
set_option maxRecDepth 100000 in
set_option maxHeartbeats 4000000 in
theorem rabove_any (nd lf bl fill : Int) (inn : Nat) (A : Option Addr) (n c : Nat) (D : Nat → Prop) (us : List Value) (low : List Nd) (first lev0 : Int) (w : World) (hi1 : 3 ≤ inn) (hi2 : inn ≤ 64) (hr : Rd w D 6 A n us) (ht : Nds w D us low) (hln : Hid (low.length = n)) (hnc : n ≤ c) (hcm : c ≤ maxLen) (hn : n ≤ 65536) (hpos : 0 < n)
    (hf : 0 ≤ first ∧ first ≤ 1152921504606) (hlev : Hid (∀ s, low[0]? = some s → s.lev = lev0)) (hl0 : 0 ≤ lev0 ∧ lev0 ≤ 1152921504606) :
    Calls Try.prog 45 #[.agg #[.int .i64 nd, .int .i64 lf, .int .i64 inn, .int .i64 fill, .int .i64 bl], .slice A n c, .int .i64 first] w fun e w' => ∃ v, e = .returned v ∧ Level w' (fun b => (D b ∧ b < w.heap.size) ∨ w.heap.size ≤ b) w.heap.size v ((List.range (pn n inn)).map (aboveN inn (lev0 + 1) low first)) ∧ Below w.heap.size w w' := by
  obtain ⟨i0, hi0, iz0, iz1, iz2⟩ := info_parts node_info
  have HR := Lib.hid (hr.lt (by omega))
  have HT : Hid (Nds w (fun b => D b ∧ b < w.heap.size) us low) := Lib.hid (ht.next (Chg.refl Nil _) (fun _ _ _ h => h) (fun b hb h => ⟨h, hb⟩))
  obtain ⟨b, o, _, _, _, s0, rfl, hbD, hs0, hc0, _⟩ := node_at HR.out HT.out (by have := hln.out; omega) hpos
  have hlv := hlev.out s0 hs0
  rw [hlv, Nat.zero_mul, Nat.add_zero] at hc0
  have HC0 := Lib.hid hc0
  have hbw := hbD.2
  clear hr ht hs0 hlv hc0 hbD
  go_enter Try.func45, Try.ntmps45
  go_wp2
  obtain ⟨w0, hw0⟩ : ∃ x, x = w.alloc (.cells #[.int .i64 nd, .int .i64 lf, .int .i64 inn, .int .i64 fill, .int .i64 bl] 23) := ⟨_, rfl⟩
  rw [← hw0]
  have hsz0 : w0.heap.size = w.heap.size + 1 := by rw [hw0]; simp
  have HBW : Hid (Below w.heap.size w w0) := Lib.hid (by rw [hw0]; exact (Below.refl _ _).alloc (Nat.le_refl _) _)
  have HCF : Hid (w0.cell? ⟨w.heap.size, 2, none⟩ = some (.int .i64 inn)) := Lib.hid (by rw [hw0]; exact ((Blk.new w 23 _).cell 2).trans rfl)
  have hbb : b < w0.heap.size := by omega
  have hw00 : w.heap.size < w0.heap.size := by omega
  clear hw0 hsz0
  go_loopg [7, 8] n (fun g' out iv wr => ∃ (i : Nat), g' = n - i ∧ i ≤ n ∧ iv = .int .i64 i ∧ Below w0.heap.size w0 wr ∧ (i = 0 ∧ out = .slice none 0 0 ∨ 0 < i ∧ ∃ (k m : Nat) (us' : List Value) (kv dv : Value) (kus dus : List Value), Hid (i = k * inn + m ∧ m ≤ inn ∧ 0 < m) ∧ Mk wr w0.heap.size (fun b => D b ∧ b < w.heap.size) out k (aboveN inn (lev0 + 1) low first) (lev0 + 1) (us.getD ((i - 1) * 6 + 1) undef) kv (.slice none 0 0) dv us' ∧ RowsK wr w0.heap.size (kidPx us first n (k * inn)) (m - 1) m kv dv kus dus))
  case atStart => exact ⟨0, by omega, by omega, rfl, Below.refl _ _, .inl ⟨rfl, rfl⟩⟩
  case round =>
    obtain ⟨i, hg, hin, rfl, hbz, hst⟩ := hrel
    have HG := Lib.hid hg
    have HBZ := Lib.hid hbz
    rename World => wr
    clear hg hbz
    have HST := Lib.hid hst
    clear hst
    have cf2 : wr.cell? ⟨w.heap.size, 2, none⟩ = some (.int .i64 inn) := bcell HBZ.out hw00 HCF.out
    have hwi := IntWalk.i64_in ((i : Int) + 1) (by omega)
    have hbs : w0.heap.size ≤ wr.heap.size := HBZ.out.size
    have HBB : Hid (Below w.heap.size w wr) := Lib.hid (HBW.out.trans (HBZ.out.mono (by omega)))
    have c0 := bkeep HBB.out HC0.out
    have hlw := IntWalk.i64_in (lev0 + 1) (by omega)
    by_cases hlt : i < n
    · have hlt' : (i : Int) < (n : Int) := by omega
      obtain ⟨b', o', hA, hn', hc', s, hB, _, hs, _, c1', hu, hbt⟩ := node_at HR.out HT.out (by have := hln.out; omega) hlt
      injection hB with hB
      injection hB with hB1 hB2
      subst hB1; subst hB2
      have C1 := Lib.hid (bkeep HBB.out c1')
      have HU := Lib.hid hu
      clear hs c1' hu hbt
      rcases HST.out with ⟨hi0', rfl⟩ | ⟨hi0', k, m, us', kv, dv, kus, dus, hik, hmk, hrw⟩
      · subst hi0'
        have hrem : ((0 : Int) % (inn : Int) == 0) = true := by simp
        go_upto_region 8 with (first | (at_builtin; go_loud (refine wpList_append_any _ rfl (.tmp 21) (.tmp 30) _ rfl w0.heap.size 93 i0 _ 6 112 Try.underlying85 hi0 iz0 iz1 iz2 rfl (by omega) (.slice none 0 0) 0 [] rfl (World.ownsRow_nil _ _ _ _) (From wr.heap.size) (some ⟨wr.heap.size, 0, none⟩) 1 1 [.int .i64 (lev0 + 1), .slice none 0 0, .int .i64 0, .slice none 0 0, .slice none 0 0, .slice none 0 0] rfl (by have := Rd.lit wr #[.int .i64 (lev0 + 1), .slice none 0 0, .int .i64 0, .slice none 0 0, .slice none 0 0, .slice none 0 0] 93 6 rfl; simpa using this) (by simp [Value.oneCell']) (by simp only [maxLen]; omega) (by omega) (by simp; omega) ?_); intro v6 w6 hown6 hg6 hat6; obtain ⟨g6, gc6, hv6, _, _⟩ := hown6.form (by omega); subst hv6; have HO7 := Lib.hid hown6; have HG7 := Lib.hid hg6; have HA7 := Lib.hid hat6; clear hown6 hg6 hat6))
        have hmk : Mk w6 w0.heap.size (fun b => D b ∧ b < w.heap.size) (.slice (some ⟨g6, 0, none⟩) (0 + 1) gc6) 0 (aboveN inn (lev0 + 1) low first) (lev0 + 1) (.slice none 0 0) (.slice none 0 0) (.slice none 0 0) (.slice none 0 0) [.int .i64 (lev0 + 1), .slice none 0 0, .int .i64 0, .slice none 0 0, .slice none 0 0, .slice none 0 0] := ⟨by simpa using HO7.out, rfl, fun g _ => ⟨by simp [Value.ownBlock], by simp [Value.ownBlock], by simp [Value.ownBlock]⟩, fun j hj => absurd hj (by omega)⟩
        have HMK7 := Lib.hid hmk
        have hg6 : w0.heap.size ≤ g6 := (own_lt HO7.out g6 rfl).1
        have HRW7 : Hid (RowsK w6 w0.heap.size (kidPx us first n (0 * inn)) 0 0 (.slice none 0 0) (.slice none 0 0) [] []) := Lib.hid (RowsK.nil _ _ _)
        have HC7 : Hid (Below w0.heap.size wr w6) := Lib.hid ((((Below.refl _ _).mono hbs).alloc (by omega) (.cells #[.int .i64 (lev0 + 1), .slice none 0 0, .int .i64 0, .slice none 0 0, .slice none 0 0, .slice none 0 0] 93)).grown HG7.out (by simp; omega) (fun x hx => by simp [Value.ownBlock] at hx))
        have HB7 : Hid (Below w0.heap.size w0 w6) := Lib.hid (HBZ.out.trans HC7.out)
        have hb7 : w0.heap.size ≤ w6.heap.size := HB7.out.size
        have C17 : Hid (w6.cell? ⟨b, o + 0 * 6 + 1, none⟩ = some (.slice hA hn' hc')) := Lib.hid (bcell HC7.out hbb C1.out)
        have q5z : w6.cell? ⟨g6, 5, none⟩ = some (.slice none 0 0) := by have := HO7.out.cellAt 5 (by omega); simpa using this
        have qf : ∀ o, w6.frozen? ⟨g6, o, none⟩ = false := HO7.out.frozenAt
        have HIKX : Hid (0 = 0 * inn + 0) := Lib.hid (by omega)
        clear hmk
        skip
        have hbg : b ≠ g6 := by have : w0.heap.size ≤ g6 := hg6; omega
        obtain ⟨gx, gy, ex, _, _, _, _, hfr, _, q1, _, _, _, q5⟩ := HMK7.out.form
        injection ex with ex _ ex'
        injection ex with ex
        injection ex with ex
        subst ex; subst ex'
        have HFR := Lib.hid hfr
        have HQ5' := Lib.hid q5
        clear hfr q1 q5
        have D1 := Lib.hid (HMK7.out.d1 g6 rfl)
        go_upto_region 10 with fail
        refine ra_kid first 0 g6 (0 * 6) w0.heap.size (Value.slice none 0 0) 0 _ w6 _ (by omega) hb7 (by omega) HQ5'.out HFR.out HRW7.out.v D1.out.2.2 ?_
        intro v62 v63 v64 v65 v66 v67 v68 v69 v70 v71 v72 v73 v74 v75 v3 wa w3 hwa ho3 hg3 hat3
        subst hwa
        have hb3 : Below w6.heap.size w6 (w6.alloc (.cells #[.int .i64 (first + ((0 : Nat) : Int))] 3)) := (Below.refl _ _).alloc (Nat.le_refl _) _
        have MK3 := HMK7.out.setKids hb3 hg3 hat3
        obtain ⟨gx, gy, ex, _, _, _, _, hfr, _, q1, _, _, _, q5⟩ := MK3.form
        injection ex with ex _ ex'
        injection ex with ex
        injection ex with ex
        subst ex; subst ex'
        have hgr : (∀ x, (Value.slice none 0 0).ownBlock = some x → w0.heap.size ≤ x) := fun x hx => (own_lt HRW7.out.v x hx).1
        have HB3 : Hid (Below w0.heap.size w6 (w3.setCell ⟨g6, 0 * 6 + 5, none⟩ v3)) := Lib.hid (((hb3.mono hb7).grown hg3 (by simp; omega) hgr).setCell (p := ⟨g6, 0 * 6 + 5, none⟩) hg6 v3)
        have c3 : (w3.setCell ⟨g6, 0 * 6 + 5, none⟩ v3).cell? ⟨b, o + 0 * 6 + 1, none⟩ = some (.slice hA hn' hc') := bcell HB3.out hbb C17.out
        have HMK4 := Lib.hid (MK3.setHigh (.slice hA hn' hc'))
        have HRW4 := Lib.hid (((RowsK.kid (HRW7.out.below hb3) ho3 hg3 hat3 (by rw [kidPx_kid (by have := HIKX.out; omega), show 0 * inn + 0 = 0 by have := HIKX.out; omega])).off (0 * 6 + 5) v3 (MK3.d1 g6 rfl).1 (MK3.d1 g6 rfl).2.2).off (0 * 6 + 1) (.slice hA hn' hc') (MK3.d1 g6 rfl).1 (MK3.d1 g6 rfl).2.2)
        have HB4 : Hid (Below w0.heap.size w0 ((w3.setCell ⟨g6, 0 * 6 + 5, none⟩ v3).setCell ⟨g6, 0 * 6 + 1, none⟩ (.slice hA hn' hc'))) := Lib.hid ((HB7.out.trans HB3.out).setCell (p := ⟨g6, 0 * 6 + 1, none⟩) hg6 _)
        clear ho3 hg3 hat3 hb3 MK3 hgr
        obtain ⟨W3, hW3⟩ : ∃ W, W = w3.setCell ⟨g6, 0 * 6 + 5, none⟩ v3 := ⟨_, rfl⟩
        rw [← hW3] at c3 HMK4 HRW4 HB4 hfr q1 q5 ⊢
        clear hW3 HB3
        go_wp2
        go_roundg (n - (0 + 1))
        case measure => have := HG.out; omega
        case rel => exact ⟨0 + 1, rfl, by omega, by go_num, HB4.out, .inr ⟨by omega, 0, 0 + 1, _, _, _, _, _, Lib.hid ⟨by have := HIKX.out; omega, by omega, by omega⟩, by rw [show 0 + 1 - 1 = 0 by omega, HU.out]; exact HMK4.out, HRW4.out⟩⟩
      · have HIK := hik
        have HMK := Lib.hid hmk
        have HRW := Lib.hid hrw
        obtain ⟨g, gc, rfl, hg1, hg2, hg3, hg4, hg5, _, _, _, q3, _, q5⟩ := HMK.out.form
        have HQ3 := Lib.hid q3
        have HFR0 := Lib.hid hg5
        obtain ⟨dA, dc, rfl, _, _⟩ := own_val hrw.v
        have hkb : k ≤ 65536 := by have := HIK.out.1; have : k * 1 ≤ k * inn := Nat.mul_le_mul_left _ (by omega); omega
        have hmb : m ≤ 65536 := by have := HIK.out.1; omega
        have hm0 : (0 : Int) < (m : Int) := by have := HIK.out.2.2; omega
        have w1 := IntWalk.i64_in ((k : Int) + 1 - 1) (by omega)
        have w2 : (0 : Int) ≤ (k : Int) + 1 - 1 := by omega
        have w3 : ((k : Int) + 1 - 1) < (k : Int) + 1 := by omega
        have w4 : ((k : Int) + 1 - 1).toNat = k := by omega
        clear hik hmk hrw q3 hg5
        obtain ⟨_, _, hA2, hn2, hc2, sl, hB, _, hsl, _, c2', hu2, hbt2⟩ := node_at HR.out HT.out (by have := hln.out; omega) (show i - 1 < n by omega)
        injection hB with hB
        injection hB with hB1 hB2
        subst hB1; subst hB2
        have C2 := Lib.hid (bkeep HBB.out c2')
        have HU2 := Lib.hid hu2
        have HSL := Lib.hid hsl
        have HBT2 := Lib.hid (hbt2.below HBB.out)
        clear c2' hu2 hsl hbt2
        by_cases hm : m = inn
        · have hi1' : i = (k + 1) * inn := by have := HIK.out.1; rw [this, hm, Nat.add_mul]; omega
          have HI1 := Lib.hid hi1'
          have hrem : ((i : Int) % (inn : Int) == 0) = true := by
            rw [beq_iff_eq, hi1', Int.natCast_mul]
            exact Int.mul_emod_left _ _
          have w5 := IntWalk.i64_in ((k : Int) + 1 + 1 - 1) (by omega)
          have w6' : (0 : Int) ≤ (k : Int) + 1 + 1 - 1 := by omega
          have w7 : ((k : Int) + 1 + 1 - 1) < (k : Int) + 1 + 1 := by omega
          have w8 : ((k : Int) + 1 + 1 - 1).toNat = k + 1 := by omega
          have HM' := Lib.hid hm
          clear hi1' hm q5
          go_upto_region 8 with (first | (at_builtin; go_loud (refine wpList_append_any _ rfl (.tmp 21) (.tmp 30) _ rfl w0.heap.size 93 i0 _ 6 112 Try.underlying85 hi0 iz0 iz1 iz2 rfl (by omega) (.slice (some ⟨g, 0, none⟩) (k + 1) gc) (k + 1) us' rfl (HMK.out.own.alloc _) (From wr.heap.size) (some ⟨wr.heap.size, 0, none⟩) 1 1 [.int .i64 (lev0 + 1), .slice none 0 0, .int .i64 0, .slice none 0 0, .slice none 0 0, .slice none 0 0] rfl (by have := Rd.lit wr #[.int .i64 (lev0 + 1), .slice none 0 0, .int .i64 0, .slice none 0 0, .slice none 0 0, .slice none 0 0] 93 6 rfl; simpa using this) (by simp [Value.oneCell']) (by simp only [maxLen]; omega) (by omega) (by simp; omega) ?_); intro v6 w6 hown6 hg6 hat6; obtain ⟨g6, gc6, hv6, _, _⟩ := hown6.form (by omega); subst hv6; have HO7 := Lib.hid hown6; have HG7 := Lib.hid hg6; have HA7 := Lib.hid hat6; clear hown6 hg6 hat6))
          have hoff : ∀ x, (kv.ownBlock = some x ∨ (Value.slice dA m dc).ownBlock = some x) → (Value.slice (some ⟨g, 0, none⟩) (k + 1) gc).ownBlock ≠ some x := fun x hx e => hx.elim (HMK.out.d1 x e).1 (HMK.out.d1 x e).2.2
          have hmk := HMK.out.more (lev2 := lev0 + 1) ((Below.refl _ _).alloc (Nat.le_refl _) (.cells #[.int .i64 (lev0 + 1), .slice none 0 0, .int .i64 0, .slice none 0 0, .slice none 0 0, .slice none 0 0] 93)) HG7.out HA7.out HO7.out (by
            rw [HU2.out]
            refine aboveN_V (m := m) HRW.out (HR.out.below HBB.out) (HT.out.below HBB.out) hln.out (by have := HIK.out.1; omega) HIK.out.2.2 (fun x hx => ⟨.inr (own_lt HRW.out.k x hx).1, hoff x (.inl hx)⟩) (fun x hx => ⟨.inr (own_lt HRW.out.v x hx).1, hoff x (.inr hx)⟩) (fun x hx => ⟨.inl hx, fun e => by have : g = x := (by simpa [Value.ownBlock] using e); have := hx.2; omega⟩) (by rw [HM'.out]) ?_
            rw [show k * inn + m - 1 = i - 1 by have := HIK.out.1; omega, List.getD_eq_getElem?_getD, HSL.out]
            exact HBT2.out.weak (fun x hx => ⟨.inl hx, fun e => by have : g = x := (by simpa [Value.ownBlock] using e); have := hx.2; omega⟩))
          have HMK7 := Lib.hid hmk
          have hg6 : w0.heap.size ≤ g6 := (own_lt HO7.out g6 rfl).1
          have HRW7 : Hid (RowsK w6 w0.heap.size (kidPx us first n ((k + 1) * inn)) 0 0 (.slice none 0 0) (.slice none 0 0) [] []) := Lib.hid (RowsK.nil _ _ _)
          have HC7 : Hid (Below w0.heap.size wr w6) := Lib.hid ((((Below.refl _ _).mono hbs).alloc (by omega) (.cells #[.int .i64 (lev0 + 1), .slice none 0 0, .int .i64 0, .slice none 0 0, .slice none 0 0, .slice none 0 0] 93)).grown HG7.out (by simp; omega) (fun x hx => by have : g = x := (by simpa [Value.ownBlock] using hx); omega))
          have HB7 : Hid (Below w0.heap.size w0 w6) := Lib.hid (HBZ.out.trans HC7.out)
          have hb7 : w0.heap.size ≤ w6.heap.size := HB7.out.size
          have C17 : Hid (w6.cell? ⟨b, o + i * 6 + 1, none⟩ = some (.slice hA hn' hc')) := Lib.hid (bcell HC7.out hbb C1.out)
          obtain ⟨gx, gy, ex, _, _, _, _, _, _, _, _, _, _, q5z⟩ := HMK7.out.form
          injection ex with ex _ ex'
          injection ex with ex
          injection ex with ex
          subst ex; subst ex'
          have HIKX : Hid (i = (k + 1) * inn + 0) := Lib.hid (by have := HI1.out; omega)
          clear hmk hoff w1 w2 w3 w4
          skip
          have hbg : b ≠ g6 := by have : w0.heap.size ≤ g6 := hg6; omega
          obtain ⟨gx, gy, ex, _, _, _, _, hfr, _, q1, _, _, _, q5⟩ := HMK7.out.form
          injection ex with ex _ ex'
          injection ex with ex
          injection ex with ex
          subst ex; subst ex'
          have HFR := Lib.hid hfr
          have HQ5' := Lib.hid q5
          clear hfr q1 q5
          have D1 := Lib.hid (HMK7.out.d1 g6 rfl)
          go_upto_region 10 with fail
          refine ra_kid first i g6 ((k + 1) * 6) w0.heap.size (Value.slice none 0 0) 0 _ w6 _ (by omega) hb7 (by omega) HQ5'.out HFR.out HRW7.out.v D1.out.2.2 ?_
          intro v62 v63 v64 v65 v66 v67 v68 v69 v70 v71 v72 v73 v74 v75 v3 wa w3 hwa ho3 hg3 hat3
          subst hwa
          have hb3 : Below w6.heap.size w6 (w6.alloc (.cells #[.int .i64 (first + ((i : Nat) : Int))] 3)) := (Below.refl _ _).alloc (Nat.le_refl _) _
          have MK3 := HMK7.out.setKids hb3 hg3 hat3
          obtain ⟨gx, gy, ex, _, _, _, _, hfr, _, q1, _, _, _, q5⟩ := MK3.form
          injection ex with ex _ ex'
          injection ex with ex
          injection ex with ex
          subst ex; subst ex'
          have hgr : (∀ x, (Value.slice none 0 0).ownBlock = some x → w0.heap.size ≤ x) := fun x hx => (own_lt HRW7.out.v x hx).1
          have HB3 : Hid (Below w0.heap.size w6 (w3.setCell ⟨g6, (k + 1) * 6 + 5, none⟩ v3)) := Lib.hid (((hb3.mono hb7).grown hg3 (by simp; omega) hgr).setCell (p := ⟨g6, (k + 1) * 6 + 5, none⟩) hg6 v3)
          have c3 : (w3.setCell ⟨g6, (k + 1) * 6 + 5, none⟩ v3).cell? ⟨b, o + i * 6 + 1, none⟩ = some (.slice hA hn' hc') := bcell HB3.out hbb C17.out
          have HMK4 := Lib.hid (MK3.setHigh (.slice hA hn' hc'))
          have HRW4 := Lib.hid (((RowsK.kid (HRW7.out.below hb3) ho3 hg3 hat3 (by rw [kidPx_kid (by have := HIKX.out; omega), show (k + 1) * inn + 0 = i by have := HIKX.out; omega])).off ((k + 1) * 6 + 5) v3 (MK3.d1 g6 rfl).1 (MK3.d1 g6 rfl).2.2).off ((k + 1) * 6 + 1) (.slice hA hn' hc') (MK3.d1 g6 rfl).1 (MK3.d1 g6 rfl).2.2)
          have HB4 : Hid (Below w0.heap.size w0 ((w3.setCell ⟨g6, (k + 1) * 6 + 5, none⟩ v3).setCell ⟨g6, (k + 1) * 6 + 1, none⟩ (.slice hA hn' hc'))) := Lib.hid ((HB7.out.trans HB3.out).setCell (p := ⟨g6, (k + 1) * 6 + 1, none⟩) hg6 _)
          clear ho3 hg3 hat3 hb3 MK3 hgr
          obtain ⟨W3, hW3⟩ : ∃ W, W = w3.setCell ⟨g6, (k + 1) * 6 + 5, none⟩ v3 := ⟨_, rfl⟩
          rw [← hW3] at c3 HMK4 HRW4 HB4 hfr q1 q5 ⊢
          clear hW3 HB3
          go_wp2
          go_roundg (n - (i + 1))
          case measure => have := HG.out; omega
          case rel => exact ⟨i + 1, rfl, by omega, by go_num, HB4.out, .inr ⟨by omega, (k + 1), 0 + 1, _, _, _, _, _, Lib.hid ⟨by have := HIKX.out; omega, by omega, by omega⟩, by rw [show i + 1 - 1 = i by omega, HU.out]; exact HMK4.out, HRW4.out⟩⟩
        · have hrem : ((i : Int) % (inn : Int) == 0) = false := by
            rw [beq_eq_false_iff_ne]
            have e1 := HIK.out
            rw [e1.1, Int.natCast_add, Int.natCast_mul, Int.add_comm, Int.add_mul_emod_self_right, Int.emod_eq_of_lt (by omega) (by omega)]
            omega
          have hmi : m < inn := by have := HIK.out; omega
          clear hm
          go_upto_region 9 with fail
          refine ra_key b o n c i g (k * 6) w0.heap.size kv (m - 1) _ hA2 hn2 hc2 wr _ (Lib.hid (fun _ _ _ _ h => h)) hi0' hlt (by omega) (by omega) hbs hbb C2.out HQ3.out HFR0.out HRW.out.k (HMK.out.d1 g rfl).1 ?_
          intro v44 v45 v46 v47 v48 v49 v50 v51 v52 v53 v54 v55 v56 v57 v58 v59 v60 v61 v2 wa w2' hwa ho2 hg2' hat2
          have HB2 : Hid (Below w0.heap.size wr (w2'.setCell ⟨g, k * 6 + 3, none⟩ v2)) := Lib.hid (((hwa.mono hbs).grown hg2' (Nat.le_trans hbs hwa.size) (fun x hx => (own_lt HRW.out.k x hx).1)).setCell (p := ⟨g, k * 6 + 3, none⟩) hg3 v2)
          have HMK2 := Lib.hid (HMK.out.setKeys hwa hg2' hat2)
          have HRW2' := Lib.hid ((RowsK.key (HRW.out.below hwa) ho2 hg2' hat2 (by rw [kidPx_key (by have := HIK.out.1; omega), show k * inn + (m - 1) = i - 1 by have := HIK.out; omega, HU2.out])).off (k * 6 + 3) v2 (HMK2.out.d1 g rfl).1 (HMK2.out.d1 g rfl).2.2)
          have HRW2 : Hid (RowsK (w2'.setCell ⟨g, k * 6 + 3, none⟩ v2) w0.heap.size (kidPx us first n (k * inn)) m m v2 (.slice dA m dc) (kus ++ [.slice hA2 hn2 hc2]) dus) := Lib.hid (by have := HRW2'.out; rwa [show m - 1 + 1 = m by have := HIK.out; omega] at this)
          have C12 := Lib.hid (bcell HB2.out hbb C1.out)
          have HBZ2 := Lib.hid (HBZ.out.trans HB2.out)
          clear ho2 hg2' hat2 hwa HRW2' HB2
          obtain ⟨W2, hW2⟩ : ∃ W, W = w2'.setCell ⟨g, k * 6 + 3, none⟩ v2 := ⟨_, rfl⟩
          rw [← hW2] at HMK2 HRW2 C12 HBZ2 ⊢
          clear hW2 q5
          have hb2 : w0.heap.size ≤ W2.heap.size := HBZ2.out.size
          have hgb := hg3
          have HIKX : Hid (i = k * inn + m) := Lib.hid HIK.out.1
          skip
          have hbg : b ≠ g := by have : w0.heap.size ≤ g := hgb; omega
          obtain ⟨gx, gy, ex, _, _, _, _, hfr, _, q1, _, _, _, q5⟩ := HMK2.out.form
          injection ex with ex _ ex'
          injection ex with ex
          injection ex with ex
          subst ex; subst ex'
          have HFR := Lib.hid hfr
          have HQ5' := Lib.hid q5
          clear hfr q1 q5
          have D1 := Lib.hid (HMK2.out.d1 g rfl)
          go_upto_region 10 with fail
          refine ra_kid first i g (k * 6) w0.heap.size (Value.slice dA m dc) m _ W2 _ (by omega) hb2 (by omega) HQ5'.out HFR.out HRW2.out.v D1.out.2.2 ?_
          intro v62 v63 v64 v65 v66 v67 v68 v69 v70 v71 v72 v73 v74 v75 v3 wa w3 hwa ho3 hg3 hat3
          subst hwa
          have hb3 : Below W2.heap.size W2 (W2.alloc (.cells #[.int .i64 (first + ((i : Nat) : Int))] 3)) := (Below.refl _ _).alloc (Nat.le_refl _) _
          have MK3 := HMK2.out.setKids hb3 hg3 hat3
          obtain ⟨gx, gy, ex, _, _, _, _, hfr, _, q1, _, _, _, q5⟩ := MK3.form
          injection ex with ex _ ex'
          injection ex with ex
          injection ex with ex
          subst ex; subst ex'
          have hgr : (∀ x, (Value.slice dA m dc).ownBlock = some x → w0.heap.size ≤ x) := fun x hx => (own_lt HRW2.out.v x hx).1
          have HB3 : Hid (Below w0.heap.size W2 (w3.setCell ⟨g, k * 6 + 5, none⟩ v3)) := Lib.hid (((hb3.mono hb2).grown hg3 (by simp; omega) hgr).setCell (p := ⟨g, k * 6 + 5, none⟩) hgb v3)
          have c3 : (w3.setCell ⟨g, k * 6 + 5, none⟩ v3).cell? ⟨b, o + i * 6 + 1, none⟩ = some (.slice hA hn' hc') := bcell HB3.out hbb C12.out
          have HMK4 := Lib.hid (MK3.setHigh (.slice hA hn' hc'))
          have HRW4 := Lib.hid (((RowsK.kid (HRW2.out.below hb3) ho3 hg3 hat3 (by rw [kidPx_kid (by have := HIKX.out; omega), show k * inn + m = i by have := HIKX.out; omega])).off (k * 6 + 5) v3 (MK3.d1 g rfl).1 (MK3.d1 g rfl).2.2).off (k * 6 + 1) (.slice hA hn' hc') (MK3.d1 g rfl).1 (MK3.d1 g rfl).2.2)
          have HB4 : Hid (Below w0.heap.size w0 ((w3.setCell ⟨g, k * 6 + 5, none⟩ v3).setCell ⟨g, k * 6 + 1, none⟩ (.slice hA hn' hc'))) := Lib.hid ((HBZ2.out.trans HB3.out).setCell (p := ⟨g, k * 6 + 1, none⟩) hgb _)
          clear ho3 hg3 hat3 hb3 MK3 hgr
          obtain ⟨W3, hW3⟩ : ∃ W, W = w3.setCell ⟨g, k * 6 + 5, none⟩ v3 := ⟨_, rfl⟩
          rw [← hW3] at c3 HMK4 HRW4 HB4 hfr q1 q5 ⊢
          clear hW3 HB3
          go_wp2
          go_roundg (n - (i + 1))
          case measure => have := HG.out; omega
          case rel => exact ⟨i + 1, rfl, by omega, by go_num, HB4.out, .inr ⟨by omega, k, m + 1, _, _, _, _, _, Lib.hid ⟨by have := HIKX.out; omega, by omega, by omega⟩, by rw [show i + 1 - 1 = i by omega, HU.out]; exact HMK4.out, HRW4.out⟩⟩
    · have hie : i = n := by omega
      subst hie
      rcases HST.out with ⟨hi0', _⟩ | ⟨hi0', k, m, us', kv, dv, kus, dus, hik, hmk, hrw⟩
      · omega
      · have e1 := hik
        have HMK := Lib.hid hmk
        have HRW := Lib.hid hrw
        obtain ⟨g, gc, rfl, _⟩ := hmk.form
        clear hik hmk hrw
        obtain ⟨_, _, hA2, hn2, hc2, sl, hB, _, hsl, _, _, hu2, hbt2⟩ := node_at HR.out HT.out (by have := hln.out; omega) (show i - 1 < i by omega)
        injection hB with hB
        injection hB with hB1 hB2
        subst hB1; subst hB2
        have HU2 := Lib.hid hu2
        have HSL := Lib.hid hsl
        have HBT2 := Lib.hid (hbt2.below HBB.out)
        clear hu2 hsl hbt2
        go_wp2
        go_ret
        have hpn := pn_bounds i inn (by omega) (by omega)
        have hM : pn i inn = k + 1 := by
          have e := e1.out
          have a1 : k * inn < pn i inn * inn := by omega
          have a2 : pn i inn * inn < (k + 2) * inn := by rw [Nat.add_mul]; omega
          have a3 := Nat.lt_of_mul_lt_mul_right a1
          have a4 := Nat.lt_of_mul_lt_mul_right a2
          omega
        have hoff : ∀ x, (kv.ownBlock = some x ∨ dv.ownBlock = some x) → (Value.slice (some ⟨g, 0, none⟩) (k + 1) gc).ownBlock ≠ some x := fun x hx e => hx.elim (HMK.out.d1 x e).1 (HMK.out.d1 x e).2.2
        have hLv := HMK.out.level (by
          rw [HU2.out]
          refine aboveN_V (m := m) HRW.out (HR.out.below HBB.out) (HT.out.below HBB.out) hln.out (by have := e1.out.1; omega) e1.out.2.2 (fun x hx => ⟨.inr (own_lt HRW.out.k x hx).1, hoff x (.inl hx)⟩) (fun x hx => ⟨.inr (own_lt HRW.out.v x hx).1, hoff x (.inr hx)⟩) (fun x hx => ⟨.inl hx, fun e => by have : g = x := (by simpa [Value.ownBlock] using e); have := hx.2; have := (own_lt HMK.out.own g rfl).1; omega⟩) (by have := e1.out; have := hln.out; rw [List.take_of_length_le (by rw [List.length_drop]; omega), List.take_of_length_le (by rw [List.length_drop]; omega)]) ?_
          rw [show k * inn + m - 1 = i - 1 by have := e1.out.1; omega, List.getD_eq_getElem?_getD, HSL.out]
          exact HBT2.out.weak (fun x hx => ⟨.inl hx, fun e => by have : g = x := (by simpa [Value.ownBlock] using e); have := hx.2; have := (own_lt HMK.out.own g rfl).1; omega⟩))
        obtain ⟨us2, l1, l2, l3⟩ := hLv
        refine ⟨_, rfl, ⟨us2, ?_, fun x hx => .inr (by have := (own_lt l1 x hx).1; omega), fun j s hs => ?_⟩, HBB.out⟩
        · rw [hM]; exact own_mono l1 (by omega)
        · rw [hM] at hs; exact (l3 j s hs).weak (fun x hx => hx.imp id (fun h => by omega))
end Go.Proofs.Ytgjphmlmndcaeaa

namespace Go.Proofs.Ytgjphmlmndcaeaa
open Go.RowKit
theorem slot_info : (Try.prog.info? 97).map (fun i => (i.zero, i.size, i.bytes)) = some (some (.agg #[.int .u64 0, .int .i64 0, .slice none 0 0, .int .i64 0, .slice none 0 0, .slice none 0 0, .slice none 0 0]), 7, 120) := by kernel_rfl

/-- the document's arena while it is made -/
structure ArB (w : World) (base p : Nat) (nodes : Int) (sl : List Slt) (out : Value) (us : List Value) : Prop where
  blk : Blk w p 83 #[.int .i64 nodes, out, .int .i64 1]
  own : w.ownsRow base 97 7 out sl.length us
  slot : ∀ (i : Nat) (s : Slt), sl[i]? = some s → SlotV w (fun b => base ≤ b ∧ b ≠ p ∧ out.ownBlock ≠ some b) ((us.drop (i * 7)).take 7) s
theorem SlotV.next {S D D' : Nat → Prop} {w w' : World} {vs : List Value} {s : Slt} (h : SlotV w D vs s) (hc : Chg S w w') (hs : ∀ b, b < w.heap.size → D b → ¬ S b) (hD : ∀ b, b < w.heap.size → D b → D' b) : SlotV w' D' vs s :=
  (h.lt.chg hc (fun b hb => hs b hb.2 hb.1)).weak (fun b hb => hD b hb.2 hb.1)
section
variable {w w' wa w2 : World} {base p : Nat} {nodes : Int} {sl : List Slt} {out : Value} {us : List Value}
theorem ArB.off (h : ArB w base p nodes sl out us) : out.ownBlock ≠ some p := own_blk_ne h.own h.blk (by decide)
theorem ArB.below (h : ArB w base p nodes sl out us) (hb : Below w.heap.size w w') : ArB w' base p nodes sl out us :=
  ⟨h.blk.below hb, own_below h.own hb, fun i s hs => (h.slot i s hs).next (Chg.of_below (S := Nil) hb) (fun _ _ _ h => h) (fun _ _ h => h)⟩
theorem ArB.push {v2 : Value} {s : Slt} {news : List Value} (h : ArB w base p nodes sl out us) (hb : Below w.heap.size w wa) (ho : w2.ownsRow base 97 7 v2 (sl.length + 1) (us ++ news)) (hg : wa.grownBy w2 out.ownBlock) (hat : v2.ownBlock = out.ownBlock ∨ v2.ownBlock = some wa.heap.size)
    (hl : news.length = 7) (hs : SlotV wa (fun b => base ≤ b ∧ b ≠ p ∧ out.ownBlock ≠ some b) news s) : ArB (w2.setCell ⟨p, 1, none⟩ v2) base p nodes (sl ++ [s]) v2 (us ++ news) := by
  have hc : Chg (fun b => out.ownBlock = some b) wa w2 := Chg.of_grown hg
  have hwp := h.blk.lt
  have hws := hb.size
  have hvp : v2.ownBlock ≠ some p := fun e => hat.elim (fun e' => h.off (e' ▸ e)) (fun e' => by rw [e'] at e; injection e with e; omega)
  have up : ∀ b, b < wa.heap.size → (base ≤ b ∧ b ≠ p ∧ out.ownBlock ≠ some b) → (base ≤ b ∧ b ≠ p ∧ v2.ownBlock ≠ some b) := fun b hb' hx => ⟨hx.1, hx.2.1, fun e => hat.elim (fun e' => hx.2.2 (e' ▸ e)) (fun e' => by rw [e'] at e; injection e with e; omega)⟩
  have hus : us.length = sl.length * 7 := h.own.1
  refine ⟨?_, ?_, fun i s' hi => ?_⟩
  · have := ((h.blk.below hb).chg hc h.off).set_ 1 v2
    exact this
  · have := own_chg ho (Chg.set1 w2 p 1 v2) (fun g hg' e => hvp (by rw [hg', show g = p from e]))
    simpa using this
  · have key : SlotV wa (fun b => base ≤ b ∧ b ≠ p ∧ out.ownBlock ≠ some b) (((us ++ news).drop (i * 7)).take 7) s' := by
      rcases Nat.lt_or_ge i sl.length with hl' | hl'
      · rw [List.getElem?_append_left hl'] at hi
        rw [List.drop_append_of_le_length (by omega), List.take_append_of_le_length (by rw [List.length_drop]; omega)]
        exact (h.slot i s' hi).next (Chg.of_below (S := Nil) hb) (fun _ _ _ h => h) (fun _ _ h => h)
      · rw [List.getElem?_append_right hl'] at hi
        have hi0 : i = sl.length := by have := (List.getElem?_eq_some_iff.1 hi).1; simp at this; omega
        subst hi0
        simp at hi
        subst hi
        rw [List.drop_append, List.drop_of_length_le (by omega), hus, Nat.sub_self, List.nil_append, List.drop_zero, List.take_of_length_le (by omega)]
        exact hs
    exact (key.next hc (fun b _ hx e => hx.2.2 e) (D' := fun b => (base ≤ b ∧ b ≠ p ∧ v2.ownBlock ≠ some b)) up).next (Chg.set1 w2 p 1 v2) (fun b _ hx e => hx.2.1 e) (fun _ _ h => h)
/-- it is an arena -/
theorem ArB.done (h : ArB w base p nodes sl out us) (hp : base ≤ p) (top : Int) : ArR (w.setCell ⟨p, 2, none⟩ (.int .i64 top)) (From base) p nodes sl top := by
  obtain ⟨A, c, rfl, h1, h2⟩ := own_val h.own
  have hc : Chg (One p) w (w.setCell ⟨p, 2, none⟩ (.int .i64 top)) := Chg.set1 w p 2 _
  refine ⟨A, sl.length, c, hp, h.blk.set_ 2 _, rfl, us, ?_, fun i s hs => ?_⟩
  · exact rd_own_blk (own_chg h.own hc (fun g hg e => h.off (by rw [hg, show g = p from e]))) (fun g hg => (own_lt h.own g hg).1)
  · exact (h.slot i s hs).next hc (fun b _ hx e => hx.2.1 e) (fun b _ hx => hx.1)
end
noncomputable def rbPutC : Code := codeOr (Try.f21.body.bind (regionAt 22))
set_option maxRecDepth 100000 in
set_option maxHeartbeats 4000000 in
theorem rb_put (base p x : Nat) (nodes : Int) (sl : List Slt) (out : Value) (us : List Value) (nd : Nd) (hA kA vA dA : Option Addr) (hn hc kn kc vn vc dn dc : Nat) (w : World) {u0 u1 u2 u3 u4 u5 u6 u7 u8 u10 u11 u12 u13 u15 u16 u17 u18 u19 u20 u21 u22 u23 u24 u25 u26 u27 u28 u29 u30 u31 u32 u33 u34 u35 u36 u37 u38 u39 u40 u41 u42 u43 u44 u45 u46 u47 u48 u49 u50 u51 u52 u53 u54 u55 u56 u57 u58 u59 u60 u61 u62 u63 u64 u65 u66 u67 u68 u69 u70 u71 u72 u73 u74 u75 u76 u77 u78 u79 u80 u81 u82 u83 u84 u85 u86 u87 u88 u89 u90 u91 u92 u93 u94 u95 u96 u97 u98 u99 u100 u101 u102 u103 u104 : Value} (Q : Exit → Act → World → Prop) (HQP : Hid (∀ c t (a : Act) w, Q (.panic c) ⟨t, a.defers⟩ w → Q (.panic c) a w))
    (HAB : Hid (ArB w base p nodes sl out us)) (hsl : sl.length ≤ 65536) (hbase : base ≤ w.heap.size)
    (hx : Blk w x 93 #[.int .i64 nd.lev, .slice hA hn hc, .int .i64 nd.right, .slice kA kn kc, .slice vA vn vc, .slice dA dn dc])
    (h1 : Bt w (fun b => base ≤ b ∧ b ≠ p ∧ out.ownBlock ≠ some b) hA hn hc nd.high) (h2 : Tx w (fun b => base ≤ b ∧ b ≠ p ∧ out.ownBlock ≠ some b) kA kn kc nd.keys) (h3 : Tx w (fun b => base ≤ b ∧ b ≠ p ∧ out.ownBlock ≠ some b) vA vn vc nd.vals) (h4 : It w (fun b => base ≤ b ∧ b ≠ p ∧ out.ownBlock ≠ some b) dA dn dc nd.kids)
    (hexit : ∀ (v82 v83 v84 v85 v86 v87 v88 v89 v90 v91 v92 : Value) (out' : Value) (us' : List Value) (w' : World), ArB w' base p nodes (sl ++ [(2, nd)]) out' us' → Chg (fun b => b = p ∨ out.ownBlock = some b) w w' → (out'.ownBlock = out.ownBlock ∨ ∃ y, w.heap.size ≤ y ∧ out'.ownBlock = some y) → Q .normal ⟨(u0 :: u1 :: u2 :: u3 :: u4 :: u5 :: u6 :: u7 :: u8 :: .pointer (some ⟨p, 0, none⟩) :: u10 :: u11 :: u12 :: u13 :: .pointer (some ⟨x, 0, none⟩) :: u15 :: u16 :: u17 :: u18 :: u19 :: u20 :: u21 :: u22 :: u23 :: u24 :: u25 :: u26 :: u27 :: u28 :: u29 :: u30 :: u31 :: u32 :: u33 :: u34 :: u35 :: u36 :: u37 :: u38 :: u39 :: u40 :: u41 :: u42 :: u43 :: u44 :: u45 :: u46 :: u47 :: u48 :: u49 :: u50 :: u51 :: u52 :: u53 :: u54 :: u55 :: u56 :: u57 :: u58 :: u59 :: u60 :: u61 :: u62 :: u63 :: u64 :: u65 :: u66 :: u67 :: u68 :: u69 :: u70 :: u71 :: u72 :: u73 :: u74 :: u75 :: u76 :: u77 :: u78 :: u79 :: u80 :: u81 :: v82 :: v83 :: v84 :: v85 :: v86 :: v87 :: v88 :: v89 :: v90 :: v91 :: v92 :: u93 :: u94 :: u95 :: u96 :: u97 :: u98 :: u99 :: u100 :: u101 :: u102 :: u103 :: u104 :: []).toArray, []⟩ w') :
    Code.wp Try.prog rbPutC Q ⟨(u0 :: u1 :: u2 :: u3 :: u4 :: u5 :: u6 :: u7 :: u8 :: .pointer (some ⟨p, 0, none⟩) :: u10 :: u11 :: u12 :: u13 :: .pointer (some ⟨x, 0, none⟩) :: u15 :: u16 :: u17 :: u18 :: u19 :: u20 :: u21 :: u22 :: u23 :: u24 :: u25 :: u26 :: u27 :: u28 :: u29 :: u30 :: u31 :: u32 :: u33 :: u34 :: u35 :: u36 :: u37 :: u38 :: u39 :: u40 :: u41 :: u42 :: u43 :: u44 :: u45 :: u46 :: u47 :: u48 :: u49 :: u50 :: u51 :: u52 :: u53 :: u54 :: u55 :: u56 :: u57 :: u58 :: u59 :: u60 :: u61 :: u62 :: u63 :: u64 :: u65 :: u66 :: u67 :: u68 :: u69 :: u70 :: u71 :: u72 :: u73 :: u74 :: u75 :: u76 :: u77 :: u78 :: u79 :: u80 :: u81 :: u82 :: u83 :: u84 :: u85 :: u86 :: u87 :: u88 :: u89 :: u90 :: u91 :: u92 :: u93 :: u94 :: u95 :: u96 :: u97 :: u98 :: u99 :: u100 :: u101 :: u102 :: u103 :: u104 :: []).toArray, []⟩ w := by
  obtain ⟨i0, hi0, iz0, iz1, iz2⟩ := info_parts slot_info
  have HEX := Lib.hid hexit
  have hxo : out.ownBlock ≠ some x := own_blk_ne HAB.out.own hx (by decide)
  have hxp : x ≠ p := hx.ne_ HAB.out.blk (by decide)
  have S0 : w.drew.cell? ⟨p, 1, none⟩ = some out ∧ Six x nd.lev hA hn hc nd.right kA kn kc vA vn vc dA dn dc w.drew := ⟨(HAB.out.blk.cell 1).trans rfl, by rw [hx.drew.cell]; rfl, by rw [hx.drew.cell]; rfl, by rw [hx.drew.cell]; rfl, by rw [hx.drew.cell]; rfl, by rw [hx.drew.cell]; rfl, by rw [hx.drew.cell]; rfl⟩
  have H1 := Lib.hid h1
  have H2 := Lib.hid h2
  have H3 := Lib.hid h3
  have H4 := Lib.hid h4
  have hpl := HAB.out.blk.lt
  clear hx h1 h2 h3 h4 hexit
  conv => arg 2; whnf
  refine wp_region_U (fun w' => w'.cell? ⟨p, 1, none⟩ = some out ∧ Six x nd.lev hA hn hc nd.right kA kn kc vA vn vc dA dn dc w') 11 (by kernel_rfl) ?_
  refine wpU_free (i := 0) (v := ?_) rfl (by kernel_rfl) (by kernel_rfl) (by kernel_rfl) (by kernel_rfl) (by first | exact fun _ _ _ h => h | exact fun c a w h => HQP.out c _ a w h) (fun _ => S0) (Or.inl ⟨by kernel_rfl, ?_⟩) ?_
  rotate_left
  · intro w hSw
    go_simp
    try with_reducible rfl
  try simp only [Act.put, List.setIfInBounds_toArray, List.set_cons_zero, List.set_cons_succ]
  refine wpU_free (i := 1) (v := ?_) rfl (by kernel_rfl) (by kernel_rfl) (by kernel_rfl) (by kernel_rfl) (by first | exact fun _ _ _ h => h | exact fun c a w h => HQP.out c _ a w h) (fun _ => S0) (Or.inl ⟨by kernel_rfl, ?_⟩) ?_
  rotate_left
  · intro w hSw
    go_simp
    try with_reducible rfl
  try simp only [Act.put, List.setIfInBounds_toArray, List.set_cons_zero, List.set_cons_succ]
  refine wpU_free (i := 2) (v := ?_) rfl (by kernel_rfl) (by kernel_rfl) (by kernel_rfl) (by kernel_rfl) (by first | exact fun _ _ _ h => h | exact fun c a w h => HQP.out c _ a w h) (fun _ => S0) (Or.inl ⟨by kernel_rfl, ?_⟩) ?_
  rotate_left
  · intro w hSw
    go_simp
    try with_reducible rfl
  try simp only [Act.put, List.setIfInBounds_toArray, List.set_cons_zero, List.set_cons_succ]
  refine wpU_free (i := 3) (v := ?_) rfl (by kernel_rfl) (by kernel_rfl) (by kernel_rfl) (by kernel_rfl) (by first | exact fun _ _ _ h => h | exact fun c a w h => HQP.out c _ a w h) (fun _ => S0) (Or.inl ⟨by kernel_rfl, ?_⟩) ?_
  rotate_left
  · intro w hSw
    go_simp
    try with_reducible rfl
  try simp only [Act.put, List.setIfInBounds_toArray, List.set_cons_zero, List.set_cons_succ]
  refine wpU_take (i := 4) (v := ?_) rfl (by kernel_rfl) (by kernel_rfl) (by kernel_rfl) (by kernel_rfl) (by first | exact fun _ _ _ h => h | exact fun c a w h => HQP.out c _ a w h) S0 (Or.inl ⟨by kernel_rfl, ?_⟩) ?_
  rotate_left
  · intro w hSw
    obtain ⟨s, s0, s1, s2, s3, s4, s5⟩ := hSw
    go_simp
    try with_reducible rfl
  try simp only [Act.put, List.setIfInBounds_toArray, List.set_cons_zero, List.set_cons_succ]
  refine wpU_take (i := 5) (v := ?_) rfl (by kernel_rfl) (by kernel_rfl) (by kernel_rfl) (by kernel_rfl) (by first | exact fun _ _ _ h => h | exact fun c a w h => HQP.out c _ a w h) S0 (Or.inl ⟨by kernel_rfl, ?_⟩) ?_
  rotate_left
  · intro w hSw
    obtain ⟨s, s0, s1, s2, s3, s4, s5⟩ := hSw
    go_simp
    try with_reducible rfl
  try simp only [Act.put, List.setIfInBounds_toArray, List.set_cons_zero, List.set_cons_succ]
  refine wpU_free (i := 6) (v := ?_) rfl (by kernel_rfl) (by kernel_rfl) (by kernel_rfl) (by kernel_rfl) (by first | exact fun _ _ _ h => h | exact fun c a w h => HQP.out c _ a w h) (fun _ => S0) (Or.inl ⟨by kernel_rfl, ?_⟩) ?_
  rotate_left
  · intro w hSw
    go_simp
    try with_reducible rfl
  try simp only [Act.put, List.setIfInBounds_toArray, List.set_cons_zero, List.set_cons_succ]
  refine wpU_one (i := 7) (by kernel_rfl) rfl (fun K hK => ?_)
  go_simp
  have hb2 : Below w.drew.heap.size w.drew (w.drew.alloc (.cells #[.int .u64 2, .int .i64 nd.lev, .slice hA hn hc, .int .i64 nd.right, .slice kA kn kc, .slice vA vn vc, .slice dA dn dc] 97)) := (Below.refl _ _).alloc (Nat.le_refl _) _; have S2 : (w.drew.alloc (.cells #[.int .u64 2, .int .i64 nd.lev, .slice hA hn hc, .int .i64 nd.right, .slice kA kn kc, .slice vA vn vc, .slice dA dn dc] 97)).cell? ⟨p, 1, none⟩ = some out ∧ Six x nd.lev hA hn hc nd.right kA kn kc vA vn vc dA dn dc (w.drew.alloc (.cells #[.int .u64 2, .int .i64 nd.lev, .slice hA hn hc, .int .i64 nd.right, .slice kA kn kc, .slice vA vn vc, .slice dA dn dc] 97)) := ⟨bkeep hb2 S0.1, S0.2.chg (S := Nil) (Chg.of_below hb2) (fun h => h)⟩
  refine hK.out _ _ (fun _ => S2) ?_
  clear hK K
  try simp only [Act.put, List.setIfInBounds_toArray, List.set_cons_zero, List.set_cons_succ]
  refine wpU_one (i := 8) (by kernel_rfl) rfl (fun K hK => ?_)
  refine step_append_any _ rfl (.tmp 86) (.tmp 89) _ rfl base 97 i0 _ 7 120 Try.underlying81 hi0 iz0 iz1 iz2 rfl (by omega) out sl.length us rfl (own_below HAB.out.own ((Below.refl _ _).drew.alloc (Nat.le_refl _) _)) (From w.heap.size) (some ⟨w.heap.size, 0, none⟩) 1 1 [.int .u64 2, .int .i64 nd.lev, .slice hA hn hc, .int .i64 nd.right, .slice kA kn kc, .slice vA vn vc, .slice dA dn dc] rfl (Rd.lit w.drew #[.int .u64 2, .int .i64 nd.lev, .slice hA hn hc, .int .i64 nd.right, .slice kA kn kc, .slice vA vn vc, .slice dA dn dc] _ 7 rfl) (by simp [Value.oneCell']) (by simp only [maxLen]; omega) (by omega) (by simp; omega) ?_; intro v2 w2 hown2 hg2 hat2; obtain ⟨K2, kc2, hv2, _, _⟩ := own_val hown2; subst hv2; have HO2 := Lib.hid hown2; have HG2 := Lib.hid hg2; have HA2 := Lib.hid hat2; have hqf : w2.cell? ⟨p, 1, none⟩ = some out := (Chg.of_grown hg2).cell HAB.out.off S2.1; have hf2 : ∀ o, w2.frozen? ⟨p, o, none⟩ = false := (((HAB.out.blk.below ((Below.refl _ _).drew.alloc (Nat.le_refl _) _))).chg (Chg.of_grown hg2) HAB.out.off).frozen; have S3 : w2.cell? ⟨p, 1, none⟩ = some out ∧ Six x nd.lev hA hn hc nd.right kA kn kc vA vn vc dA dn dc w2 := ⟨hqf, S2.2.chg (Chg.of_grown hg2) hxo⟩; clear hown2 hg2 hat2
  refine hK.out _ _ (fun _ => S3) ?_
  clear hK K
  try simp only [Act.put, List.setIfInBounds_toArray, List.set_cons_zero, List.set_cons_succ]
  refine wpU_free (i := 9) (v := ?_) rfl (by kernel_rfl) (by kernel_rfl) (by kernel_rfl) (by kernel_rfl) (by first | exact fun _ _ _ h => h | exact fun c a w h => HQP.out c _ a w h) (fun _ => S3) (Or.inl ⟨by kernel_rfl, ?_⟩) ?_
  rotate_left
  · intro w hSw
    go_simp
    try with_reducible rfl
  try simp only [Act.put, List.setIfInBounds_toArray, List.set_cons_zero, List.set_cons_succ]
  refine wpU_free (i := 10) (v := ?_) rfl (by kernel_rfl) (by kernel_rfl) (by kernel_rfl) (by kernel_rfl) (by first | exact fun _ _ _ h => h | exact fun c a w h => HQP.out c _ a w h) (fun _ => S3) (Or.inl ⟨by kernel_rfl, ?_⟩) ?_
  rotate_left
  · intro w hSw
    go_simp
    try with_reducible rfl
  try simp only [Act.put, List.setIfInBounds_toArray, List.set_cons_zero, List.set_cons_succ]
  refine wpU_one (i := 11) (by kernel_rfl) rfl (fun K hK => ?_)
  go_simp
  refine hK.out _ _ (fun h => absurd h (by decide)) ?_
  clear hK K
  try simp only [Act.put, List.setIfInBounds_toArray, List.set_cons_zero, List.set_cons_succ]
  refine wpU_done (by kernel_rfl) ?_ _
  have hba : Below w.heap.size w (w.drew.alloc (.cells #[.int .u64 2, .int .i64 nd.lev, .slice hA hn hc, .int .i64 nd.right, .slice kA kn kc, .slice vA vn vc, .slice dA dn dc] 97)) := (Below.refl _ _).drew.alloc (Nat.le_refl _) _
  refine HEX.out _ _ _ _ _ _ _ _ _ _ _ _ _ _ (HAB.out.push hba HO2.out HG2.out HA2.out rfl ⟨hA, hn, hc, kA, kn, kc, vA, vn, vc, dA, dn, dc, rfl, H1.out.below hba, H2.out.below hba, H3.out.below hba, H4.out.below hba⟩) ?_ ?_
  · exact (((Chg.of_below (S := fun b => b = p ∨ out.ownBlock = some b) hba).trans (Chg.of_grown HG2.out) (fun b _ h => .inr h))).setCell (p := ⟨p, 1, none⟩) (fun _ => .inl rfl) _
  · exact HA2.out.imp id (fun e => ⟨_, by simp, e⟩)
end Go.Proofs.Ytgjphmlmndcaeaa
