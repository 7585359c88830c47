/- WALKS: the document's maps whose cells lie off a set of blocks: put and cut, their parts. (offs.py printed this from XRefM) WALKS: the document's put, off a set of blocks. (offs.py printed this from XRefP) WALKS: the document's maps: coppiceref20.cut, has, Map. WALKS: the document's cut, off a set of blocks. (offs.py printed this from XRefQ) -/
import Derived.Test.YtpbnngfiinihmaaOc06
set_option linter.unusedVariables false
set_option linter.unusedSimpArgs false
namespace Go.Proofs.Ytpbnngfiinihmaa.Sf
open Go.RowKit
open Go.Lib (compareBytes)
/-- off a set of blocks -/
def Off (X : Nat → Prop) : Nat → Prop := fun b => ¬ X b
/-- off a set of blocks, and below a place -/
def Un (X : Nat → Prop) (B : Nat) : Nat → Prop := fun b => ¬ X b ∧ b < B
theorem off_sb {w : World} {X : Nat → Prop} {v : Value} {bs : List UInt8} {B : Nat} (h : SB w (Off X) v bs) (hB : w.heap.size ≤ B) : SB w (Un X B) v bs := h.and (fun b hb hx => ⟨hx, by omega⟩)
/-- entries one behind the other, in a row of their own; their texts lie below base -/
structure Eo (X : Nat → Prop) (w : World) (base : Nat) (out : Value) (us : List Value) (l : List Ent) : Prop where
  own : w.ownsRow base 38 2 out l.length us
  tx : ∀ (i : Nat) (e : Ent), l[i]? = some e → ∃ u v, us[2 * i]? = some u ∧ us[2 * i + 1]? = some v ∧ SB w (Un X base) u e.1 ∧ SB w (Un X base) v e.2
section
variable {X S : Nat → Prop} {w w' : World} {base : Nat} {out : Value} {us : List Value} {l : List Ent}
theorem Eo.nil (w : World) (base : Nat) : Eo X w base (.slice none 0 0) [] [] := ⟨World.ownsRow_nil _ _ _ _, fun i e h => by simp at h⟩
theorem Eo.below (h : Eo X w base out us l) (hb : Below w.heap.size w w') : Eo X w' base out us l :=
  ⟨own_below h.own hb, fun i e he => let ⟨u, v, a, b, c, d⟩ := h.tx i e he; ⟨u, v, a, b, c.below hb, d.below hb⟩⟩
theorem Eo.push {v2 u v : Value} {e : Ent} (h : Eo X w base out us l) (ho : w'.ownsRow base 38 2 v2 (l.length + 1) (us ++ [u, v])) (hc : Below base w w')
    (hu : SB w (Un X base) u e.1) (hv : SB w (Un X base) v e.2) : Eo X w' base v2 (us ++ [u, v]) (l ++ [e]) := by
  have hl : us.length = l.length * 2 := h.own.1
  have nx : ∀ {x : Value} {bs : List UInt8}, SB w (Un X base) x bs → SB w' (Un X base) x bs := fun hx => hx.chg (S := fun b => base ≤ b) (Chg.of_below_ hc (fun b _ hb => hb)) (fun b (hb : Un X base b) (h2 : base ≤ b) => by have := hb.2; omega)
  refine ⟨by rw [List.length_append]; exact ho, fun i e' hi => ?_⟩
  rcases Nat.lt_or_ge i l.length with h1 | h1
  · rw [List.getElem?_append_left h1] at hi
    obtain ⟨x, y, a, b, s1, s2⟩ := h.tx i e' hi
    exact ⟨x, y, by rw [List.getElem?_append_left (by omega)]; exact a, by rw [List.getElem?_append_left (by omega)]; exact b, nx s1, nx s2⟩
  · rw [List.getElem?_append_right h1] at hi
    have hi0 : i = l.length := by have := (List.getElem?_eq_some_iff.1 hi).1; simp at this; omega
    subst hi0
    simp at hi
    subst hi
    refine ⟨u, v, ?_, ?_, nx hu, nx hv⟩
    · rw [List.getElem?_append_right (by omega), show 2 * l.length - us.length = 0 by omega]; rfl
    · rw [List.getElem?_append_right (by omega), show 2 * l.length + 1 - us.length = 1 by omega]; rfl
theorem Eo.ents {A : Option Addr} {n c : Nat} (h : Eo X w base (.slice A n c) us l) (hn : n = l.length) (hX : ∀ b, X b → b < base) : Ents w (Off X) A n l := by
  subst hn
  exact ⟨Lib.hid rfl, us, (Rd.of_own h.own).weak (fun b hb hx => by have h1 := hX b hx; have h2 : base ≤ b := hb; omega), fun i e he => let ⟨u, v, a, b, s1, s2⟩ := h.tx i e he; ⟨u, v, a, b, s1.weak (fun b hb => hb.1), s2.weak (fun b hb => hb.1)⟩⟩
end
noncomputable def p8C : Code := codeOr (Try.f50.body.bind (regionAt 8))
set_option maxRecDepth 100000 in
set_option maxHeartbeats 4000000 in
theorem p8_app {X : Nat → Prop} (base q : Nat) (out : Value) (us : List Value) (l : List Ent) (e : Ent) (kA vA : Option Addr) (kn kc vn vc : Nat) (w : World) {u0 u1 u2 u4 u6 u7 u8 u9 u10 u11 u12 u13 u14 u15 u16 u17 u18 u19 u20 u21 u22 u23 u24 u25 u26 u27 u28 u29 u30 u31 u32 u33 u34 u35 u36 u37 u38 u39 u40 u41 u42 u43 u44 u45 u46 u47 u48 : Value} (Q : Exit → Act → World → Prop)
    (HE : Hid (Eo X w base out us l)) (hl : l.length ≤ 1152921504606) (hbase : base ≤ w.heap.size) (c1 : w.cell? ⟨q, 0, none⟩ = some (.slice kA kn kc)) (c2 : w.cell? ⟨q, 1, none⟩ = some (.slice vA vn vc))
    (HK : Hid (SB w (Un X base) (.slice kA kn kc) e.1)) (HV : Hid (SB w (Un X base) (.slice vA vn vc) e.2))
    (hexit : ∀ (v29 v30 v31 v32 : Value) (out2 : Value) (us2 : List Value) (w' : World), Eo X w' base out2 us2 (l ++ [e]) → Below base w w' → Q .normal ⟨(u0 :: u1 :: u2 :: .pointer (some ⟨q, 0, none⟩) :: u4 :: out2 :: u6 :: u7 :: u8 :: u9 :: u10 :: u11 :: u12 :: u13 :: u14 :: u15 :: u16 :: u17 :: u18 :: u19 :: u20 :: u21 :: u22 :: u23 :: u24 :: u25 :: u26 :: u27 :: u28 :: v29 :: v30 :: v31 :: v32 :: u33 :: u34 :: u35 :: u36 :: u37 :: u38 :: u39 :: u40 :: u41 :: u42 :: u43 :: u44 :: u45 :: u46 :: u47 :: u48 :: []).toArray, []⟩ w') :
    Code.wp Try.prog p8C Q ⟨(u0 :: u1 :: u2 :: .pointer (some ⟨q, 0, none⟩) :: u4 :: out :: u6 :: u7 :: u8 :: u9 :: u10 :: u11 :: u12 :: u13 :: u14 :: u15 :: u16 :: u17 :: u18 :: u19 :: u20 :: u21 :: u22 :: u23 :: u24 :: u25 :: u26 :: u27 :: u28 :: u29 :: u30 :: u31 :: u32 :: u33 :: u34 :: u35 :: u36 :: u37 :: u38 :: u39 :: u40 :: u41 :: u42 :: u43 :: u44 :: u45 :: u46 :: u47 :: u48 :: []).toArray, []⟩ w := by
  have HEX := Lib.hid hexit
  obtain ⟨A, c2, hA, hA1, hA2⟩ := own_val HE.out.own
  subst hA
  obtain ⟨i0, hi0, iz0, iz1, iz2⟩ := info_parts entry_info
  clear hexit
  conv => arg 2; whnf
  go_wp2_with (at_builtin; go_loud (refine wpList_append_any _ rfl (.tmp 29) (.tmp 31) _ rfl base 38 i0 _ 2 48 Try.underlying27 hi0 iz0 iz1 iz2 rfl (by omega) (.slice A l.length c2) l.length us rfl (own_below HE.out.own ((Below.refl _ _).alloc (Nat.le_refl _) _)) (From w.heap.size) (some ⟨w.heap.size, 0, none⟩) 1 1 [.slice kA kn kc, .slice vA vn vc] rfl (Rd.two w (.slice kA kn kc) (.slice vA vn vc) 38) (by simp [Value.oneCell']) (by simp only [maxLen]; omega) (by omega) (by simp; omega) ?_); intro v6 w6 hown6 hg6 hat6; have HO6 := Lib.hid hown6; have HG6 := Lib.hid ((Chg.refl (fun b => (Value.slice A l.length c2).ownBlock = some b) _).grown hg6 (fun _ hk _ => hk)); clear hown6 hg6 hat6)
  have hb1 : Below base w (w.alloc (.cells #[.slice kA kn kc, .slice vA vn vc] 38)) := (Below.refl _ _).alloc hbase _
  have hob : ∀ g, (Value.slice A l.length c2).ownBlock = some g → base ≤ g := fun g hg => (own_lt HE.out.own g hg).1
  have hb2 : Below base w w6 := hb1.trans (HG6.out.below_of (by simp; omega) (fun b hb e => by have := hob _ e; omega))
  exact HEX.out _ _ _ _ _ _ _ (HE.out.push HO6.out hb2 HK.out HV.out) hb2
noncomputable def p13C : Code := codeOr (Try.f50.body.bind (regionAt 13))
set_option maxRecDepth 100000 in
set_option maxHeartbeats 4000000 in
theorem p13_app {X : Nat → Prop} (base q : Nat) (out : Value) (us : List Value) (l : List Ent) (e : Ent) (kA vA : Option Addr) (kn kc vn vc : Nat) (w : World) {u0 u1 u2 u4 u6 u7 u8 u9 u10 u11 u12 u13 u14 u15 u16 u17 u18 u19 u20 u21 u22 u23 u24 u25 u26 u27 u28 u29 u30 u31 u32 u33 u34 u35 u36 u37 u38 u39 u40 u41 u42 u43 u44 u45 u46 u47 u48 : Value} (Q : Exit → Act → World → Prop)
    (HE : Hid (Eo X w base out us l)) (hl : l.length ≤ 1152921504606) (hbase : base ≤ w.heap.size) (c1 : w.cell? ⟨q, 0, none⟩ = some (.slice kA kn kc)) (c2 : w.cell? ⟨q, 1, none⟩ = some (.slice vA vn vc))
    (HK : Hid (SB w (Un X base) (.slice kA kn kc) e.1)) (HV : Hid (SB w (Un X base) (.slice vA vn vc) e.2))
    (hexit : ∀ (v44 v45 v46 v47 : Value) (out2 : Value) (us2 : List Value) (w' : World), Eo X w' base out2 us2 (l ++ [e]) → Below base w w' → Q .normal ⟨(u0 :: u1 :: u2 :: .pointer (some ⟨q, 0, none⟩) :: u4 :: out2 :: u6 :: u7 :: u8 :: u9 :: u10 :: u11 :: u12 :: u13 :: u14 :: u15 :: u16 :: u17 :: u18 :: u19 :: u20 :: u21 :: u22 :: u23 :: u24 :: u25 :: u26 :: u27 :: u28 :: u29 :: u30 :: u31 :: u32 :: u33 :: u34 :: u35 :: u36 :: u37 :: u38 :: u39 :: u40 :: u41 :: u42 :: u43 :: v44 :: v45 :: v46 :: v47 :: u48 :: []).toArray, []⟩ w') :
    Code.wp Try.prog p13C Q ⟨(u0 :: u1 :: u2 :: .pointer (some ⟨q, 0, none⟩) :: u4 :: out :: u6 :: u7 :: u8 :: u9 :: u10 :: u11 :: u12 :: u13 :: u14 :: u15 :: u16 :: u17 :: u18 :: u19 :: u20 :: u21 :: u22 :: u23 :: u24 :: u25 :: u26 :: u27 :: u28 :: u29 :: u30 :: u31 :: u32 :: u33 :: u34 :: u35 :: u36 :: u37 :: u38 :: u39 :: u40 :: u41 :: u42 :: u43 :: u44 :: u45 :: u46 :: u47 :: u48 :: []).toArray, []⟩ w := by
  have HEX := Lib.hid hexit
  obtain ⟨A, c2, hA, hA1, hA2⟩ := own_val HE.out.own
  subst hA
  obtain ⟨i0, hi0, iz0, iz1, iz2⟩ := info_parts entry_info
  clear hexit
  conv => arg 2; whnf
  go_wp2_with (at_builtin; go_loud (refine wpList_append_any _ rfl (.tmp 44) (.tmp 46) _ rfl base 38 i0 _ 2 48 Try.underlying27 hi0 iz0 iz1 iz2 rfl (by omega) (.slice A l.length c2) l.length us rfl (own_below HE.out.own ((Below.refl _ _).alloc (Nat.le_refl _) _)) (From w.heap.size) (some ⟨w.heap.size, 0, none⟩) 1 1 [.slice kA kn kc, .slice vA vn vc] rfl (Rd.two w (.slice kA kn kc) (.slice vA vn vc) 38) (by simp [Value.oneCell']) (by simp only [maxLen]; omega) (by omega) (by simp; omega) ?_); intro v6 w6 hown6 hg6 hat6; have HO6 := Lib.hid hown6; have HG6 := Lib.hid ((Chg.refl (fun b => (Value.slice A l.length c2).ownBlock = some b) _).grown hg6 (fun _ hk _ => hk)); clear hown6 hg6 hat6)
  have hb1 : Below base w (w.alloc (.cells #[.slice kA kn kc, .slice vA vn vc] 38)) := (Below.refl _ _).alloc hbase _
  have hob : ∀ g, (Value.slice A l.length c2).ownBlock = some g → base ≤ g := fun g hg => (own_lt HE.out.own g hg).1
  have hb2 : Below base w w6 := hb1.trans (HG6.out.below_of (by simp; omega) (fun b hb e => by have := hob _ e; omega))
  exact HEX.out _ _ _ _ _ _ _ (HE.out.push HO6.out hb2 HK.out HV.out) hb2
noncomputable def p11C : Code := codeOr (Try.f50.body.bind (regionAt 11))
set_option maxRecDepth 100000 in
set_option maxHeartbeats 4000000 in
theorem p11_app {X : Nat → Prop} (base b o n c i : Nat) (out : Value) (us : List Value) (l : List Ent) (e : Ent) (kA vA : Option Addr) (kn kc vn vc : Nat) (w : World) {u1 u2 u3 u4 u6 u8 u9 u10 u11 u12 u13 u14 u15 u16 u17 u18 u19 u20 u21 u22 u23 u24 u25 u26 u27 u28 u29 u30 u31 u32 u33 u34 u35 u36 u37 u38 u39 u40 u41 u42 u43 u44 u45 u46 u47 u48 : Value} (Q : Exit → Act → World → Prop)
    (HE : Hid (Eo X w base out us l)) (hl : l.length ≤ 1152921504606) (hbase : base ≤ w.heap.size) (hi : i < n) (hn : n ≤ 1152921504606) (c1 : w.cell? ⟨b, o + i * 2, none⟩ = some (.slice kA kn kc)) (c2 : w.cell? ⟨b, o + i * 2 + 1, none⟩ = some (.slice vA vn vc))
    (HK : Hid (SB w (Un X base) (.slice kA kn kc) e.1)) (HV : Hid (SB w (Un X base) (.slice vA vn vc) e.2))
    (hexit : ∀ (v35 v36 v37 v38 v39 v40 v41 : Value) (out2 : Value) (us2 : List Value) (w' : World), Eo X w' base out2 us2 (l ++ [e]) → Below base w w' → Q .normal ⟨(.slice (some ⟨b, o, none⟩) n c :: u1 :: u2 :: u3 :: u4 :: out2 :: u6 :: .int .i64 i :: u8 :: u9 :: u10 :: u11 :: u12 :: u13 :: u14 :: u15 :: u16 :: u17 :: u18 :: u19 :: u20 :: u21 :: u22 :: u23 :: u24 :: u25 :: u26 :: u27 :: u28 :: u29 :: u30 :: u31 :: u32 :: u33 :: u34 :: v35 :: v36 :: v37 :: v38 :: v39 :: v40 :: v41 :: u42 :: u43 :: u44 :: u45 :: u46 :: u47 :: u48 :: []).toArray, []⟩ w') :
    Code.wp Try.prog p11C Q ⟨(.slice (some ⟨b, o, none⟩) n c :: u1 :: u2 :: u3 :: u4 :: out :: u6 :: .int .i64 i :: u8 :: u9 :: u10 :: u11 :: u12 :: u13 :: u14 :: u15 :: u16 :: u17 :: u18 :: u19 :: u20 :: u21 :: u22 :: u23 :: u24 :: u25 :: u26 :: u27 :: u28 :: u29 :: u30 :: u31 :: u32 :: u33 :: u34 :: u35 :: u36 :: u37 :: u38 :: u39 :: u40 :: u41 :: u42 :: u43 :: u44 :: u45 :: u46 :: u47 :: u48 :: []).toArray, []⟩ w := by
  have HEX := Lib.hid hexit
  obtain ⟨A, c2, hA, hA1, hA2⟩ := own_val HE.out.own
  subst hA
  obtain ⟨i0, hi0, iz0, iz1, iz2⟩ := info_parts entry_info
  clear hexit
  conv => arg 2; whnf
  go_wp2_with (at_builtin; go_loud (refine wpList_append_any _ rfl (.tmp 35) (.tmp 40) _ rfl base 38 i0 _ 2 48 Try.underlying27 hi0 iz0 iz1 iz2 rfl (by omega) (.slice A l.length c2) l.length us rfl (own_below HE.out.own ((Below.refl _ _).alloc (Nat.le_refl _) _)) (From w.heap.size) (some ⟨w.heap.size, 0, none⟩) 1 1 [.slice kA kn kc, .slice vA vn vc] rfl (Rd.two w (.slice kA kn kc) (.slice vA vn vc) 38) (by simp [Value.oneCell']) (by simp only [maxLen]; omega) (by omega) (by simp; omega) ?_); intro v6 w6 hown6 hg6 hat6; have HO6 := Lib.hid hown6; have HG6 := Lib.hid ((Chg.refl (fun b => (Value.slice A l.length c2).ownBlock = some b) _).grown hg6 (fun _ hk _ => hk)); clear hown6 hg6 hat6)
  have hb1 : Below base w (w.alloc (.cells #[.slice kA kn kc, .slice vA vn vc] 38)) := (Below.refl _ _).alloc hbase _
  have hob : ∀ g, (Value.slice A l.length c2).ownBlock = some g → base ≤ g := fun g hg => (own_lt HE.out.own g hg).1
  have hb2 : Below base w w6 := hb1.trans (HG6.out.below_of (by simp; omega) (fun b hb e => by have := hob _ e; omega))
  exact HEX.out _ _ _ _ _ _ _ _ _ _ (HE.out.push HO6.out hb2 HK.out HV.out) hb2
noncomputable def c6C : Code := codeOr (Try.f53.body.bind (regionAt 6))
set_option maxRecDepth 100000 in
set_option maxHeartbeats 4000000 in
theorem c6_app {X : Nat → Prop} (base b o n c i : Nat) (out : Value) (us : List Value) (l : List Ent) (e : Ent) (kA vA : Option Addr) (kn kc vn vc : Nat) (w : World) {u1 u2 u3 u4 u7 u8 u9 u10 u11 u12 u13 u14 u15 u16 u17 u18 u19 u20 u21 u22 u23 u24 u25 u26 u27 u28 u29 : Value} (Q : Exit → Act → World → Prop)
    (HE : Hid (Eo X w base out us l)) (hl : l.length ≤ 1152921504606) (hbase : base ≤ w.heap.size) (hi : i < n) (hn : n ≤ 1152921504606) (c1 : w.cell? ⟨b, o + i * 2, none⟩ = some (.slice kA kn kc)) (c2 : w.cell? ⟨b, o + i * 2 + 1, none⟩ = some (.slice vA vn vc))
    (HK : Hid (SB w (Un X base) (.slice kA kn kc) e.1)) (HV : Hid (SB w (Un X base) (.slice vA vn vc) e.2))
    (hexit : ∀ (v22 v23 v24 v25 v26 v27 v28 : Value) (out2 : Value) (us2 : List Value) (w' : World), Eo X w' base out2 us2 (l ++ [e]) → Below base w w' → Q .normal ⟨(.slice (some ⟨b, o, none⟩) n c :: u1 :: u2 :: u3 :: u4 :: out2 :: .int .i64 i :: u7 :: u8 :: u9 :: u10 :: u11 :: u12 :: u13 :: u14 :: u15 :: u16 :: u17 :: u18 :: u19 :: u20 :: u21 :: v22 :: v23 :: v24 :: v25 :: v26 :: v27 :: v28 :: u29 :: []).toArray, []⟩ w') :
    Code.wp Try.prog c6C Q ⟨(.slice (some ⟨b, o, none⟩) n c :: u1 :: u2 :: u3 :: u4 :: out :: .int .i64 i :: u7 :: u8 :: u9 :: u10 :: u11 :: u12 :: u13 :: u14 :: u15 :: u16 :: u17 :: u18 :: u19 :: u20 :: u21 :: u22 :: u23 :: u24 :: u25 :: u26 :: u27 :: u28 :: u29 :: []).toArray, []⟩ w := by
  have HEX := Lib.hid hexit
  obtain ⟨A, c2, hA, hA1, hA2⟩ := own_val HE.out.own
  subst hA
  obtain ⟨i0, hi0, iz0, iz1, iz2⟩ := info_parts entry_info
  clear hexit
  conv => arg 2; whnf
  go_wp2_with (at_builtin; go_loud (refine wpList_append_any _ rfl (.tmp 22) (.tmp 27) _ rfl base 38 i0 _ 2 48 Try.underlying27 hi0 iz0 iz1 iz2 rfl (by omega) (.slice A l.length c2) l.length us rfl (own_below HE.out.own ((Below.refl _ _).alloc (Nat.le_refl _) _)) (From w.heap.size) (some ⟨w.heap.size, 0, none⟩) 1 1 [.slice kA kn kc, .slice vA vn vc] rfl (Rd.two w (.slice kA kn kc) (.slice vA vn vc) 38) (by simp [Value.oneCell']) (by simp only [maxLen]; omega) (by omega) (by simp; omega) ?_); intro v6 w6 hown6 hg6 hat6; have HO6 := Lib.hid hown6; have HG6 := Lib.hid ((Chg.refl (fun b => (Value.slice A l.length c2).ownBlock = some b) _).grown hg6 (fun _ hk _ => hk)); clear hown6 hg6 hat6)
  have hb1 : Below base w (w.alloc (.cells #[.slice kA kn kc, .slice vA vn vc] 38)) := (Below.refl _ _).alloc hbase _
  have hob : ∀ g, (Value.slice A l.length c2).ownBlock = some g → base ≤ g := fun g hg => (own_lt HE.out.own g hg).1
  have hb2 : Below base w w6 := hb1.trans (HG6.out.below_of (by simp; omega) (fun b hb e => by have := hob _ e; omega))
  exact HEX.out _ _ _ _ _ _ _ _ _ _ (HE.out.push HO6.out hb2 HK.out HV.out) hb2
end Go.Proofs.Ytpbnngfiinihmaa.Sf

namespace Go.Proofs.Ytpbnngfiinihmaa.Sf
open Go.RowKit
open Go.Lib (compareBytes)
/-- the answer is a list of entries, off a set of blocks -/
def NewEntsX (X : Nat → Prop) (w : World) (l : List Ent) (e : Ending) (w' : World) : Prop := ∃ A n c, e = .returned (.slice A n c) ∧ Ents w' (Off X) A n l ∧ Below w.heap.size w w'
theorem rd_textF {w : World} {F : Nat → Prop} {A : Option Addr} {n k : Nat} {m : List Ent} (h : Ents w F A n m) (hk : k < n) : ∃ b o Ak nk ck Av nv cv key val, A = some ⟨b, o, none⟩ ∧ m[k]? = some (key, val) ∧
    w.cell? ⟨b, o + k * 2, none⟩ = some (.slice Ak nk ck) ∧ w.cell? ⟨b, o + k * 2 + 1, none⟩ = some (.slice Av nv cv) ∧ SB w F (.slice Ak nk ck) key ∧ SB w F (.slice Av nv cv) val := by
  obtain ⟨b, o, Ak, nk, ck, Av, nv, cv, key, val, e, _, hm, c1, c2, k1, k2, k3, k4, v1, v2, v3, v4⟩ := h.at_ hk
  exact ⟨b, o, Ak, nk, ck, Av, nv, cv, key, val, e, hm, c1, c2, SB.mk k1 k2 k3.out k4, SB.mk v1 v2 v3.out v4⟩
set_option maxRecDepth 100000 in
set_option maxHeartbeats 8000000 in
theorem rput_any {X : Nat → Prop} (A kA vA : Option Addr) (n c kn kc vn vc : Nat) (m : List Ent) (x : Ent) (w : World) (h : Ents w (Off X) A n m) (hu : Up m) (hs : Short 1152921504606 m) (hn : n ≤ 1152921504)
    (hk : SB w (Off X) (.slice kA kn kc) x.1) (hv : SB w (Off X) (.slice vA vn vc) x.2) (hl : x.1.length ≤ 1152921504606) (hX : ∀ b, X b → b < w.heap.size) :
    Calls Try.prog 50 #[.slice A n c, .agg #[.slice kA kn kc, .slice vA vn vc]] w (NewEntsX X w (putE m x)) := by
  have HE := Lib.hid h
  have HU := Lib.hid (putG_put m x hu)
  have HS := Lib.hid hs
  have HK := Lib.hid hk
  have HV := Lib.hid hv
  have HN := Lib.hid h.len
  have HX := Lib.hid hX
  clear h hu hs hk hv hX
  go_enter Try.func50, Try.ntmps50
  go_wp2
  go_loopg [7, 6, 5] n (fun g' iv dv v wz => ∃ (i : Nat) (d : Bool) (us : List Value) (lo : List Ent), g' = n - i ∧ i ≤ n ∧ iv = .int .i64 i ∧ dv = .bool d ∧ Eo X wz (w.heap.size + 1) v us lo ∧ lo ++ putG (m.drop i) x d = putG m x false ∧ ((d = false → lo.length ≤ i) ∧ lo.length ≤ i + 1) ∧ EntAt wz w.heap.size 0 (.slice kA kn kc) (.slice vA vn vc) ∧ Below w.heap.size w wz ∧ w.heap.size + 1 ≤ wz.heap.size)
  case atStart => exact ⟨0, false, [], [], by omega, by omega, rfl, rfl, Eo.nil _ _, by simp, ⟨by simp, by simp⟩, ⟨by simp, by simp⟩, (Below.refl _ _).alloc (Nat.le_refl _) _, by simp⟩
  case round =>
    obtain ⟨i, d, us, lo, hg, hi, rfl, rfl, hEo, hlo, ⟨hll0, hll⟩, hat, hb, hsz⟩ := hrel
    have HL0 := Lib.hid hll0
    clear hll0
    obtain ⟨z0, z1⟩ := hat
    have HG := Lib.hid hg
    have HEO := Lib.hid hEo
    have HLO := Lib.hid hlo
    have HB := Lib.hid hb
    clear hg hEo hlo hb
    by_cases hlt : i < n
    · obtain ⟨b, o, Ak, nk, ck, Av, nv, cv, key, val, rfl, hmi, c1', c2', s1, s2⟩ := rd_textF HE.out hlt
      have c1 := bkeep HB.out c1'
      have c2 := bkeep HB.out c2'
      have HST := Lib.hid (putG_step (x := x) hmi d)
      have hkl : key.length ≤ 1152921504606 := (HS.out _ (List.mem_of_getElem? hmi)).1
      have hlo2 : lo.length ≤ 1152921504606 := by omega
      have hnn : n ≤ 1152921504606 := by omega
      have T := fun {v : Value} {bs : List UInt8} (h : SB w (Off X) v bs) => ((off_sb h (Nat.le_refl _)).below HB.out).weak (G := Un X (w.heap.size + 1)) (fun b hb => ⟨hb.1, (by have := hb.2; omega)⟩)
      have HM1 := Lib.hid (T s1)
      have HM2 := Lib.hid (T s2)
      have HX1 := Lib.hid (T HK.out)
      have HX2 := Lib.hid (T HV.out)
      clear s1 s2 hmi c1' c2' T
      go_upto_region 6 with fail
      refine put_cmp _ _ b o n c w.heap.size i kA Ak kn kc nk ck x.1 key wr _ (by exact Lib.hid (fun _ _ _ _ h => h)) hlt hnn c1 z0 HX1 HM1 hl hkl ?_
      intro v15 v16 v17 v18 v19 v20 v21 v22 w1 hc1
      have y1 := hc1.cell (fun h => h) c1
      have y2 := hc1.cell (fun h => h) c2
      have y3 := hc1.cell (fun h => h) z0
      have y4 := hc1.cell (fun h => h) z1
      have HEO1 := Lib.hid (HEO.out.below hc1.below)
      have HB1 := Lib.hid (HB.out.trans (hc1.below.mono HB.out.size))
      have K1 := Lib.hid (HX1.out.below hc1.below)
      have K2 := Lib.hid (HX2.out.below hc1.below)
      have K3 := Lib.hid (HM1.out.below hc1.below)
      have K4 := Lib.hid (HM2.out.below hc1.below)
      have hsz1 : w.heap.size + 1 ≤ w1.heap.size := Nat.le_trans hsz hc1.size
      have hbw : b < w.heap.size + 1 := by
        obtain ⟨b', _, _, _, _, _, _, _, _, _, e, _, c, _⟩ := rd_textF HE.out hlt
        injection e with e; injection e with e _; subst e
        have := cell_lt c; omega
      clear hc1 c1 c2 z0 z1 HX1 HX2 HM1 HM2 HEO HB
      obtain ⟨cc, hcc⟩ : ∃ cc, cc = compareBytes key x.1 := ⟨_, rfl⟩
      rw [← hcc]
      have HCC := Lib.hid hcc
      clear hcc hkl
      by_cases h8 : 0 ≤ cc ∧ d = false
      · obtain ⟨h8, rfl⟩ := h8
        go_upto_region 8 with fail
        refine p8_app (w.heap.size + 1) w.heap.size _ us lo x kA vA kn kc vn vc w1 _ HEO1 hlo2 hsz1 y3 y4 K1 K2 ?_
        intro v29 v30 v31 v32 out2 us2 w2 he2 hb2
        have HEO2 := Lib.hid he2
        have HB2 := Lib.hid (HB1.out.trans (hb2.mono (by omega)))
        have x1 := bcell hb2 hbw y1
        have x2 := bcell hb2 hbw y2
        have x3 := bcell hb2 (by omega) y3
        have x4 := bcell hb2 (by omega) y4
        have hsz2 : w.heap.size + 1 ≤ w2.heap.size := Nat.le_trans hsz1 hb2.size
        have C2 := Chg.of_below_ (S := fun b => w.heap.size + 1 ≤ b) hb2 (fun b _ hb => hb)
        have K3' := Lib.hid (K3.out.chg C2 (fun b (h : Un X _ b) (h2 : _ ≤ b) => by have := h.2; omega))
        have K4' := Lib.hid (K4.out.chg C2 (fun b (h : Un X _ b) (h2 : _ ≤ b) => by have := h.2; omega))
        clear he2 hb2 y1 y2 y3 y4 C2
        by_cases h0 : cc = 0
        · subst h0
          go_wp2
          go_roundg (n - (i + 1))
          case measure => have := HG.out; omega
          case rel =>
            refine ⟨i + 1, true, us2, lo ++ [x], rfl, by omega, by go_num, rfl, HEO2.out, ?_, ⟨by simp, by have := HL0.out (by simp); simp; omega⟩, ⟨x3, x4⟩, HB2.out, hsz2⟩
            have h1 := HLO.out
            rw [HST.out, ← HCC.out] at h1
            simpa using h1
        · have hl2 : (lo ++ [x]).length ≤ 1152921504606 := by simp; omega
          go_upto_region 11 with fail
          refine p11_app (w.heap.size + 1) b o n c i _ us2 (lo ++ [x]) (key, val) Ak Av nk ck nv cv w2 _ HEO2 hl2 hsz2 hlt hnn x1 x2 K3' K4' ?_
          intro v35 v36 v37 v38 v39 v40 v41 out3 us3 w3 he3 hb3
          have HEO3 := Lib.hid he3
          have HB3 := Lib.hid (HB2.out.trans (hb3.mono (by omega)))
          have v3 := bcell hb3 (by omega) x3
          have v4 := bcell hb3 (by omega) x4
          have hsz3 : w.heap.size + 1 ≤ w3.heap.size := Nat.le_trans hsz2 hb3.size
          clear he3 hb3
          go_wp2
          go_roundg (n - (i + 1))
          case measure => have := HG.out; omega
          case rel =>
            refine ⟨i + 1, true, us3, lo ++ [x] ++ [(key, val)], rfl, by omega, by go_num, rfl, HEO3.out, ?_, ⟨by simp, by have := HL0.out (by simp); simp; omega⟩, ⟨v3, v4⟩, HB3.out, hsz3⟩
            have h1 := HLO.out
            rw [HST.out, ← HCC.out] at h1
            simpa [h8, h0] using h1
      · by_cases h0 : cc = 0
        · have hd : d = true := by cases d <;> simp_all
          subst h0
          subst hd
          go_wp2
          go_roundg (n - (i + 1))
          case measure => have := HG.out; omega
          case rel =>
            refine ⟨i + 1, true, us, lo, rfl, by omega, by go_num, rfl, HEO1.out, ?_, ⟨by simp, by omega⟩, ⟨y3, y4⟩, HB1.out, hsz1⟩
            have h1 := HLO.out
            rw [HST.out, ← HCC.out] at h1
            simpa using h1
        · by_cases hneg : cc < 0
          · have hneg' : ¬ 0 ≤ cc := by omega
            clear h8
            go_upto_region 11 with fail
            refine p11_app (w.heap.size + 1) b o n c i _ us lo (key, val) Ak Av nk ck nv cv w1 _ HEO1 hlo2 hsz1 hlt hnn y1 y2 K3 K4 ?_
            intro v35 v36 v37 v38 v39 v40 v41 out3 us3 w3 he3 hb3
            have HEO3 := Lib.hid he3
            have HB3 := Lib.hid (HB1.out.trans (hb3.mono (by omega)))
            have v3 := bcell hb3 (by omega) y3
            have v4 := bcell hb3 (by omega) y4
            have hsz3 : w.heap.size + 1 ≤ w3.heap.size := Nat.le_trans hsz1 hb3.size
            clear he3 hb3
            go_wp2
            go_roundg (n - (i + 1))
            case measure => have := HG.out; omega
            case rel =>
              refine ⟨i + 1, d, us3, lo ++ [(key, val)], rfl, by omega, by go_num, rfl, HEO3.out, ?_, ⟨fun hd => by have := HL0.out hd; simp; omega, by simp; omega⟩, ⟨v3, v4⟩, HB3.out, hsz3⟩
              have h1 := HLO.out
              rw [HST.out, ← HCC.out, if_neg (fun h => by have := h.1; omega), if_pos h0, decide_eq_false (by omega), Bool.or_false] at h1
              simpa using h1
          · have hpos : 0 ≤ cc := by omega
            have hd : d = true := by cases d <;> simp_all
            subst hd
            clear h8
            go_upto_region 11 with fail
            refine p11_app (w.heap.size + 1) b o n c i _ us lo (key, val) Ak Av nk ck nv cv w1 _ HEO1 hlo2 hsz1 hlt hnn y1 y2 K3 K4 ?_
            intro v35 v36 v37 v38 v39 v40 v41 out3 us3 w3 he3 hb3
            have HEO3 := Lib.hid he3
            have HB3 := Lib.hid (HB1.out.trans (hb3.mono (by omega)))
            have v3 := bcell hb3 (by omega) y3
            have v4 := bcell hb3 (by omega) y4
            have hsz3 : w.heap.size + 1 ≤ w3.heap.size := Nat.le_trans hsz1 hb3.size
            clear he3 hb3
            go_wp2
            go_roundg (n - (i + 1))
            case measure => have := HG.out; omega
            case rel =>
              refine ⟨i + 1, true, us3, lo ++ [(key, val)], rfl, by omega, by go_num, rfl, HEO3.out, ?_, ⟨by simp, by simp; omega⟩, ⟨v3, v4⟩, HB3.out, hsz3⟩
              have h1 := HLO.out
              rw [HST.out, ← HCC.out] at h1
              simpa [hpos, h0] using h1
    · have hin : i = n := by omega
      subst hin
      have HD : Hid (lo ++ (if d then [] else [x]) = putE m x) := Lib.hid (by
        have h1 := HLO.out
        have h2 := HN.out
        rw [HU.out, List.drop_of_length_le (by omega)] at h1
        exact h1)
      have T := fun {v : Value} {bs : List UInt8} (h : SB w (Off X) v bs) => ((off_sb h (Nat.le_refl _)).below HB.out).weak (G := Un X (w.heap.size + 1)) (fun b hb => ⟨hb.1, (by have := hb.2; omega)⟩)
      have HX1 := Lib.hid (T HK.out)
      have HX2 := Lib.hid (T HV.out)
      have hlo2 : lo.length ≤ 1152921504606 := by omega
      clear T
      cases d with
      | true =>
        go_wp2
        go_ret
        obtain ⟨A2, c2, e2, _, _⟩ := own_val HEO.out.own
        subst e2
        have hd : lo = putE m x := by simpa using HD.out
        rw [← hd]
        exact ⟨A2, _, c2, rfl, HEO.out.ents rfl (fun b hb => by have := HX.out b hb; omega), HB.out⟩
      | false =>
        go_upto_region 13 with fail
        refine p13_app (w.heap.size + 1) w.heap.size _ us lo x kA vA kn kc vn vc wr _ HEO hlo2 hsz z0 z1 HX1 HX2 ?_
        intro v44 v45 v46 v47 out2 us2 w2 he2 hb2
        have HEO2 := Lib.hid he2
        have HB2 := Lib.hid (HB.out.trans (hb2.mono (by omega)))
        clear he2 hb2
        go_wp2
        go_ret
        obtain ⟨A2, c2, e2, _, _⟩ := own_val HEO2.out.own
        subst e2
        have hd : lo ++ [x] = putE m x := by simpa using HD.out
        rw [← hd]
        exact ⟨A2, _, c2, rfl, HEO2.out.ents rfl (fun b hb => by have := HX.out b hb; omega), HB2.out⟩
end Go.Proofs.Ytpbnngfiinihmaa.Sf

namespace Go.Proofs.Ytpbnngfiinihmaa
open Go.RowKit
open Go.Lib (compareBytes)
theorem bel_drewN {B : Nat} {a w : World} (h : Below B a w) (n : Nat) : Below B a (w.drewN n) := ⟨h.os, h.tape, h.output, h.size, h.block⟩
theorem cutE_snoc {m : List Ent} {i : Nat} {e : Ent} (h : m[i]? = some e) (k : List UInt8) : cutE (m.take (i + 1)) k = cutE (m.take i) k ++ (if e.1 = k then [] else [e]) := by
  have : m.take (i + 1) = m.take i ++ [e] := by rw [List.take_add_one, h]; rfl
  rw [this]; unfold cutE
  rw [List.filter_append]
  by_cases h : e.1 = k <;> simp [h]
theorem hasE_snoc {m : List Ent} {i : Nat} {e : Ent} (h : m[i]? = some e) (k : List UInt8) (hn : hasE (m.take i) k = none) : hasE (m.take (i + 1)) k = if e.1 = k then some e.2 else none := by
  have : m.take (i + 1) = m.take i ++ [e] := by rw [List.take_add_one, h]; rfl
  rw [this]; unfold hasE at *
  rw [List.find?_append]
  cases hf : (m.take i).find? (fun e => decide (e.1 = k)) with
  | some x => rw [hf] at hn; cases hn
  | none => by_cases h : e.1 = k <;> simp [h]
theorem hasE_prefix {m : List Ent} {i : Nat} {k v : List UInt8} (h : hasE (m.take i) k = some v) : hasE m k = some v := by
  unfold hasE at *
  have e : m = m.take i ++ m.drop i := (List.take_append_drop i m).symm
  rw [e, List.find?_append]
  cases hf : (m.take i).find? (fun e => decide (e.1 = k)) with
  | none => rw [hf] at h; cases h
  | some x => rw [hf] at h; exact h
set_option maxRecDepth 100000 in
set_option maxHeartbeats 8000000 in
theorem rcut_any (A kA : Option Addr) (n c kn kc : Nat) (m : List Ent) (k : List UInt8) (w : World) (h : Ents w Any A n m) (hn : n ≤ 1152921504) (hk : SB w Any (.slice kA kn kc) k) :
    Calls Try.prog 53 #[.slice A n c, .slice kA kn kc] w (NewEnts w (cutE m k)) := by
  have HE := Lib.hid h
  have HK := Lib.hid hk
  have HN := Lib.hid h.len
  clear h hk
  go_enter Try.func53, Try.ntmps53
  go_wp2
  go_loopg [6, 5] n (fun g' iv v wz => ∃ (i : Nat) (us : List Value) (lo : List Ent), g' = n - i ∧ i ≤ n ∧ iv = .int .i64 i ∧ Eo wz w.heap.size v us lo ∧ lo = cutE (m.take i) k ∧ lo.length ≤ i ∧ Below w.heap.size w wz)
  case atStart => exact ⟨0, [], [], by omega, by omega, rfl, Eo.nil _ _, by simp [cutE], by simp, Below.refl _ _⟩
  case round =>
    obtain ⟨i, us, lo, hg, hi, rfl, hEo, hlo, hll, hb⟩ := hrel
    have HG := Lib.hid hg
    have HEO := Lib.hid hEo
    have HLO := Lib.hid hlo
    have HB := Lib.hid hb
    clear hg hEo hlo hb
    by_cases hlt : i < n
    · obtain ⟨b, o, Ak, nk, ck, Av, nv, cv, key, val, rfl, hmi, c1', c2', s1, s2⟩ := rd_text HE.out hlt
      have c1 := bkeep HB.out c1'
      have c2 := bkeep HB.out c2'
      have HCS := Lib.hid (cutE_snoc hmi k)
      have T := fun {v : Value} {bs : List UInt8} (h : SB w Any v bs) => ((h.under (Nat.le_refl _)).below HB.out)
      have K3 := Lib.hid (T s1)
      have K4 := Lib.hid (T s2)
      obtain ⟨a1, a2, a3, a4⟩ := (T s1).parts
      obtain ⟨b1, b2, b3, b4⟩ := (T HK.out).parts
      have q1 := fun (r : Nat) => conv_any (wr.drewN r) _ Ak nk ck key (a4.drewN r) a3
      have q2 := fun (r : Nat) => conv_any (wr.drewN r) _ kA kn kc k (b4.drewN r) b3
      have hlo2 : lo.length ≤ 1152921504606 := by omega
      have hnn : n ≤ 1152921504606 := by omega
      clear s1 s2 hmi c1' c2' T a1 a2 a3 a4 b1 b2 b3 b4
      by_cases he : key = k
      · have HEQ := Lib.hid he
        have q3 : ((sOf key).toList == (sOf k).toList) = true := by rw [sOf_eq]; simp [he]
        clear he
        go_wp2
        go_quiet (fail)
        go_wp2
        go_roundg (n - (i + 1))
        case measure => have := HG.out; omega
        case rel => exact ⟨i + 1, us, lo, rfl, by omega, by go_num, HEO.out.below (bel_drewN (Below.refl _ _) _), by rw [HCS.out, if_pos HEQ.out, List.append_nil]; exact HLO.out, by omega, bel_drewN HB.out _⟩
      · have HEQ := Lib.hid he
        have q3 : ((sOf key).toList == (sOf k).toList) = false := by rw [sOf_eq]; simp [he]
        clear he
        go_upto_region 5 with fail
        go_quiet (fail)
        obtain ⟨w1, hw1⟩ : ∃ W, W = wr.drewN nq := ⟨_, rfl⟩
        rw [← hw1]
        have hb1 : Below wr.heap.size wr w1 := by rw [hw1]; exact bel_drewN (Below.refl _ _) _
        have HEO1 := Lib.hid (HEO.out.below hb1)
        have y1 := bkeep hb1 c1
        have y2 := bkeep hb1 c2
        have M3 := Lib.hid (K3.out.below hb1)
        have M4 := Lib.hid (K4.out.below hb1)
        have HB1 := Lib.hid (HB.out.trans (hb1.mono HB.out.size))
        have hsz1 := HB1.out.size
        clear hb1 hw1 c1 c2 q1 q2
        go_upto_region 6 with fail
        refine c6_app w.heap.size b o n c i _ us lo (key, val) Ak Av nk ck nv cv w1 _ HEO1 hlo2 hsz1 hlt hnn y1 y2 M3 M4 ?_
        intro v22 v23 v24 v25 v26 v27 v28 out3 us3 w3 he3 hb3
        have HEO3 := Lib.hid he3
        have HB3 := Lib.hid (HB1.out.trans hb3)
        clear he3 hb3
        go_wp2
        go_roundg (n - (i + 1))
        case measure => have := HG.out; omega
        case rel => exact ⟨i + 1, us3, lo ++ [(key, val)], rfl, by omega, by go_num, HEO3.out, by rw [HCS.out, if_neg HEQ.out, HLO.out], by simp; omega, HB3.out⟩
    · have hin : i = n := by omega
      subst hin
      go_wp2
      go_ret
      obtain ⟨A2, c2, e2, _, _⟩ := own_val HEO.out.own
      subst e2
      have hd : lo = cutE m k := by
        have := HN.out
        rw [HLO.out, List.take_of_length_le (by omega)]
      rw [← hd]
      exact ⟨A2, _, c2, rfl, HEO.out.ents rfl, HB.out⟩
/-- the answer is what the map has at a key -/
def HasAns (w : World) (m : List Ent) (k : List UInt8) (e : Ending) (w' : World) : Prop := ∃ A n c, e = .returned (.tuple #[.slice A n c, .bool (hasE m k).isSome]) ∧ SB w' Any (.slice A n c) ((hasE m k).getD []) ∧ Below w.heap.size w w'
set_option maxRecDepth 100000 in
set_option maxHeartbeats 8000000 in
theorem rhas_any (A kA : Option Addr) (n c kn kc : Nat) (m : List Ent) (k : List UInt8) (w : World) (h : Ents w Any A n m) (hn : n ≤ 1152921504) (hk : SB w Any (.slice kA kn kc) k) :
    Calls Try.prog 40 #[.slice A n c, .slice kA kn kc] w (HasAns w m k) := by
  have HE := Lib.hid h
  have HK := Lib.hid hk
  have HN := Lib.hid h.len
  clear h hk
  go_enter Try.func40, Try.ntmps40
  go_wp2
  go_loopg [6] n (fun g' iv wz => ∃ (i : Nat), g' = n - i ∧ i ≤ n ∧ iv = .int .i64 i ∧ hasE (m.take i) k = none ∧ Below w.heap.size w wz)
  case atStart => exact ⟨0, by omega, by omega, rfl, by simp [hasE], Below.refl _ _⟩
  case round =>
    obtain ⟨i, hg, hi, rfl, hno, hb⟩ := hrel
    have HG := Lib.hid hg
    have HNO := Lib.hid hno
    have HB := Lib.hid hb
    clear hg hno hb
    by_cases hlt : i < n
    · obtain ⟨b, o, Ak, nk, ck, Av, nv, cv, key, val, rfl, hmi, c1', c2', s1, s2⟩ := rd_text HE.out hlt
      have c1 := bkeep HB.out c1'
      have c2 := bkeep HB.out c2'
      have HCS := Lib.hid (hasE_snoc hmi k HNO.out)
      have T := fun {v : Value} {bs : List UInt8} (h : SB w Any v bs) => (h.below HB.out)
      have K4 := Lib.hid (T s2)
      obtain ⟨a1, a2, a3, a4⟩ := (T s1).parts
      obtain ⟨b1, b2, b3, b4⟩ := (T HK.out).parts
      have q1 := fun (r : Nat) => conv_any (wr.drewN r) _ Ak nk ck key (a4.drewN r) a3
      have q2 := fun (r : Nat) => conv_any (wr.drewN r) _ kA kn kc k (b4.drewN r) b3
      have hnn : n ≤ 1152921504606 := by omega
      clear s1 s2 hmi c1' c2' T a1 a2 a3 a4 b1 b2 b3 b4
      by_cases he : key = k
      · have HEQ := Lib.hid he
        have q3 : ((sOf key).toList == (sOf k).toList) = true := by rw [sOf_eq]; simp [he]
        clear he
        go_wp2
        go_quiet (fail)
        go_wp2
        go_ret2
        have hh : hasE m k = some val := hasE_prefix (i := i + 1) (by rw [HCS.out, if_pos HEQ.out])
        refine ⟨Av, nv, cv, by rw [hh]; rfl, ?_, bel_drewN HB.out _⟩
        rw [hh]
        exact K4.out.below (bel_drewN (Below.refl _ _) _)
      · have HEQ := Lib.hid he
        have q3 : ((sOf key).toList == (sOf k).toList) = false := by rw [sOf_eq]; simp [he]
        clear he
        go_wp2
        go_quiet (fail)
        go_wp2
        go_roundg (n - (i + 1))
        case measure => have := HG.out; omega
        case rel => exact ⟨i + 1, rfl, by omega, by go_num, by rw [HCS.out, if_neg HEQ.out], bel_drewN HB.out _⟩
    · have hin : i = n := by omega
      subst hin
      go_wp2
      go_ret2
      have hh : hasE m k = none := by
        have := HN.out
        have h := HNO.out
        rwa [List.take_of_length_le (by omega)] at h
      exact ⟨none, 0, 0, by rw [hh]; rfl, by rw [hh]; exact SB.nil _ _, HB.out⟩
end Go.Proofs.Ytpbnngfiinihmaa

namespace Go.Proofs.Ytpbnngfiinihmaa.Sf
open Go.RowKit
open Go.Lib (compareBytes)
set_option maxRecDepth 100000 in
set_option maxHeartbeats 8000000 in
theorem rcut_any {X : Nat → Prop} (A kA : Option Addr) (n c kn kc : Nat) (m : List Ent) (k : List UInt8) (w : World) (h : Ents w (Off X) A n m) (hn : n ≤ 1152921504) (hk : SB w (Off X) (.slice kA kn kc) k) (hX : ∀ b, X b → b < w.heap.size) :
    Calls Try.prog 53 #[.slice A n c, .slice kA kn kc] w (NewEntsX X w (cutE m k)) := by
  have HE := Lib.hid h
  have HK := Lib.hid hk
  have HN := Lib.hid h.len
  have HX := Lib.hid hX
  clear h hk hX
  go_enter Try.func53, Try.ntmps53
  go_wp2
  go_loopg [6, 5] n (fun g' iv v wz => ∃ (i : Nat) (us : List Value) (lo : List Ent), g' = n - i ∧ i ≤ n ∧ iv = .int .i64 i ∧ Eo X wz w.heap.size v us lo ∧ lo = cutE (m.take i) k ∧ lo.length ≤ i ∧ Below w.heap.size w wz)
  case atStart => exact ⟨0, [], [], by omega, by omega, rfl, Eo.nil _ _, by simp [cutE], by simp, Below.refl _ _⟩
  case round =>
    obtain ⟨i, us, lo, hg, hi, rfl, hEo, hlo, hll, hb⟩ := hrel
    have HG := Lib.hid hg
    have HEO := Lib.hid hEo
    have HLO := Lib.hid hlo
    have HB := Lib.hid hb
    clear hg hEo hlo hb
    by_cases hlt : i < n
    · obtain ⟨b, o, Ak, nk, ck, Av, nv, cv, key, val, rfl, hmi, c1', c2', s1, s2⟩ := rd_textF HE.out hlt
      have c1 := bkeep HB.out c1'
      have c2 := bkeep HB.out c2'
      have HCS := Lib.hid (cutE_snoc hmi k)
      have T := fun {v : Value} {bs : List UInt8} (h : SB w (Off X) v bs) => ((off_sb h (Nat.le_refl _)).below HB.out)
      have K3 := Lib.hid (T s1)
      have K4 := Lib.hid (T s2)
      obtain ⟨a1, a2, a3, a4⟩ := (T s1).parts
      obtain ⟨b1, b2, b3, b4⟩ := (T HK.out).parts
      have q1 := fun (r : Nat) => conv_any (wr.drewN r) _ Ak nk ck key (a4.drewN r) a3
      have q2 := fun (r : Nat) => conv_any (wr.drewN r) _ kA kn kc k (b4.drewN r) b3
      have hlo2 : lo.length ≤ 1152921504606 := by omega
      have hnn : n ≤ 1152921504606 := by omega
      clear s1 s2 hmi c1' c2' T a1 a2 a3 a4 b1 b2 b3 b4
      by_cases he : key = k
      · have HEQ := Lib.hid he
        have q3 : ((sOf key).toList == (sOf k).toList) = true := by rw [sOf_eq]; simp [he]
        clear he
        go_wp2
        go_quiet (fail)
        go_wp2
        go_roundg (n - (i + 1))
        case measure => have := HG.out; omega
        case rel => exact ⟨i + 1, us, lo, rfl, by omega, by go_num, HEO.out.below (bel_drewN (Below.refl _ _) _), by rw [HCS.out, if_pos HEQ.out, List.append_nil]; exact HLO.out, by omega, bel_drewN HB.out _⟩
      · have HEQ := Lib.hid he
        have q3 : ((sOf key).toList == (sOf k).toList) = false := by rw [sOf_eq]; simp [he]
        clear he
        go_upto_region 5 with fail
        go_quiet (fail)
        obtain ⟨w1, hw1⟩ : ∃ W, W = wr.drewN nq := ⟨_, rfl⟩
        rw [← hw1]
        have hb1 : Below wr.heap.size wr w1 := by rw [hw1]; exact bel_drewN (Below.refl _ _) _
        have HEO1 := Lib.hid (HEO.out.below hb1)
        have y1 := bkeep hb1 c1
        have y2 := bkeep hb1 c2
        have M3 := Lib.hid (K3.out.below hb1)
        have M4 := Lib.hid (K4.out.below hb1)
        have HB1 := Lib.hid (HB.out.trans (hb1.mono HB.out.size))
        have hsz1 := HB1.out.size
        clear hb1 hw1 c1 c2 q1 q2
        go_upto_region 6 with fail
        refine c6_app w.heap.size b o n c i _ us lo (key, val) Ak Av nk ck nv cv w1 _ HEO1 hlo2 hsz1 hlt hnn y1 y2 M3 M4 ?_
        intro v22 v23 v24 v25 v26 v27 v28 out3 us3 w3 he3 hb3
        have HEO3 := Lib.hid he3
        have HB3 := Lib.hid (HB1.out.trans hb3)
        clear he3 hb3
        go_wp2
        go_roundg (n - (i + 1))
        case measure => have := HG.out; omega
        case rel => exact ⟨i + 1, us3, lo ++ [(key, val)], rfl, by omega, by go_num, HEO3.out, by rw [HCS.out, if_neg HEQ.out, HLO.out], by simp; omega, HB3.out⟩
    · have hin : i = n := by omega
      subst hin
      go_wp2
      go_ret
      obtain ⟨A2, c2, e2, _, _⟩ := own_val HEO.out.own
      subst e2
      have hd : lo = cutE m k := by
        have := HN.out
        rw [HLO.out, List.take_of_length_le (by omega)]
      rw [← hd]
      exact ⟨A2, _, c2, rfl, HEO.out.ents rfl HX.out, HB.out⟩
end Go.Proofs.Ytpbnngfiinihmaa.Sf
