/- WALKS: order.table.list: a table as a list in new memory that may be written. WALKS: order.Check's closure; slices.EqualFunc over entries. WALKS: order.Check, after, After. WALKS: order.Check, whole. -/
import Derived.Test.YtpbnngfiinihmaaOc19
import Derived.Test.YtpbnngfiinihmaaOc06
import Derived.Lib.ConvBytes
import Derived.Test.YtpbnngfiinihmaaOc18
import Derived.Test.YtpbnngfiinihmaaOc14
import Derived.Test.YtpbnngfiinihmaaOc03
import Derived.Test.YtpbnngfiinihmaaOc15
set_option linter.unusedVariables false
set_option linter.unusedSimpArgs false
namespace Go.Proofs.Ytpbnngfiinihmaa
open Go.RowKit Go.Maps
/-- a slice's cells may be written; they lie in F -/
def Wrt (w : World) (F : Nat → Prop) (v : Value) : Prop := ∃ A n c, v = .slice A n c ∧ (0 < n → ∃ b o, A = some ⟨b, o, none⟩ ∧ F b ∧ b < w.heap.size ∧ ∀ j, j < n → w.frozen? ⟨b, o + j, none⟩ = false)
/-- a text that may be written -/
def TS (w : World) (F : Nat → Prop) (v : Value) (bs : List UInt8) : Prop := SB w F v bs ∧ Wrt w F v
theorem frozen_chg {S : Nat → Prop} {w w' : World} (h : Chg S w w') {b o : Nat} (hb : b < w.heap.size) (hs : ¬ S b) : w'.frozen? ⟨b, o, none⟩ = w.frozen? ⟨b, o, none⟩ := by
  unfold World.frozen?; rw [h.block b hb hs]
theorem TS.next {S F G : Nat → Prop} {w w' : World} {v : Value} {bs : List UInt8} (h : TS w F v bs) (hc : Chg S w w') (hs : ∀ b, b < w.heap.size → F b → ¬ S b) (hG : ∀ b, b < w.heap.size → F b → G b) : TS w' G v bs := by
  obtain ⟨h1, A, n, c, rfl, h2⟩ := h
  refine ⟨(h1.lt.chg hc (fun b hb => hs b hb.2 hb.1)).weak (fun b hb => hG b hb.2 hb.1), A, n, c, rfl, fun hn => ?_⟩
  obtain ⟨b, o, e, hF, hl, hf⟩ := h2 hn
  exact ⟨b, o, e, hG b hl hF, Nat.lt_of_lt_of_le hl hc.size, fun j hj => by rw [frozen_chg hc hl (hs b hl hF)]; exact hf j hj⟩
theorem TS.of_new {w0 w : World} {bs : List UInt8} {e : Ending} (h : NewText w0 bs e w) : ∃ A n c, e = .returned (.slice A n c) ∧ TS w (From w0.heap.size) (.slice A n c) bs ∧ Below w0.heap.size w0 w := by
  obtain ⟨A, n, c, e1, h1, h2, h3, h4, h5⟩ := h
  refine ⟨A, n, c, e1, ⟨⟨A, n, c, rfl, h1, h2, h3.out, h4.weak (fun b hb => hb.1)⟩, A, n, c, rfl, fun hn => ?_⟩, h5⟩
  obtain ⟨b, o, eA, ⟨hF, hS⟩, hcell⟩ := h4.2 hn
  have hl : 0 < (bvs bs).length := by rw [h4.1]; omega
  have := cell_lt (hcell 0 _ (List.getElem?_eq_getElem hl))
  exact ⟨b, o, eA, hF, this, fun j _ => hS _⟩
/-- entries one behind the other, in a row of their own; their texts lie from base on, off that row, and may be written -/
structure El (w : World) (base : Nat) (out : Value) (us : List Value) (l : List Ent) : Prop where
  own : w.ownsRow base 38 2 out l.length us
  at_ : ∀ (i : Nat) (e : Ent), l[i]? = some e → ∃ u v, us[2 * i]? = some u ∧ us[2 * i + 1]? = some v ∧ TS w (fun b => base ≤ b ∧ out.ownBlock ≠ some b) u e.1 ∧ TS w (fun b => base ≤ b ∧ out.ownBlock ≠ some b) v e.2
section
variable {S : Nat → Prop} {w w' : World} {base : Nat} {out : Value} {us : List Value} {l : List Ent}
theorem El.nil (w : World) (base : Nat) : El w base (.slice none 0 0) [] [] := ⟨World.ownsRow_nil _ _ _ _, fun i e h => by simp at h⟩
theorem El.chg (h : El w base out us l) (hc : Chg S w w') (hs : ∀ b, base ≤ b → b < w.heap.size → ¬ S b) : El w' base out us l :=
  ⟨own_chg h.own hc (fun b hb => hs b (own_lt h.own b hb).1 (own_lt h.own b hb).2), fun i e he => let ⟨u, v, a, b, c, d⟩ := h.at_ i e he; ⟨u, v, a, b, c.next hc (fun x hl hx => hs x hx.1 hl) (fun _ _ h => h), d.next hc (fun x hl hx => hs x hx.1 hl) (fun _ _ h => h)⟩⟩
theorem El.below (h : El w base out us l) (hb : Below w.heap.size w w') : El w' base out us l := h.chg (S := Nil) (Chg.of_below hb) (fun _ _ _ h => h)
theorem El.push {v2 u v : Value} {e : Ent} (h : El w base out us l) (ho : w'.ownsRow base 38 2 v2 (l.length + 1) (us ++ [u, v])) (hg : w.grownBy w' out.ownBlock) (hat : v2.ownBlock = out.ownBlock ∨ v2.ownBlock = some w.heap.size)
    (hu : TS w (fun b => base ≤ b ∧ out.ownBlock ≠ some b) u e.1) (hv : TS w (fun b => base ≤ b ∧ out.ownBlock ≠ some b) v e.2) : El w' base v2 (us ++ [u, v]) (l ++ [e]) := by
  have hl : us.length = l.length * 2 := h.own.1
  have key : ∀ b, b < w.heap.size → (base ≤ b ∧ out.ownBlock ≠ some b) → (base ≤ b ∧ v2.ownBlock ≠ some b) := fun b hb hx => ⟨hx.1, fun e => by
    rcases hat with h | h
    · exact hx.2 (h ▸ e)
    · rw [h] at e; injection e with e; omega⟩
  have hcg : Chg (fun b => out.ownBlock = some b) w w' := (Chg.refl _ _).grown hg (fun _ hk _ => hk)
  have nx : ∀ {x : Value} {bs : List UInt8}, TS w (fun b => base ≤ b ∧ out.ownBlock ≠ some b) x bs → TS w' (fun b => base ≤ b ∧ v2.ownBlock ≠ some b) x bs := fun hx => hx.next hcg (fun b _ hb e => hb.2 e) key
  refine ⟨by rw [List.length_append]; exact ho, fun i e' hi => ?_⟩
  rcases Nat.lt_or_ge i l.length with h1 | h1
  · rw [List.getElem?_append_left h1] at hi
    obtain ⟨x, y, a, b, s1, s2⟩ := h.at_ i e' hi
    exact ⟨x, y, by rw [List.getElem?_append_left (by omega)]; exact a, by rw [List.getElem?_append_left (by omega)]; exact b, nx s1, nx s2⟩
  · rw [List.getElem?_append_right h1] at hi
    have hi0 : i = l.length := by have := (List.getElem?_eq_some_iff.1 hi).1; simp at this; omega
    subst hi0
    simp at hi
    subst hi
    refine ⟨u, v, ?_, ?_, nx hu, nx hv⟩
    · rw [List.getElem?_append_right (by omega), show 2 * l.length - us.length = 0 by omega]; rfl
    · rw [List.getElem?_append_right (by omega), show 2 * l.length + 1 - us.length = 1 by omega]; rfl
theorem El.mono {b2 : Nat} (h : El w base out us l) (hb : b2 ≤ base) : El w b2 out us l :=
  ⟨own_mono h.own hb, fun i e he => let ⟨u, v, a, b, c, d⟩ := h.at_ i e he; ⟨u, v, a, b, c.next (S := Nil) (Chg.refl _ _) (fun _ _ _ h => h) (fun _ _ h => ⟨Nat.le_trans hb h.1, h.2⟩), d.next (S := Nil) (Chg.refl _ _) (fun _ _ _ h => h) (fun _ _ h => ⟨Nat.le_trans hb h.1, h.2⟩)⟩⟩
theorem El.ents {A : Option Addr} {n c : Nat} (h : El w base (.slice A n c) us l) (hn : n = l.length) : Ents w (fun b => base ≤ b) A n l := by
  subst hn
  exact ⟨Lib.hid rfl, us, (Rd.of_own h.own).weak (fun _ hb => hb), fun i e he => let ⟨u, v, a, b, s1, s2⟩ := h.at_ i e he; ⟨u, v, a, b, s1.1.weak (fun _ hb => hb.1), s2.1.weak (fun _ hb => hb.1)⟩⟩
end
/-- the answer is a list in new memory that may be written -/
def NewList (w : World) (l : List Ent) (e : Ending) (w' : World) : Prop := ∃ A n c us, e = .returned (.slice A n c) ∧ n = l.length ∧ El w' w.heap.size (.slice A n c) us l ∧ Below w.heap.size w w'
/-- a text made of a string -/
theorem bytes_new (w : World) (k : List UInt8) (hk : k.length ≤ 281474976710656) : ∃ c w', (convert 9 36 (.string (sOf k))).run Try.prog w = .ok (.slice (some ⟨w.heap.size, 0, none⟩) k.length c) w' ∧ TS w' (fun b => b = w.heap.size) (.slice (some ⟨w.heap.size, 0, none⟩) k.length c) k ∧ Below w.heap.size w w' ∧ w'.heap.size = w.heap.size + 1 := by
  have hsz : (sOf k).size = k.length := by simp [sOf, ByteArray.size]
  have hrun := Lib.run_convert_string_bytes (P := Try.prog) w 9 36 5 (sOf k) Try.underlying9 Try.underlying36 Try.underlying5
  rw [hsz] at hrun
  have hold : Below w.heap.size w (Lib.bytesWorld w 5 (sOf k)) := ⟨rfl, rfl, rfl, by rw [Lib.bytesWorld_size]; omega, fun j hj => Lib.bytesWorld_at_old w _ _ j hj⟩
  have hg : k.length ≤ (Lib.bytesCells w 5 (sOf k)).size := by
    unfold Lib.bytesCells
    simp [sOf]
  refine ⟨_, _, hrun, ⟨⟨_, _, _, rfl, grownCap_ge _ _ _ _, grownCap_le_maxLen _ _ _ _ (by simp only [maxLen]; omega), rfl, by rw [bvs_len, Nat.mul_one], fun hn => ⟨_, 0, rfl, rfl, fun j u hu => ?_⟩⟩, _, _, _, rfl, fun hn => ⟨_, 0, rfl, rfl, by rw [Lib.bytesWorld_size]; omega, fun j hj => ?_⟩⟩, hold, Lib.bytesWorld_size _ _ _⟩
  · obtain ⟨b, hb, rfl⟩ := bvs_at hu
    have hj : j < k.length := (List.getElem?_eq_some_iff.1 hb).1
    rw [Nat.zero_add, Lib.bytesWorld_cell w _ _ j (by rw [hsz]; exact hj)]
    unfold bv
    have : (sOf k).data.toList = k := by simp [sOf]
    rw [this, List.getD_eq_getElem?_getD, hb]; rfl
  · unfold World.frozen?
    rw [Lib.bytesWorld_at_new]
    simp
    omega
noncomputable def lsC : Code := codeOr (Try.f25.body.bind (regionAt 5))
set_option maxRecDepth 100000 in
set_option maxHeartbeats 4000000 in
theorem list_round (base b n : Nat) (F : Nat → Prop) (m : List Ent) (key val : List UInt8) (out : Value) (us : List Value) (lo : List Ent) (w : World) {u1 u2 u4 u6 u7 u8 u9 u10 u11 u12 u13 u14 u15 u16 u17 u18 u19 u20 u21 u22 u23 u24 u25 : Value} (Q : Exit → Act → World → Prop)
    (HT : Hid (TabM w b n F m)) (hkv : hasE m key = some val) (hk : key.length ≤ 1048576) (hv : val.length ≤ 1152921504606) (HE : Hid (El w base out us lo)) (hlo : lo.length ≤ 1152921504) (hbase : base ≤ w.heap.size) (hb : b < base)
    (hexit : ∀ (v14 v15 v16 v17 v18 v19 v20 v21 v22 v23 : Value) (out2 : Value) (us2 : List Value) (w' : World), El w' base out2 us2 (lo ++ [(key, val)]) → Below base w w' → Q .normal ⟨(.map (some b) :: u1 :: u2 :: out2 :: u4 :: .string (sOf key) :: u6 :: u7 :: u8 :: u9 :: u10 :: u11 :: u12 :: u13 :: v14 :: v15 :: v16 :: v17 :: v18 :: v19 :: v20 :: v21 :: v22 :: v23 :: u24 :: u25 :: []).toArray, []⟩ w') :
    Code.wp Try.prog lsC Q ⟨(.map (some b) :: u1 :: u2 :: out :: u4 :: .string (sOf key) :: u6 :: u7 :: u8 :: u9 :: u10 :: u11 :: u12 :: u13 :: u14 :: u15 :: u16 :: u17 :: u18 :: u19 :: u20 :: u21 :: u22 :: u23 :: u24 :: u25 :: []).toArray, []⟩ w := by
  have HEX := Lib.hid hexit
  obtain ⟨A, c2, hA, hA1, hA2⟩ := own_val HE.out.own
  subst hA
  obtain ⟨i0, hi0, iz0, iz1, iz2⟩ := info_parts entry_info
  obtain ⟨kc, w1, hconv, hts, hb1, hs1⟩ := bytes_new w key (by omega)
  have HTS := Lib.hid hts
  have HB1 := Lib.hid hb1
  have HS1 := Lib.hid hs1
  obtain ⟨vA, vn, vc, _, hlk, hsb⟩ := (HT.out.below hb1).look (k := key) (by simp only [maxLen]; omega)
  rw [hkv] at hsb
  obtain ⟨p1, p2, p3, p4⟩ := hsb.parts
  have HP3 := Lib.hid p3
  have HP4 := Lib.hid p4
  have hvn : vn ≤ 1152921504606 := by have h3 := p3; simp only [Option.getD_some] at h3; omega
  have hll : lo.length ≤ 1152921504606 := by omega
  clear hexit hts hb1 hs1 hsb p3 p4
  conv => arg 2; whnf
  go_wp2_with (first | (go_at_call 49; go_loud (refine (clone_any vA vn vc F val w1 HP4.out HP3.out hvn).mono ?_); intro e w2 hnt; obtain ⟨nA, nn, nc, rfl, hts2, hb2⟩ := TS.of_new hnt; have HT2 := Lib.hid hts2; have HB2 := Lib.hid hb2; clear hnt hts2 hb2) | (at_builtin; go_loud (refine wpList_append_any _ rfl (.tmp 14) (.tmp 22) _ rfl base 38 i0 _ 2 48 Try.underlying27 hi0 iz0 iz1 iz2 rfl (by omega) (.slice A lo.length c2) lo.length us rfl (own_below (own_below (own_below HE.out.own HB1.out) (HB2.out.mono (Nat.le_refl _))) ((Below.refl _ _).alloc (Nat.le_refl _) _)) (From w2.heap.size) (some ⟨w2.heap.size, 0, none⟩) 1 1 [.slice (some ⟨w.heap.size, 0, none⟩) key.length kc, .slice nA nn nc] rfl (Rd.two w2 _ _ 38) (by simp [Value.oneCell']) (by simp only [maxLen]; omega) (by omega) (by have h1 := HB1.out.size; have h2 := HB2.out.size; simp; omega) ?_); intro v6 w6 hown6 hg6 hat6; have HO6 := Lib.hid hown6; have HG6 := Lib.hid hg6; have HA6 := Lib.hid hat6; clear hown6 hg6 hat6))
  have h1 := HB1.out.size
  have h2 := HB2.out.size
  have hs1 := HS1.out
  have hob : ∀ g, (Value.slice A lo.length c2).ownBlock = some g → base ≤ g ∧ g < w.heap.size := fun g hg => own_lt HE.out.own g hg
  have hba : Below w2.heap.size w2 (w2.alloc (.cells #[.slice (some ⟨w.heap.size, 0, none⟩) key.length kc, .slice nA nn nc] 38)) := (Below.refl _ _).alloc (Nat.le_refl _) _
  have E3 := ((HE.out.below HB1.out).below HB2.out).below hba
  have T1 : TS (w2.alloc (.cells #[.slice (some ⟨w.heap.size, 0, none⟩) key.length kc, .slice nA nn nc] 38)) (fun g => base ≤ g ∧ (Value.slice A lo.length c2).ownBlock ≠ some g) (.slice (some ⟨w.heap.size, 0, none⟩) key.length kc) key :=
    (HTS.out.next (S := Nil) (G := fun g => g = w.heap.size) (Chg.of_below (HB2.out.trans (hba.mono h2))) (fun _ _ _ h => h) (fun _ _ h => h)).next (S := Nil) (Chg.refl _ _) (fun _ _ _ h => h) (fun g _ hg => by
      refine ⟨by omega, fun e => ?_⟩
      have := (hob g e).2
      omega)
  have T2 : TS (w2.alloc (.cells #[.slice (some ⟨w.heap.size, 0, none⟩) key.length kc, .slice nA nn nc] 38)) (fun g => base ≤ g ∧ (Value.slice A lo.length c2).ownBlock ≠ some g) (.slice nA nn nc) val :=
    HT2.out.next (S := Nil) (Chg.of_below hba) (fun _ _ _ h => h) (fun g _ hg => by
      have hg : w1.heap.size ≤ g := hg
      refine ⟨by omega, fun e => ?_⟩
      have := (hob g e).2
      omega)
  have E6 := E3.push (e := (key, val)) HO6.out HG6.out HA6.out T1 T2
  have hall : Below base w w6 := ((HB1.out.mono hbase).trans ((HB2.out.mono (by omega)).trans (hba.mono (by omega)))).trans (((Chg.refl (fun g => (Value.slice A lo.length c2).ownBlock = some g) _).grown HG6.out (fun _ hk _ => hk)).below_of (by simp; omega) (fun g hg e => by have := (hob g e).1; omega))
  exact HEX.out _ _ _ _ _ _ _ _ _ _ _ _ _ E6 hall
theorem Up.at_ {m : List Ent} (h : Up m) {i : Nat} {e : Ent} (he : m[i]? = some e) : hasE m e.1 = some e.2 := h.has (List.mem_of_getElem? he)
set_option maxRecDepth 100000 in
set_option maxHeartbeats 4000000 in
theorem list_any (b n : Nat) (F : Nat → Prop) (m : List Ent) (w : World) (hT : TabM w b n F m) (hu : Up m) (hs : Short 1048576 m) (hn : n ≤ 1152921504) (hml : m.length ≤ 1152921504) :
    Calls Try.prog 25 #[.map (some b)] w (NewList w m) := by
  have HT := Lib.hid hT
  have HU := Lib.hid hu
  have HS := Lib.hid hs
  have hblt := hT.lt
  obtain ⟨D, hD, hI, hc, hd⟩ := hT
  have HD := Lib.hid hD
  have HC := Lib.hid hc
  have hsz := hD.size_le
  clear hu hs hI hc hd hD
  go_enter Try.func25, Try.ntmps25
  go_upto_region 3 with (first | (go_at_call 48; refine (keys_call _ _).mono ?_; rintro e w' ⟨rfl, rfl⟩) | (go_at_call 47; go_loud (refine (sorted_call b n D rawE w HD.out (by simp only [maxLen]; omega) (by omega)).mono ?_); rintro e w2 ⟨v, ss, rfl, hS, hrow, _, hb2⟩; obtain ⟨sA, sc, hv, hv1, hv2⟩ := own_val hrow; subst hv; have HS2 := Lib.hid hS; have HRW := Lib.hid hrow; have HB2 := Lib.hid ((((Below.refl w.heap.size w).alloc (Nat.le_refl _) (.cells #[.map (some b)] 53))).trans (hb2.mono (by simp))); clear hS hrow hb2))
  obtain ⟨hk1, hk2⟩ := TabM.keys (F := F) HU.out HD.out HC.out HS2.out
  have HROW : Hid (Rd w2 (fun _ => True) 1 sA m.length (m.map (fun e => .string (sOf e.1)))) := Lib.hid (by
    have h1 := HRW.out
    rw [hk1, hk2, List.map_map] at h1
    exact (Rd.of_own h1).weak (fun _ _ => trivial))
  obtain ⟨sn, hsn⟩ : ∃ sn, sn = ss.length := ⟨_, rfl⟩
  rw [← hsn]
  have HSN : Hid (sn = m.length) := Lib.hid (hsn.trans hk2)
  rw [← HSN.out] at HROW
  have hsn2 : sn ≤ 1152921504 := by rw [HSN.out]; exact hml
  have hb0 : w.heap.size ≤ w2.heap.size := HB2.out.size
  clear hk1 hk2 hsn hsz
  go_loopg [10, 3] sn (fun g' iv v wz => ∃ (k : Nat) (us : List Value), g' = sn - k ∧ k ≤ sn ∧ iv = .int .i64 k ∧ El wz w2.heap.size v us (m.take k) ∧ Below w.heap.size w wz ∧ Below w2.heap.size w2 wz)
  case atStart => exact ⟨0, [], by omega, by omega, rfl, El.nil _ _, HB2.out, Below.refl _ _⟩
  case round =>
    obtain ⟨k, us, hg, hk, rfl, hel, hb, hb2⟩ := hrel
    have HG := Lib.hid hg
    have HEL := Lib.hid hel
    have HB := Lib.hid hb
    have HB3 := Lib.hid hb2
    clear hg hel hb hb2
    by_cases hlt : k < sn
    · have hlt' : (k : Int) < (sn : Int) := by omega
      have hkm : k < m.length := by rw [← HSN.out]; exact hlt
      obtain ⟨g, o, u, rfl, _, hu, zc⟩ := (HROW.out.below HB3.out).at_ hlt
      obtain ⟨⟨key, val⟩, hm⟩ : ∃ e, m[k]? = some e := ⟨_, List.getElem?_eq_getElem hkm⟩
      rw [List.getElem?_map, hm] at hu
      injection hu with hu
      simp only at hu
      subst hu
      have HM := Lib.hid hm
      obtain ⟨s1, s2⟩ := HS.out _ (List.mem_of_getElem? hm)
      have hlk := HU.out.at_ hm
      have htl : (m.take k).length ≤ 1152921504 := by rw [List.length_take]; omega
      clear hm
      go_upto_region 5 with fail
      refine list_round w2.heap.size b n F m key val _ us (m.take k) wr _ (Lib.hid (HT.out.below HB.out)) hlk s1 (by simp only at s2; omega) HEL htl HB3.out.size (by omega) ?_
      intro v14 v15 v16 v17 v18 v19 v20 v21 v22 v23 out2 us2 w4 he4 hb4
      have HE4 := Lib.hid he4
      have HB4 := Lib.hid (HB.out.trans (hb4.mono hb0))
      have HB5 := Lib.hid (HB3.out.trans hb4)
      clear he4 hb4
      go_wp2
      go_roundg (sn - (k + 1))
      case measure => have := HG.out; omega
      case rel =>
        have e : m.take (k + 1) = m.take k ++ [(key, val)] := by rw [List.take_add_one, HM.out]; rfl
        exact ⟨k + 1, us2, rfl, by omega, by go_num, by rw [e]; exact HE4.out, HB4.out, HB5.out⟩
    · have hkn : k = sn := by omega
      subst hkn
      go_wp2
      go_ret
      obtain ⟨A2, c2, e2, _, _⟩ := own_val HEL.out.own
      subst e2
      have e : m.take k = m := List.take_of_length_le (by have := HSN.out; omega)
      have h1 := HEL.out
      refine ⟨A2, _, c2, us, rfl, by rw [e], ?_, HB.out⟩
      have h2 := h1.mono hb0
      rw [e] at h2 ⊢
      exact h2
end Go.Proofs.Ytpbnngfiinihmaa

namespace Go.Proofs.Ytpbnngfiinihmaa
open Go.RowKit
set_option maxRecDepth 100000 in
set_option maxHeartbeats 4000000 in
theorem checkC_any (A1 A2 B1 B2 : Option Addr) (n1 c1 n2 c2 m1 d1 m2 d2 : Nat) (k1 v1 k2 v2 : List UInt8) (w : World) (h1 : SB w Any (.slice A1 n1 c1) k1) (h2 : SB w Any (.slice A2 n2 c2) v1) (h3 : SB w Any (.slice B1 m1 d1) k2) (h4 : SB w Any (.slice B2 m2 d2) v2) :
    Calls Try.prog 26 #[.agg #[.slice A1 n1 c1, .slice A2 n2 c2], .agg #[.slice B1 m1 d1, .slice B2 m2 d2]] w fun e w' => (∃ rb : Bool, e = .returned (.bool rb) ∧ (rb = true ↔ (k1 = k2 ∧ v1 = v2))) ∧ Below w.heap.size w w' := by
  have H1 := Lib.hid h1
  have H2 := Lib.hid h2
  have H3 := Lib.hid h3
  have H4 := Lib.hid h4
  clear h1 h2 h3 h4
  obtain ⟨kb, hkb⟩ : ∃ kb, kb = decide (k1 = k2) := ⟨_, rfl⟩
  obtain ⟨vb, hvb⟩ : ∃ vb, vb = decide (v1 = v2) := ⟨_, rfl⟩
  have HKB := Lib.hid hkb
  have HVB := Lib.hid hvb
  clear hkb hvb
  go_enter Try.func26, Try.ntmps26
  go_upto_region 1 with fail
  obtain ⟨w1, hw1⟩ : ∃ W, W = (w.alloc (.cells #[.slice A1 n1 c1, .slice A2 n2 c2] 38)).alloc (.cells #[.slice B1 m1 d1, .slice B2 m2 d2] 38) := ⟨_, rfl⟩
  rw [← hw1]
  have HB : Hid (Below w.heap.size w w1) := Lib.hid (by rw [hw1]; exact ((Below.refl _ _).alloc (Nat.le_refl _) _).alloc (by simp) _)
  have K1 : Hid (Blk w1 w.heap.size 38 #[.slice A1 n1 c1, .slice A2 n2 c2]) := Lib.hid (by rw [hw1]; exact (Blk.new _ _ _).alloc _)
  have K2 : Hid (Blk w1 (w.heap.size + 1) 38 #[.slice B1 m1 d1, .slice B2 m2 d2]) := Lib.hid (by rw [hw1]; have := Blk.new (w.alloc (.cells #[.slice A1 n1 c1, .slice A2 n2 c2] 38)) 38 #[.slice B1 m1 d1, .slice B2 m2 d2]; simpa using this)
  have P1 := Lib.hid ((H1.out.below HB.out).parts)
  have P2 := Lib.hid ((H2.out.below HB.out).parts)
  have P3 := Lib.hid ((H3.out.below HB.out).parts)
  have P4 := Lib.hid ((H4.out.below HB.out).parts)
  clear hw1
  have z0 : w1.cell? ⟨w.heap.size, 0, none⟩ = some (.slice A1 n1 c1) := K1.out.cell 0
  have z1 : w1.cell? ⟨w.heap.size, 1, none⟩ = some (.slice A2 n2 c2) := K1.out.cell 1
  have y0 : w1.cell? ⟨w.heap.size + 1, 0, none⟩ = some (.slice B1 m1 d1) := K2.out.cell 0
  have y1 : w1.cell? ⟨w.heap.size + 1, 1, none⟩ = some (.slice B2 m2 d2) := K2.out.cell 1
  cases kb with
  | false =>
    go_wp2_with (go_at_call 27; first | (refine (equal_any Any Any A1 B1 n1 c1 m1 d1 k1 k2 w1 P1.out.2.2.2 P1.out.2.2.1 P3.out.2.2.2 P3.out.2.2.1).mono ?_; rintro e w2 ⟨rfl, rfl⟩; rw [← HKB.out]) | (refine (equal_any Any Any A2 B2 n2 c2 m2 d2 v1 v2 w1 P2.out.2.2.2 P2.out.2.2.1 P4.out.2.2.2 P4.out.2.2.1).mono ?_; rintro e w2 ⟨rfl, rfl⟩; rw [← HVB.out]))
    go_ret
    exact ⟨⟨false, rfl, fun h => (by cases h), fun h => absurd h.1 (of_decide_eq_false HKB.out.symm)⟩, HB.out⟩
  | true =>
    go_wp2_with (go_at_call 27; first | (refine (equal_any Any Any A1 B1 n1 c1 m1 d1 k1 k2 w1 P1.out.2.2.2 P1.out.2.2.1 P3.out.2.2.2 P3.out.2.2.1).mono ?_; rintro e w2 ⟨rfl, rfl⟩; rw [← HKB.out]) | (refine (equal_any Any Any A2 B2 n2 c2 m2 d2 v1 v2 w1 P2.out.2.2.2 P2.out.2.2.1 P4.out.2.2.2 P4.out.2.2.1).mono ?_; rintro e w2 ⟨rfl, rfl⟩; rw [← HVB.out]))
    go_ret
    refine ⟨⟨vb, rfl, ?_⟩, HB.out⟩
    rw [HVB.out]
    simp [of_decide_eq_true HKB.out.symm]
set_option maxRecDepth 100000 in
set_option maxHeartbeats 8000000 in
theorem equalF_any (A B : Option Addr) (n m c d : Nat) (l r : List Ent) (w : World) (h : Ents w Any A n l) (k : Ents w Any B m r) (hn : n ≤ 1152921504) (hm : m ≤ 1152921504) :
    Calls Try.prog 24 #[.slice A n c, .slice B m d, .func (.func 26) #[] #[]] w fun e w' => e = .returned (.bool (decide (l = r))) ∧ Below w.heap.size w w' := by
  have HH := Lib.hid h
  have HK := Lib.hid k
  have H1 := Lib.hid h.len
  have H2 := Lib.hid k.len
  clear h k
  by_cases hnm : n = m
  · subst hnm
    go_enter Try.func24, Try.ntmps24
    go_wp2
    go_loopg [17] n (fun g' iv wz => ∃ (i : Nat), g' = n - i ∧ i ≤ n ∧ iv = .int .i64 i ∧ l.take i = r.take i ∧ Below w.heap.size w wz)
    case atStart => exact ⟨0, by omega, by omega, rfl, by simp, Below.refl _ _⟩
    case round =>
      obtain ⟨i, hg, hi, rfl, heq, hb⟩ := hrel
      have HG := Lib.hid hg
      have HEQ := Lib.hid heq
      have HB := Lib.hid hb
      clear hg heq hb
      by_cases hlt : i < n
      · have hlt' : (i : Int) < (n : Int) := by omega
        obtain ⟨b, o, A1, n1, c1, A2, n2, c2, k1, v1, rfl, hl, z1, z2, s1, s2⟩ := rd_text (HH.out.below HB.out) hlt
        obtain ⟨b', o', A3, n3, c3, A4, n4, c4, k2, v2, rfl, hr, z3, z4, s3, s4⟩ := rd_text (HK.out.below HB.out) hlt
        have HL := Lib.hid hl
        have HR := Lib.hid hr
        clear hl hr
        have HS := Lib.hid (And.intro s1 (And.intro s2 (And.intro s3 s4)))
        clear s1 s2 s3 s4
        go_upto_region 6 with fail
        obtain ⟨w1, hw1⟩ : ∃ W, W = wr.alloc (.cells #[.slice A1 n1 c1, .slice A2 n2 c2] 38) := ⟨_, rfl⟩
        rw [← hw1]
        have hb1 : Below wr.heap.size wr w1 := by rw [hw1]; exact (Below.refl _ _).alloc (Nat.le_refl _) _
        have K1 : Hid (Blk w1 wr.heap.size 38 #[.slice A1 n1 c1, .slice A2 n2 c2]) := Lib.hid (by rw [hw1]; exact Blk.new _ _ _)
        have HB1 := Lib.hid hb1
        have x3 := bkeep hb1 z3
        have x4 := bkeep hb1 z4
        clear hw1 hb1 z1 z2 z3 z4
        go_upto_region 7 with fail
        obtain ⟨w2, hw2⟩ : ∃ W, W = w1.alloc (.cells #[.slice A3 n3 c3, .slice A4 n4 c4] 38) := ⟨_, rfl⟩
        rw [← hw2]
        have hb2 : Below w1.heap.size w1 w2 := by rw [hw2]; exact (Below.refl _ _).alloc (Nat.le_refl _) _
        have K2 : Hid (Blk w2 w1.heap.size 38 #[.slice A3 n3 c3, .slice A4 n4 c4]) := Lib.hid (by rw [hw2]; exact Blk.new _ _ _)
        have K1' := Lib.hid (K1.out.below hb2)
        have HBB := Lib.hid (HB1.out.trans (hb2.mono HB1.out.size))
        have y0 : w2.cell? ⟨wr.heap.size, 0, none⟩ = some (.slice A1 n1 c1) := K1'.out.cell 0
        have y1 : w2.cell? ⟨wr.heap.size, 1, none⟩ = some (.slice A2 n2 c2) := K1'.out.cell 1
        have y2 : w2.cell? ⟨w1.heap.size, 0, none⟩ = some (.slice A3 n3 c3) := K2.out.cell 0
        have y3 : w2.cell? ⟨w1.heap.size, 1, none⟩ = some (.slice A4 n4 c4) := K2.out.cell 1
        have HB9 := Lib.hid (HB.out.trans (HBB.out.mono HB.out.size))
        clear hw2 hb2 x3 x4
        by_cases he : k1 = k2 ∧ v1 = v2
        · have HE := Lib.hid he
          clear he
          go_wp2_with (go_at_call 26; go_loud (refine (checkC_any A1 A2 A3 A4 n1 c1 n2 c2 n3 c3 n4 c4 k1 v1 k2 v2 w2 (HS.out.1.below HBB.out) (HS.out.2.1.below HBB.out) (HS.out.2.2.1.below HBB.out) (HS.out.2.2.2.below HBB.out)).mono ?_); rintro e w3 ⟨⟨rb, rfl, hrb⟩, hb3⟩; have hrt : rb = true := hrb.2 HE.out; subst hrt; have HB10 := Lib.hid (HB9.out.trans (hb3.mono HB9.out.size)); clear hrb hb3)
          go_roundg (n - (i + 1))
          case measure => have := HG.out; omega
          case rel => exact ⟨i + 1, rfl, by omega, by go_num, by rw [List.take_add_one, List.take_add_one, HL.out, HR.out, HEQ.out, HE.out.1, HE.out.2], HB10.out⟩
        · have HE := Lib.hid he
          clear he
          go_wp2_with (go_at_call 26; go_loud (refine (checkC_any A1 A2 A3 A4 n1 c1 n2 c2 n3 c3 n4 c4 k1 v1 k2 v2 w2 (HS.out.1.below HBB.out) (HS.out.2.1.below HBB.out) (HS.out.2.2.1.below HBB.out) (HS.out.2.2.2.below HBB.out)).mono ?_); rintro e w3 ⟨⟨rb, rfl, hrb⟩, hb3⟩; have hrt : rb = false := (by cases rb with | false => rfl | true => exact absurd (hrb.1 rfl) HE.out); subst hrt; have HB10 := Lib.hid (HB9.out.trans (hb3.mono HB9.out.size)); clear hrb hb3)
          go_ret
          refine ⟨ret_bool ⟨fun h => (by simp at h), fun h => ?_⟩, HB10.out⟩
          subst h
          have := HL.out.symm.trans HR.out
          injection this with this; injection this with h1 h2
          exact (HE.out ⟨h1, h2⟩).elim
      · have hin : i = n := by omega
        subst hin
        go_wp2
        go_ret
        refine ⟨ret_bool ⟨fun _ => ?_, fun _ => rfl⟩, HB.out⟩
        have h1 := HEQ.out
        rwa [List.take_of_length_le (by have := H1.out; omega), List.take_of_length_le (by have := H2.out; omega)] at h1
  · have hne : ((n : Int) == (m : Int)) = false := by rw [beq_eq_false_iff_ne]; omega
    have HNE := Lib.hid hnm
    clear hnm
    go_enter Try.func24, Try.ntmps24
    go_wp2
    go_ret
    refine ⟨ret_bool ⟨fun h => (by simp at h), fun h => ?_⟩, Below.refl _ _⟩
    subst h
    exact (HNE.out (by have := H1.out; have := H2.out; omega)).elim
end Go.Proofs.Ytpbnngfiinihmaa

namespace Go.Proofs.Ytpbnngfiinihmaa
open Go.RowKit
noncomputable def endC : Code := codeOr (Try.f10.body.bind (regionAt 16))
set_option maxRecDepth 100000 in
set_option maxHeartbeats 4000000 in
theorem chk_end (F : Nat → Prop) (q b n : Nat) (eA : Option Addr) (en ec : Nat) (m endl : List Ent) (w : World) {u0 u2 u3 u4 u6 u7 u8 u9 u10 u11 u12 u13 u14 u15 u16 u17 u18 u19 u20 u21 u22 u23 u24 u25 u26 u27 u28 u29 u30 u31 u32 u33 u34 u35 u36 u37 u38 u39 u40 u41 u42 u43 u44 u45 u46 u47 u48 u49 u50 u51 u52 u53 u54 u55 u56 u57 u58 u59 u60 u61 u62 u63 u64 u65 u66 u67 u68 u69 u70 u71 : Value} (Q : Exit → Act → World → Prop) (HQP : Hid (∀ c t (a : Act) w, Q (.panic c) ⟨t, a.defers⟩ w → Q (.panic c) a w))
    (hq : w.cell? ⟨q, 4, none⟩ = some (.slice eA en ec)) (HT : Hid (TabM w b n F m)) (HU : Hid (Up m)) (HS : Hid (Short 1048576 m)) (hn : n ≤ 1152921504) (hml : m.length ≤ 1152921504) (HE : Hid (Ents w Any eA en endl)) (hen : en ≤ 1152921504)
    (hexit : ∀ (v56 v57 v58 v59 v60 : Value) (rb : Bool) (w' : World), rb = decide (endl = m) → Below w.heap.size w w' → Q .normal ⟨(u0 :: .pointer (some ⟨q, 0, none⟩) :: u2 :: u3 :: u4 :: .map (some b) :: u6 :: u7 :: u8 :: .bool rb :: u10 :: u11 :: u12 :: u13 :: u14 :: u15 :: u16 :: u17 :: u18 :: u19 :: u20 :: u21 :: u22 :: u23 :: u24 :: u25 :: u26 :: u27 :: u28 :: u29 :: u30 :: u31 :: u32 :: u33 :: u34 :: u35 :: u36 :: u37 :: u38 :: u39 :: u40 :: u41 :: u42 :: u43 :: u44 :: u45 :: u46 :: u47 :: u48 :: u49 :: u50 :: u51 :: u52 :: u53 :: u54 :: u55 :: v56 :: v57 :: v58 :: v59 :: v60 :: u61 :: u62 :: u63 :: u64 :: u65 :: u66 :: u67 :: u68 :: u69 :: u70 :: u71 :: []).toArray, []⟩ w') :
    Code.wp Try.prog endC Q ⟨(u0 :: .pointer (some ⟨q, 0, none⟩) :: u2 :: u3 :: u4 :: .map (some b) :: u6 :: u7 :: u8 :: u9 :: u10 :: u11 :: u12 :: u13 :: u14 :: u15 :: u16 :: u17 :: u18 :: u19 :: u20 :: u21 :: u22 :: u23 :: u24 :: u25 :: u26 :: u27 :: u28 :: u29 :: u30 :: u31 :: u32 :: u33 :: u34 :: u35 :: u36 :: u37 :: u38 :: u39 :: u40 :: u41 :: u42 :: u43 :: u44 :: u45 :: u46 :: u47 :: u48 :: u49 :: u50 :: u51 :: u52 :: u53 :: u54 :: u55 :: u56 :: u57 :: u58 :: u59 :: u60 :: u61 :: u62 :: u63 :: u64 :: u65 :: u66 :: u67 :: u68 :: u69 :: u70 :: u71 :: []).toArray, []⟩ w := by
  have HEX := Lib.hid hexit
  have S0 : w.drew.cell? ⟨q, 4, none⟩ = some (.slice eA en ec) := hq
  have HML := Lib.hid hml
  have hd : Below w.heap.size w w.drew := (Below.refl _ _).drew
  have HT1 := Lib.hid (HT.out.below hd)
  have HE1 := Lib.hid (HE.out.below hd)
  clear hexit hq hd hml
  conv => arg 2; whnf
  refine wp_region_V (fun w' => w'.cell? ⟨q, 4, none⟩ = some (.slice eA en ec)) (by kernel_rfl) ?_
  refine wpV_take (i := 0) (v := ?_) rfl (by kernel_rfl) (by kernel_rfl) (by kernel_rfl) (by first | exact fun _ _ _ h => h | exact fun c a w h => HQP.out c _ a w h) S0 (Or.inl ⟨by kernel_rfl, ?_⟩) ?_
  rotate_left
  · intro w hSw
    go_simp
    try with_reducible rfl
  try simp only [Act.put, List.setIfInBounds_toArray, List.set_cons_zero, List.set_cons_succ]
  refine wpV_take (i := 2) (v := ?_) rfl (by kernel_rfl) (by kernel_rfl) (by kernel_rfl) (by first | exact fun _ _ _ h => h | exact fun c a w h => HQP.out c _ a w h) S0 (Or.inl ⟨by kernel_rfl, ?_⟩) ?_
  rotate_left
  · intro w hSw
    go_simp
    try with_reducible rfl
  try simp only [Act.put, List.setIfInBounds_toArray, List.set_cons_zero, List.set_cons_succ]
  refine wpV_take (i := 1) (v := ?_) rfl (by kernel_rfl) (by kernel_rfl) (by kernel_rfl) (by first | exact fun _ _ _ h => h | exact fun c a w h => HQP.out c _ a w h) S0 (Or.inl ⟨by kernel_rfl, ?_⟩) ?_
  rotate_left
  · intro w hSw
    obtain s0 := hSw
    go_simp
    try with_reducible rfl
  try simp only [Act.put, List.setIfInBounds_toArray, List.set_cons_zero, List.set_cons_succ]
  refine wpV_one (i := 3) (by kernel_rfl) rfl (fun K hK => ?_)
  go_simp
  go_loud (refine (list_any b n F m _ HT1.out HU.out HS.out hn HML.out).mono ?_); rintro e w2 ⟨lA, ln, lc, us, rfl, hln, hel, hb2⟩; have HL2 := Lib.hid hln; have HEL := Lib.hid hel; have HB2 : Hid (Below w.heap.size w.drew w2) := Lib.hid hb2; have S1 := bkeep HB2.out S0; clear hln hel hb2
  refine hK.out _ _ S1 ?_
  clear hK K
  try simp only [Act.put, List.setIfInBounds_toArray, List.set_cons_zero, List.set_cons_succ]
  refine wpV_one (i := 4) (by kernel_rfl) rfl (fun K hK => ?_)
  go_simp
  go_loud (refine (equalF_any eA lA en ln ec lc endl m w2 (HE1.out.below HB2.out) ((HEL.out.ents HL2.out).weak (fun _ _ => trivial)) hen (by rw [HL2.out]; exact HML.out)).mono ?_); rintro e w3 ⟨rfl, hb3⟩; have HB3 := Lib.hid hb3; have S2 := bkeep HB3.out S1; clear hb3
  refine hK.out _ _ S2 ?_
  clear hK K
  try simp only [Act.put, List.setIfInBounds_toArray, List.set_cons_zero, List.set_cons_succ]
  refine wpV_take (i := 5) (v := ?_) rfl (by kernel_rfl) (by kernel_rfl) (by kernel_rfl) (by first | exact fun _ _ _ h => h | exact fun c a w h => HQP.out c _ a w h) S2 (Or.inl ⟨by kernel_rfl, ?_⟩) ?_
  rotate_left
  · intro w hSw
    go_simp
    try with_reducible rfl
  try simp only [Act.put, List.setIfInBounds_toArray, List.set_cons_zero, List.set_cons_succ]
  refine wpV_done (by kernel_rfl) ?_ _
  go_simp
  exact HEX.out _ _ _ _ _ _ _ rfl (((Below.refl w.heap.size w).drew.trans HB2.out).trans (HB3.out.mono HB2.out.size))
end Go.Proofs.Ytpbnngfiinihmaa

namespace Go.Proofs.Ytpbnngfiinihmaa
open Go.RowKit
theorem CallW.weakS {w : World} {F : Nat → Prop} {B : Nat} {c : CallD} {x : CallX} (h : CallW w F c x) (hB : ∀ b, F b → b < B) : CallW w (Under B) c x := h.weak (fun b hb => hB b hb)
set_option maxRecDepth 100000 in
set_option maxHeartbeats 8000000 in
theorem check_any (sA cA eA hA : Option Addr) (sn sc cn cc en ec hn hc : Nat) (st : Int) (dn : Bool) (start endl : List Ent) (l : List CallD) (w : World) (hS : Ents w Any sA sn start) (hL : CallsM w Any cA cn l) (hE : Ents w Any eA en endl)
    (h1 : sn ≤ 1048576) (h2 : cn ≤ 1048576) (h3 : en ≤ 1048576) (hcc : cn ≤ cc) (hsh : Short 1048576 start) (hks : ∀ c ∈ l, c.key.length ≤ 1048576) :
    Calls Try.prog 10 #[.agg #[.slice sA sn sc, .slice cA cn cc, .int .i64 st, .bool dn, .slice eA en ec, .slice hA hn hc]] w (ChkAns start l endl hn w) := by
  have HS := Lib.hid hS
  have HL := Lib.hid hL
  have HLL := Lib.hid hL.lt
  have HE := Lib.hid hE
  have HSH := Lib.hid hsh
  have HKS := Lib.hid hks
  have HN := Lib.hid hL.len
  obtain ⟨R, hR⟩ : ∃ R, R = ChkAns start l endl hn w := ⟨_, rfl⟩
  have HR := Lib.hid hR
  rw [← hR]
  clear hS hL hE hsh hR hks
  go_enter Try.func10, Try.ntmps10
  go_upto_region 1 with fail
  obtain ⟨w1, hw1⟩ : ∃ W, W = w.alloc (.cells #[.slice sA sn sc, .slice cA cn cc, .int .i64 st, .bool dn, .slice eA en ec, .slice hA hn hc] 29) := ⟨_, rfl⟩
  rw [← hw1]
  have HB : Hid (Below w.heap.size w w1) := Lib.hid (by rw [hw1]; exact (Below.refl _ _).alloc (Nat.le_refl _) _)
  have HK : Hid (Blk w1 w.heap.size 29 #[.slice sA sn sc, .slice cA cn cc, .int .i64 st, .bool dn, .slice eA en ec, .slice hA hn hc]) := Lib.hid (by rw [hw1]; exact Blk.new _ _ _)
  have hs1 : w.heap.size < w1.heap.size := by rw [hw1]; simp
  have x1 : w1.cell? ⟨w.heap.size, 1, none⟩ = some (.slice cA cn cc) := HK.out.cell 1
  clear hw1
  go_wp2
  go_loopg [13] cn (fun g' iv wz => ∃ i : Nat, g' = cn - i ∧ i ≤ cn ∧ iv = .int .i64 i ∧ (∀ j, j < i → ∀ d, l[j]? = some d → pointE l j d) ∧ Below w1.heap.size w1 wz)
  case atStart => exact ⟨0, by omega, by omega, rfl, fun j hj => absurd hj (by omega), Below.refl _ _⟩
  case round =>
    obtain ⟨i, hg, hi, rfl, hno, hb⟩ := hrel
    have HG := Lib.hid hg
    have HNO := Lib.hid hno
    have HB1 := Lib.hid hb
    have HB2 := Lib.hid (HB.out.trans (hb.mono HB.out.size))
    have y1 : wr.cell? ⟨w.heap.size, 1, none⟩ = some (.slice cA cn cc) := (HK.out.below hb).cell 1
    clear hg hno hb x1
    by_cases hlt : i < cn
    · have hil : i < l.length := by have := HN.out; omega
      obtain ⟨c, hc⟩ : ∃ c, l[i]? = some c := ⟨_, List.getElem?_eq_getElem hil⟩
      have HC := Lib.hid hc
      obtain ⟨rb, hrb⟩ : ∃ rb, rb = decide (pointE l i c) := ⟨_, rfl⟩
      have HRB := Lib.hid hrb
      clear hc hrb hil
      cases rb with
      | true =>
        go_wp2_with (go_at_call 20; go_loud (refine (stands_any cA cn cc i l c wr (HL.out.below HB2.out) h2 hcc hlt HC.out).mono ?_); rintro e w2 ⟨rfl, hb2⟩; rw [← HRB.out]; have HB3 := Lib.hid hb2; clear hb2)
        go_roundg (cn - (i + 1))
        case measure => have := HG.out; omega
        case rel =>
          refine ⟨i + 1, rfl, by omega, by go_num, fun j hj d hd => ?_, HB1.out.trans (HB3.out.mono HB1.out.size)⟩
          rcases Nat.lt_or_ge j i with h | h
          · exact HNO.out j h d hd
          · have : j = i := by omega
            subst this
            rw [HC.out] at hd; injection hd with hd; subst hd
            exact of_decide_eq_true HRB.out.symm
      | false =>
        go_wp2_with (go_at_call 20; go_loud (refine (stands_any cA cn cc i l c wr (HL.out.below HB2.out) h2 hcc hlt HC.out).mono ?_); rintro e w2 ⟨rfl, hb2⟩; rw [← HRB.out]; have HB3 := Lib.hid hb2; clear hb2)
        rw [HR.out]
        have hbp := badPt_some HC.out (of_decide_eq_false HRB.out.symm) HNO.out
        refine ⟨ret_two ?_, HB2.out.trans (HB3.out.mono HB2.out.size)⟩
        unfold checkE; rw [hbp]
    · have hin : i = cn := by omega
      subst hin
      have HBP : Hid (badPt l = none) := Lib.hid (badPt_none (fun j hj d hd => HNO.out j (by have := HN.out; omega) d hd))
      have y0 : wr.cell? ⟨w.heap.size, 0, none⟩ = some (.slice sA sn sc) := (HK.out.below HB1.out).cell 0
      have HK1 := Lib.hid (HK.out.below HB1.out)
      have hsr : w.heap.size < wr.heap.size := Nat.lt_of_lt_of_le hs1 HB1.out.size
      clear hlt hi HG HNO
      go_upto_region 8 with (go_at_call 21; go_loud (refine (of_any sA sn sc start wr (HS.out.below HB2.out) h1 (fun e he => ⟨Nat.le_trans (HSH.out e he).1 (by omega), Nat.le_trans (HSH.out e he).2 (by omega)⟩)).mono ?_); rintro e w2 ⟨rfl, ht2, hb2⟩; have HT2 := Lib.hid ht2; have HB3 := Lib.hid (HB2.out.trans (hb2.mono HB2.out.size)); have HK2 := Lib.hid (HK1.out.below hb2); have hsz2 := hb2.size; clear ht2 hb2)
      obtain ⟨tb, htb⟩ : ∃ tb, tb = wr.heap.size := ⟨_, rfl⟩
      rw [← htb] at HT2 ⊢
      have htbs : w.heap.size < tb := by omega
      have htl := HT2.out.lt
      have y1' : w2.cell? ⟨w.heap.size, 1, none⟩ = some (.slice cA i cc) := HK2.out.cell 1
      clear htb
      go_upto_region 9 with (go_at_call 8; go_loud (refine (line_any Any cA i cc l w2 (HL.out.below HB3.out) h2).mono ?_); rintro e w3 ⟨lA, lm, lc, rfl, hlm, hlm2, hrd, hln, hb3⟩; have HLM := Lib.hid hlm; have HRD := Lib.hid hrd; have HLN := Lib.hid hln; have HB4 := Lib.hid (HB3.out.trans (hb3.mono HB3.out.size)); have HK3 := Lib.hid (HK2.out.below hb3); have HT3 := Lib.hid (HT2.out.below hb3); have hsz3 := hb3.size; clear hlm hrd hln hb3)
      clear y0 y1 y1'
      have hlmb : lm ≤ 1048576 := by omega
      go_loopg [30] lm (fun g' iv wz => ∃ (k n2 : Nat) (m : List Ent), g' = lm - k ∧ k ≤ lm ∧ iv = .int .i64 k ∧ TabM wz tb n2 (Under tb) m ∧ Up m ∧ Short 1048576 m ∧ n2 ≤ sn + k ∧ m.length ≤ sn + k ∧ runL l ((lineE l).drop k) m = runL l (lineE l) (mapE start) ∧ Chg (One tb) w3 wz)
      case atStart => exact ⟨0, sn, mapE start, by omega, by omega, rfl, HT3.out, mapE_up _, fun e he => HSH.out e (mapE_sub start start.length e (by rw [List.take_length]; exact he)), by omega, by have h1 := mapE_len start; have h2 := HS.out.len; omega, rfl, Chg.refl _ _⟩
      case round =>
        obtain ⟨k, n2, m, hg, hk, rfl, ht, hup, hsm, hn2, hml, hrun, hc3⟩ := hrel
        have HG := Lib.hid hg
        have HT := Lib.hid ht
        have HUP := Lib.hid hup
        have HSM := Lib.hid hsm
        have HRUN := Lib.hid hrun
        have HC3 := Lib.hid hc3
        have HB6 := Lib.hid (HB4.out.trans (hc3.below_of HB4.out.size (fun g hg e => by have e : g = tb := e; omega)))
        have HK4 := Lib.hid (HK3.out.chg hc3 (fun e => by have e : w.heap.size = tb := e; omega))
        have HLn := Lib.hid (HLL.out.below HB6.out)
        rename World => wr2
        have hsz4 : w3.heap.size ≤ wr2.heap.size := hc3.size
        have x1 : wr2.cell? ⟨w.heap.size, 1, none⟩ = some (.slice cA i cc) := HK4.out.cell 1
        clear hg ht hup hsm hrun
        by_cases hlt : k < lm
        · have hlt' : (k : Int) < (lm : Int) := by omega
          obtain ⟨g, e, u, rfl, hgF, hu, zc0⟩ := HRD.out.at_ hlt
          have hgF : w2.heap.size ≤ g := hgF
          have zc := hc3.cell (show ¬ One tb g from fun e => by have e : g = tb := e; omega) zc0
          have hkl : k < (lineE l).length := by have := HLM.out; omega
          obtain ⟨p, hp⟩ : ∃ p, (lineE l)[k]? = some p := ⟨_, List.getElem?_eq_getElem hkl⟩
          rw [pvs_at hp] at hu
          injection hu with hu
          subst hu
          have hpn : p < i := ((HLN.out.2 p).1 (List.mem_of_getElem? hp)).1
          have hpn' : (p : Int) < (i : Int) := by omega
          obtain ⟨b, o, c, x, rfl, hFb, hlp, hcw, hat⟩ := HLn.out.at_ hpn
          have HCW := Lib.hid (hcw.weakS (B := tb) (fun g hg => by have := hg.2; omega))
          have HAT := Lib.hid hat
          have HKL : Hid (c.key.length ≤ 1152921504606) := Lib.hid (by have := HKS.out c (List.mem_of_getElem? hlp); omega)
          have HST := Lib.hid (runL_step hp hlp m)
          have hbs : b < w.heap.size := hFb.2
          clear hp hlp hcw hat hkl zc0 hc3 hFb
          go_upto_region 12 with (first | (refine wpList_load_call rfl (.tmp 37) rfl rfl HAT.out ?_) | (refine wpList_store_call _ rfl (.tmp 8) (.tmp 38) rfl rfl rfl rfl ?_))
          obtain ⟨w4, hw4⟩ : ∃ W, W = wr2.alloc (.cells (callCs c x) 48) := ⟨_, rfl⟩
          rw [← hw4]
          have hb4 : Below wr2.heap.size wr2 w4 := by rw [hw4]; exact (Below.refl _ _).alloc (Nat.le_refl _) _
          have HKC : Hid (Blk w4 wr2.heap.size 48 (callCs c x)) := Lib.hid (by rw [hw4]; exact Blk.new _ _ _)
          have HAT4 := Lib.hid (CallAt.of_blk HKC.out)
          have z12 : w4.cell? ⟨wr2.heap.size, 12, none⟩ = some (.bool c.dn) := HKC.out.cell 12
          have HT4 := Lib.hid (HT.out.below hb4)
          have HCW4 := Lib.hid (HCW.out.below hb4)
          have HC4 := Lib.hid (HC3.out.then hb4)
          have HATL := Lib.hid (HAT.out.chg (S := Nil) (Chg.of_below hb4) (fun h => h))
          have y1 := bkeep hb4 x1
          have hsz5 : wr2.heap.size ≤ w4.heap.size := hb4.size
          have HB8 := Lib.hid (HB6.out.trans (hb4.mono HB6.out.size))
          clear hw4 hb4 x1 zc
          by_cases hd : c.dn = true
          · rw [hd] at z12
            obtain ⟨rb, hrb⟩ : ∃ rb, rb = decide (answerE m c) := ⟨_, rfl⟩
            have HRB := Lib.hid hrb
            have HD := Lib.hid hd
            clear hrb hd
            cases rb with
            | false =>
              go_wp2_with (first | (refine wpList_load_callw (by kernel_rfl) (.tmp 8) rfl rfl HAT4.out ?_) | (go_at_call 22; go_loud (refine (right_any (Under tb) tb n2 m c x w4 HCW4.out HT4.out HKL.out (fun g (hg : g < tb) => by omega)).mono ?_); rintro e5 w5 ⟨rfl, hb5⟩; rw [← HRB.out]; have HB10 := Lib.hid hb5; clear hb5))
              rw [HR.out]
              refine ⟨ret_two ?_, HB8.out.trans (HB10.out.mono HB8.out.size)⟩
              have h1 := HRUN.out
              rw [HST.out, if_pos ⟨HD.out, of_decide_eq_false HRB.out.symm⟩] at h1
              unfold checkE; rw [HBP.out, ← h1]
            | true =>
              go_upto_region 14 with (first | (refine wpList_load_callw (by kernel_rfl) (.tmp 8) rfl rfl HAT4.out ?_) | (go_at_call 22; go_loud (refine (right_any (Under tb) tb n2 m c x w4 HCW4.out HT4.out HKL.out (fun g (hg : g < tb) => by omega)).mono ?_); rintro e5 w5 ⟨rfl, hb5⟩; rw [← HRB.out]; have HB10 := Lib.hid hb5; clear hb5))
              have HT5 := Lib.hid (HT4.out.below HB10.out)
              have HCW5 := Lib.hid (HCW4.out.below HB10.out)
              have HC5 := Lib.hid (HC4.out.then HB10.out)
              have HATL := Lib.hid (HATL.out.chg (S := Nil) (Chg.of_below HB10.out) (fun h => h))
              have y1 := bkeep HB10.out y1
              have hsz6 : w4.heap.size ≤ w5.heap.size := HB10.out.size
              go_wp2_with (first | (refine wpList_load_call rfl (.tmp 52) rfl rfl HATL.out ?_) | (go_at_call 23; go_loud (refine (does_any (Under tb) tb n2 m c x w5 HCW5.out HT5.out (by omega) (fun g (hg : g < tb) => by omega)).mono ?_); rintro e6 w6 ⟨rfl, ht6, hc6⟩; have HT6 := Lib.hid ht6; have HC6 := Lib.hid (HC5.out.trans hc6 (fun _ _ h => h)); clear ht6 hc6))
              go_roundg (lm - (k + 1))
              case measure => have := HG.out; omega
              case rel =>
                refine ⟨k + 1, n2 + 1, doesE m c, rfl, by omega, by go_num, HT6.out, doesE_up HUP.out c, doesE_short HSM.out c (by omega), by omega, by have := doesE_len m c; omega, ?_, HC6.out⟩
                have h1 := HRUN.out
                rw [HST.out, if_neg (fun h => h.2 (of_decide_eq_true HRB.out.symm))] at h1
                exact h1
          · have hd' : c.dn = false := by simpa using hd
            rw [hd'] at z12
            have HD := Lib.hid hd
            clear hd hd'
            go_wp2_with (first | (refine wpList_load_call rfl (.tmp 52) rfl rfl HATL.out ?_) | (go_at_call 23; go_loud (refine (does_any (Under tb) tb n2 m c x w4 HCW4.out HT4.out (by omega) (fun g (hg : g < tb) => by omega)).mono ?_); rintro e6 w6 ⟨rfl, ht6, hc6⟩; have HT6 := Lib.hid ht6; have HC6 := Lib.hid (HC4.out.trans hc6 (fun _ _ h => h)); clear ht6 hc6))
            go_roundg (lm - (k + 1))
            case measure => have := HG.out; omega
            case rel =>
              refine ⟨k + 1, n2 + 1, doesE m c, rfl, by omega, by go_num, HT6.out, doesE_up HUP.out c, doesE_short HSM.out c (by omega), by omega, by have := doesE_len m c; omega, ?_, HC6.out⟩
              have h1 := HRUN.out
              rw [HST.out, if_neg (fun h => HD.out h.1)] at h1
              exact h1
        · have hkm : k = lm := by omega
          subst hkm
          have HRE : Hid (runL l (lineE l) (mapE start) = .inr m) := Lib.hid (by
            have h1 := HRUN.out
            rw [List.drop_of_length_le (by have := HLM.out; omega)] at h1
            rw [← h1]; rfl)
          have y4 : wr2.cell? ⟨w.heap.size, 4, none⟩ = some (.slice eA en ec) := HK4.out.cell 4
          have hlen : (l.length : Int) = (i : Int) := by have := HN.out; omega
          have HLEN := Lib.hid hlen
          have hn2' : n2 ≤ 1152921504 := by omega
          have hml' : m.length ≤ 1152921504 := by omega
          have hen' : en ≤ 1152921504 := by omega
          clear hlen hlt hc3
          go_upto_region 16 with fail
          refine chk_end (Under tb) w.heap.size tb n2 eA en ec m endl wr2 _ (by exact Lib.hid (fun _ _ _ _ h => h)) y4 HT HUP HSM hn2' hml' (Lib.hid (HE.out.below HB6.out)) hen' ?_
          intro v56 v57 v58 v59 v60 rb w7 hrb hb7
          have HRB := Lib.hid hrb
          have HB7 := Lib.hid (HB6.out.trans (hb7.mono HB6.out.size))
          have HK7 := Lib.hid (HK4.out.below hb7)
          have y5 : w7.cell? ⟨w.heap.size, 5, none⟩ = some (.slice hA hn hc) := HK7.out.cell 5
          have y1 : w7.cell? ⟨w.heap.size, 1, none⟩ = some (.slice cA i cc) := HK7.out.cell 1
          clear hrb hb7 y4 x1
          by_cases hh : hn = 0
          · subst hh
            cases rb with
            | true =>
              go_wp2
              rw [HR.out]
              refine ⟨ret_two ?_, HB7.out⟩
              have he := of_decide_eq_true HRB.out.symm
              unfold checkE; rw [HBP.out, HRE.out]; simp [he]
            | false =>
              go_wp2
              rw [HR.out]
              refine ⟨ret_two ?_, HB7.out⟩
              have he := of_decide_eq_false HRB.out.symm
              have hl := HLEN.out
              unfold checkE; rw [HBP.out, HRE.out]; simp [he, hl]
          · have hh' : ((hn : Int) == 0) = false := by rw [beq_eq_false_iff_ne]; omega
            have HH := Lib.hid hh
            clear hh
            go_wp2
            rw [HR.out]
            refine ⟨ret_two ?_, HB7.out⟩
            unfold checkE; rw [HBP.out, HRE.out]; simp [HH.out]
end Go.Proofs.Ytpbnngfiinihmaa
