/- WALKS: copied entries read as they did; entries are written over (document). What an owner may write over: cells of one kind, in blocks that are not frozen. No program in sight. WALKS: whoever has entries writes over them (document). WALKS: two arenas that hold the same are found the same: slot by slot. -/
import Derived.Test.YtgjphmlmndcaeaaPs19
import Derived.Test.YtgjphmlmndcaeaaPs17
import Derived.Test.YtgjphmlmndcaeaaPs01
set_option linter.unusedVariables false
set_option linter.unusedSimpArgs false
namespace Go.Proofs.Ytgjphmlmndcaeaa
open Go.RowKit

theorem sameEnt_eq (F G : Nat → Prop) (A1 A2 B1 B2 : Option Addr) (n1 c1 n2 c2 m1 d1 m2 d2 : Nat) (key val : List UInt8) (w : World)
    (h1 : Rd w F 1 A1 n1 (bvs key)) (e1 : n1 = key.length) (h2 : Rd w F 1 A2 n2 (bvs val)) (e2 : n2 = val.length) (k1 : Rd w G 1 B1 m1 (bvs key)) (f1 : m1 = key.length) (k2 : Rd w G 1 B2 m2 (bvs val)) (f2 : m2 = val.length) :
    Calls Try.prog 67 #[.agg #[.slice A1 n1 c1, .slice A2 n2 c2], .agg #[.slice B1 m1 d1, .slice B2 m2 d2]] w fun e w' => e = .returned (.bool true) ∧ Below w.heap.size w w' := by
  have b1 : Below w.heap.size w ((w.alloc (.cells #[.slice A1 n1 c1, .slice A2 n2 c2] 43)).alloc (.cells #[.slice B1 m1 d1, .slice B2 m2 d2] 43)) := ((Below.refl _ _).alloc (Nat.le_refl _) _).alloc (by simp) _
  have q1 := conv_any _ F A1 n1 c1 key (h1.below b1) e1
  have q2 := conv_any _ F A2 n2 c2 val (h2.below b1) e2
  have q3 := conv_any _ G B1 m1 d1 key (k1.below b1) f1
  have q4 := conv_any _ G B2 m2 d2 val (k2.below b1) f2
  clear h1 h2 k1 k2 e1 e2 f1 f2
  go_enter Try.func67, Try.ntmps67
  go_wp2
  go_ret
  exact ⟨rfl, b1⟩

set_option maxRecDepth 100000 in
theorem sameAll_eq (F G : Nat → Prop) (A B : Option Addr) (n c m d : Nat) (l : List Ent) (w : World) (h : Ents w F A n l) (k : Ents w G B m l) (hn2 : n ≤ 1152921504606) :
    Calls Try.prog 38 #[.slice A n c, .slice B m d] w fun e w' => e = .returned (.bool true) ∧ Below w.heap.size w w' := by
  have e1 : n = m := by rw [h.len, k.len]
  subst e1
  have HH := Lib.hid h
  have HK := Lib.hid k
  clear h k
  go_enter Try.func38, Try.ntmps38
  go_wp2
  go_loopg [5] n (fun g i wr => ∃ (k : Nat), g = n - k ∧ k ≤ n ∧ i = .int .i64 k ∧ Below w.heap.size w wr)
  case atStart => exact ⟨0, by omega, by omega, rfl, Below.refl _ _⟩
  case round =>
    obtain ⟨k, hg, hk, rfl, hbl⟩ := hrel
    have HG := Lib.hid hg
    clear hg
    by_cases hlt : k < n
    · obtain ⟨b, o, Ak, nk, ck, Av, nv, cv, key, val, rfl, hFb, hl, c1, c2, h1, h2, h3, h4, h5, h6, h7, h8⟩ := (HH.out.below hbl).at_ hlt
      obtain ⟨b', o', Bk, mk, dk, Bv, mv, dv, key', val', rfl, hGb, hl', c1', c2', k1, k2, k3, k4, k5, k6, k7, k8⟩ := (HK.out.below hbl).at_ hlt
      rw [hl] at hl'
      injection hl' with hl'
      injection hl' with ha hb
      subst ha; subst hb
      have H4 := Lib.hid h4
      have H8 := Lib.hid h8
      have K4 := Lib.hid k4
      have K8 := Lib.hid k8
      clear hl h4 h8 k4 k8
      go_wp2
      refine wp_region_V (fun w' => w'.cell? ⟨b, o + k * 2, none⟩ = some (.slice Ak nk ck) ∧ w'.cell? ⟨b, o + k * 2 + 1, none⟩ = some (.slice Av nv cv) ∧ w'.cell? ⟨b', o' + k * 2, none⟩ = some (.slice Bk mk dk) ∧ w'.cell? ⟨b', o' + k * 2 + 1, none⟩ = some (.slice Bv mv dv)) (by kernel_rfl) ?_
      have S0 : wr.drew.cell? ⟨b, o + k * 2, none⟩ = some (.slice Ak nk ck) ∧ wr.drew.cell? ⟨b, o + k * 2 + 1, none⟩ = some (.slice Av nv cv) ∧ wr.drew.cell? ⟨b', o' + k * 2, none⟩ = some (.slice Bk mk dk) ∧ wr.drew.cell? ⟨b', o' + k * 2 + 1, none⟩ = some (.slice Bv mv dv) := ⟨c1, c2, c1', c2'⟩
      clear c1 c2 c1' c2'
      refine wpV_take (i := 0) (v := ?_) rfl (by kernel_rfl) (by kernel_rfl) (by kernel_rfl) (by first | exact fun _ _ _ h => h | exact fun c a w h => HQP.out c _ a w h) S0 (Or.inl ⟨by kernel_rfl, ?_⟩) ?_
      rotate_left
      · intro w hSw
        go_simp
        try with_reducible rfl
      try simp only [Act.put, List.setIfInBounds_toArray, List.set_cons_zero, List.set_cons_succ]
      refine wpV_take (i := 1) (v := ?_) rfl (by kernel_rfl) (by kernel_rfl) (by kernel_rfl) (by first | exact fun _ _ _ h => h | exact fun c a w h => HQP.out c _ a w h) S0 (Or.inl ⟨by kernel_rfl, ?_⟩) ?_
      rotate_left
      · intro w hSw
        go_simp
        try with_reducible rfl
      try simp only [Act.put, List.setIfInBounds_toArray, List.set_cons_zero, List.set_cons_succ]
      refine wpV_take (i := 2) (v := ?_) rfl (by kernel_rfl) (by kernel_rfl) (by kernel_rfl) (by first | exact fun _ _ _ h => h | exact fun c a w h => HQP.out c _ a w h) S0 (Or.inl ⟨by kernel_rfl, ?_⟩) ?_
      rotate_left
      · intro w hSw
        go_simp
        try with_reducible rfl
      try simp only [Act.put, List.setIfInBounds_toArray, List.set_cons_zero, List.set_cons_succ]
      refine wpV_take (i := 4) (v := ?_) rfl (by kernel_rfl) (by kernel_rfl) (by kernel_rfl) (by first | exact fun _ _ _ h => h | exact fun c a w h => HQP.out c _ a w h) S0 (Or.inl ⟨by kernel_rfl, ?_⟩) ?_
      rotate_left
      · intro w hSw
        go_simp
        try with_reducible rfl
      try simp only [Act.put, List.setIfInBounds_toArray, List.set_cons_zero, List.set_cons_succ]
      refine wpV_take (i := 5) (v := ?_) rfl (by kernel_rfl) (by kernel_rfl) (by kernel_rfl) (by first | exact fun _ _ _ h => h | exact fun c a w h => HQP.out c _ a w h) S0 (Or.inl ⟨by kernel_rfl, ?_⟩) ?_
      rotate_left
      · intro w hSw
        go_simp
        try with_reducible rfl
      try simp only [Act.put, List.setIfInBounds_toArray, List.set_cons_zero, List.set_cons_succ]
      refine wpV_take (i := 6) (v := ?_) rfl (by kernel_rfl) (by kernel_rfl) (by kernel_rfl) (by first | exact fun _ _ _ h => h | exact fun c a w h => HQP.out c _ a w h) S0 (Or.inl ⟨by kernel_rfl, ?_⟩) ?_
      rotate_left
      · intro w hSw
        go_simp
        try with_reducible rfl
      try simp only [Act.put, List.setIfInBounds_toArray, List.set_cons_zero, List.set_cons_succ]
      refine wpV_take (i := 3) (v := ?_) rfl (by kernel_rfl) (by kernel_rfl) (by kernel_rfl) (by first | exact fun _ _ _ h => h | exact fun c a w h => HQP.out c _ a w h) S0 (Or.inl ⟨by kernel_rfl, ?_⟩) ?_
      rotate_left
      · intro w hSw
        obtain ⟨s1, s2, s3, s4⟩ := hSw
        go_simp
        try with_reducible rfl
      try simp only [Act.put, List.setIfInBounds_toArray, List.set_cons_zero, List.set_cons_succ]
      refine wpV_take (i := 7) (v := ?_) rfl (by kernel_rfl) (by kernel_rfl) (by kernel_rfl) (by first | exact fun _ _ _ h => h | exact fun c a w h => HQP.out c _ a w h) S0 (Or.inl ⟨by kernel_rfl, ?_⟩) ?_
      rotate_left
      · intro w hSw
        obtain ⟨s1, s2, s3, s4⟩ := hSw
        go_simp
        try with_reducible rfl
      try simp only [Act.put, List.setIfInBounds_toArray, List.set_cons_zero, List.set_cons_succ]
      refine wpV_one (i := 8) (by kernel_rfl) rfl (fun K hK => ?_)
      go_simp
      refine (sameEnt_eq F G Ak Av Bk Bv nk ck nv cv mk dk mv dv key val _ H4.out.drew h3.out H8.out.drew h7.out K4.out.drew k3.out K8.out.drew k7.out).mono ?_; rintro e w1 ⟨rfl, hb1⟩
      refine hK.out _ _ ⟨bkeep hb1 S0.1, bkeep hb1 S0.2.1, bkeep hb1 S0.2.2.1, bkeep hb1 S0.2.2.2⟩ ?_
      clear hK K
      try simp only [Act.put, List.setIfInBounds_toArray, List.set_cons_zero, List.set_cons_succ]
      refine wpV_take (i := 9) (v := ?_) rfl (by kernel_rfl) (by kernel_rfl) (by kernel_rfl) (by first | exact fun _ _ _ h => h | exact fun c a w h => HQP.out c _ a w h) ⟨bkeep hb1 S0.1, bkeep hb1 S0.2.1, bkeep hb1 S0.2.2.1, bkeep hb1 S0.2.2.2⟩ (Or.inl ⟨by kernel_rfl, ?_⟩) ?_
      rotate_left
      · intro w hSw
        go_simp
        try with_reducible rfl
      try simp only [Act.put, List.setIfInBounds_toArray, List.set_cons_zero, List.set_cons_succ]
      refine wpV_done (by kernel_rfl) ?_ _
      go_wp2
      go_roundg (n - (k + 1))
      case measure => have := HG.out; omega
      case rel => exact ⟨k + 1, rfl, by omega, by go_num, hbl.trans ((Below.refl _ _).drew.trans (hb1.mono hbl.size))⟩
    · go_wp2
      go_ret
      exact ⟨rfl, hbl⟩

section
variable {S F : Nat → Prop} {w w' : World} {B n c : Nat} {A : Option Addr} {l : List Ent}
theorem Copied.ents (h : Copied w B A n c l) : Ents w (From B) A n l := by
  obtain ⟨g, k77, xs, rfl, rfl, hn, hn2, hB, hb, hl, hm, h1, h2, h3⟩ := h
  refine ⟨hn, xs, ⟨hl, fun _ => ⟨g, 0, rfl, hB, fun j u hj => ?_⟩⟩, fun i e he => ?_⟩
  · rw [Nat.zero_add, hb.cell, List.getElem?_toArray, List.getElem?_append_left (List.getElem?_eq_some_iff.1 hj).1]; exact hj
  · have hi : i < n := by have := (List.getElem?_eq_some_iff.1 he).1; have := hn.out; omega
    obtain ⟨u, v, a, b, p, q⟩ := hm i e hi he
    exact ⟨u, v, a, b, p.sb.weak (fun b hb => hb.1), q.sb.weak (fun b hb => hb.1)⟩
theorem Copied.chg (h : Copied w B A n c l) (hc : Chg S w w') (hs : ∀ b, B ≤ b → ¬ S b) : Copied w' B A n c l := by
  obtain ⟨g, k77, xs, h0, h00, hn, hn2, hB, hb, hl, hm, h1, h2, h3⟩ := h
  exact ⟨g, k77, xs, h0, h00, hn, hn2, hB, hb.chg hc (hs _ hB), hl, hm.chg hc (fun b hb => hs b hb.1), h1, h2, h3.chg hc (hs _ h1)⟩
theorem Copied.below (h : Copied w B A n c l) (hb : Below w.heap.size w w') : Copied w' B A n c l := h.chg (S := Nil) (Chg.of_below hb) (fun _ _ hf => hf)
theorem mk_cells {v : Value} {bs : List UInt8} (h : MK w F v bs) : ∃ k, v = .slice (some ⟨k, 0, none⟩) bs.length (bs.length + 1) ∧ F k ∧ k < w.heap.size ∧ SoftAt w k ∧ bs.length + 1 ≤ maxLen ∧ w.cell? ⟨k, bs.length, none⟩ = some (.int .u8 77) ∧ ∀ j, j < bs.length + 1 → ∃ x, w.cell? ⟨k, j, none⟩ = some (.int .u8 x) := by
  obtain ⟨k, h1, h2, h3, h4⟩ := h
  refine ⟨k, h1, h2, h4.lt, h4.soft, h3, ?_, fun j hj => ?_⟩
  · rw [h4.cell, List.getElem?_toArray]; simp [bvs, bv]
  · rw [h4.cell, List.getElem?_toArray]
    have hl : j < (bvs (bs ++ [77])).length := by simp [bvs]; omega
    rw [List.getElem?_eq_getElem hl]
    obtain ⟨x, _, hx⟩ := bvs_at (List.getElem?_eq_getElem hl)
    exact ⟨x.toNat, by rw [hx]; rfl⟩
/-- one entry of a copied list -/
theorem Copied.at_ (h : Copied w B A n c l) {k : Nat} (hk : k < n) : ∃ g ku kv key val, A = some ⟨g, 0, none⟩ ∧ g < w.heap.size ∧ l[k]? = some (key, val) ∧
    w.cell? ⟨g, k * 2, none⟩ = some (.slice (some ⟨ku, 0, none⟩) key.length (key.length + 1)) ∧ w.cell? ⟨g, k * 2 + 1, none⟩ = some (.slice (some ⟨kv, 0, none⟩) val.length (val.length + 1)) ∧
    w.cell? ⟨ku, key.length, none⟩ = some (.int .u8 77) ∧ w.cell? ⟨kv, val.length, none⟩ = some (.int .u8 77) ∧ key.length + 1 ≤ 9223372036854775807 ∧ val.length + 1 ≤ 9223372036854775807 := by
  obtain ⟨g, k77, xs, rfl, rfl, hn, hn2, hB, hb, hl, hm, h1, h2, h3⟩ := h
  have hkl : k < l.length := by have := hn.out; omega
  obtain ⟨u, v, a, b, p, q⟩ := hm k _ hk (List.getElem?_eq_getElem hkl)
  obtain ⟨ku, rfl, _, _, _, mu, cu, _⟩ := mk_cells p
  obtain ⟨kv, rfl, _, _, _, mv, cv, _⟩ := mk_cells q
  refine ⟨g, ku, kv, l[k].1, l[k].2, rfl, hb.lt, List.getElem?_eq_getElem hkl, ?_, ?_, cu, cv, by simpa [maxLen] using mu, by simpa [maxLen] using mv⟩
  · rw [hb.cell, List.getElem?_toArray, Nat.mul_comm, List.getElem?_append_left (List.getElem?_eq_some_iff.1 a).1]; exact a
  · rw [hb.cell, List.getElem?_toArray, Nat.mul_comm, List.getElem?_append_left (List.getElem?_eq_some_iff.1 b).1]; exact b
end

set_option maxRecDepth 100000 in
theorem kept_any (G : Nat → Prop) (A D : Option Addr) (n c m d B : Nat) (l : List Ent) (w : World) (h : Copied w B A n c l) (k : Ents w G D m l) :
    Calls Try.prog 17 #[.slice A n c, .slice D m d] w fun e w' => e = .returned (.bool true) ∧ Below w.heap.size w w' := by
  have HH := Lib.hid h
  have HK := Lib.hid k
  obtain ⟨g, k77, xs, rfl, rfl, hn, hn2, hB, hb, hl, hm, h1, h2, h3⟩ := h
  have hlast : w.cell? ⟨g, n * 2, none⟩ = some (.slice (some ⟨k77, 0, none⟩) 1 1) := by
    rw [hb.cell, List.getElem?_toArray, List.getElem?_append_right (by omega), show n * 2 - xs.length = 0 by omega]; rfl
  clear k hm h3 hb hl hn
  go_enter Try.func17, Try.ntmps17
  go_wp2_with (go_at_call 38; refine (sameAll_eq (From B) G (some ⟨g, 0, none⟩) D n (n + 1) m d l _ HH.out.ents HK.out hn2).mono ?_; rintro e w1 ⟨rfl, hb1⟩)
  have H1 := Lib.hid (HH.out.below hb1)
  have hl1 := bkeep hb1 hlast
  go_loopg [6] n (fun g i wr => ∃ (k : Nat), g = n - k ∧ k ≤ n ∧ i = .int .i64 k ∧ wr = w1)
  case atStart => exact ⟨0, by omega, by omega, rfl, rfl⟩
  case round =>
    obtain ⟨k, hg, hk, rfl, rfl⟩ := hrel
    have HG := Lib.hid hg
    clear hg
    by_cases hlt : k < n
    · obtain ⟨g', ku, kv, key, val, hA, hgl, hkl, c1, c2, c3, c4, b1, b2⟩ := H1.out.at_ hlt
      injection hA with hA
      injection hA with hA
      subst hA
      clear hkl
      go_wp2
      go_roundg (n - (k + 1))
      case measure => have := HG.out; omega
      case rel => exact ⟨k + 1, rfl, by omega, by go_num, rfl⟩
    · go_wp2
      go_ret
      exact ⟨rfl, hb1⟩
end Go.Proofs.Ytgjphmlmndcaeaa

namespace Go.Proofs.Ytgjphmlmndcaeaa
open Go.RowKit

/-- n cells at A, each a value of P, in blocks of F that are not frozen -/
def Cells (w : World) (F : Nat → Prop) (P : Value → Prop) (A : Option Addr) (n : Nat) : Prop :=
  n ≤ maxLen ∧ ∀ j, j < n → ∃ b o v, A = some ⟨b, o, none⟩ ∧ F b ∧ b < w.heap.size ∧ SoftAt w b ∧ w.cell? ⟨b, o + j, none⟩ = some v ∧ P v
def IsU8 (v : Value) : Prop := ∃ x, v = .int .u8 x
def IsI64 (v : Value) : Prop := ∃ x, v = .int .i64 x
/-- n slices in a row at block g; each of bytes, in blocks of F -/
def Rows (w : World) (g : Nat) (F : Nat → Prop) (A : Option Addr) (n : Nat) : Prop :=
  n ≤ maxLen ∧ ∀ j, j < n → ∃ Ak nk ck, A = some ⟨g, 0, none⟩ ∧ g < w.heap.size ∧ SoftAt w g ∧ w.cell? ⟨g, j, none⟩ = some (.slice Ak nk ck) ∧ Cells w F IsU8 Ak nk

section
variable {S F G : Nat → Prop} {w w' : World} {A : Option Addr} {n c g hi : Nat} {P : Value → Prop}
theorem Cells.weak (h : Cells w F P A n) (hF : ∀ b, F b → G b) : Cells w G P A n := ⟨h.1, fun j hj => let ⟨b, o, v, e, h1, h2, h3, h4, h5⟩ := h.2 j hj; ⟨b, o, v, e, hF b h1, h2, h3, h4, h5⟩⟩
theorem Cells.lt (h : Cells w F P A n) : Cells w (fun b => F b ∧ b < w.heap.size) P A n := ⟨h.1, fun j hj => let ⟨b, o, v, e, h1, h2, h3, h4, h5⟩ := h.2 j hj; ⟨b, o, v, e, ⟨h1, h2⟩, h2, h3, h4, h5⟩⟩
theorem Cells.chg (h : Cells w F P A n) (hc : Chg S w w') (hs : ∀ b, F b → ¬ S b) : Cells w' F P A n :=
  ⟨h.1, fun j hj => let ⟨b, o, v, e, h1, h2, h3, h4, h5⟩ := h.2 j hj; ⟨b, o, v, e, h1, Nat.lt_of_lt_of_le h2 hc.size, h3.chg hc h2 (hs b h1), hc.cell (hs b h1) h4, h5⟩⟩
theorem SoftAt.set_ {b : Nat} (h : SoftAt w b) (p : Addr) (v : Value) : SoftAt (w.setCell p v) b := fun o => by rw [World.frozen?_setCell]; exact h o
/-- a value of P put anywhere leaves them so -/
theorem Cells.put (h : Cells w F P A n) (p : Addr) {v : Value} (hv : P v) : Cells (w.setCell p v) F P A n := by
  refine ⟨h.1, fun j hj => ?_⟩
  obtain ⟨b, o, u, e, h1, h2, h3, h4, h5⟩ := h.2 j hj
  by_cases hp : p = ⟨b, o + j, none⟩
  · subst hp
    exact ⟨b, o, v, e, h1, by simpa [World.setCell] using h2, h3.set_ _ _, World.cell?_setCell_same _ _ _ h4, hv⟩
  · exact ⟨b, o, u, e, h1, by simpa [World.setCell] using h2, h3.set_ _ _, by rw [World.cell?_setCell_other _ _ _ _ hp]; exact h4, h5⟩
/-- what is put into other blocks leaves them so -/
theorem Cells.far (h : Cells w F P A n) (p : Addr) (v : Value) (hp : ¬ F p.block) : Cells (w.setCell p v) F P A n :=
  h.chg (S := One p.block) ((Chg.refl (One p.block) w).setCell (p := p) (fun _ => rfl) v) (fun b hb e => by have e : b = p.block := e; subst e; exact hp hb)
theorem Cells.none_ (w : World) (F : Nat → Prop) (P : Value → Prop) (A : Option Addr) : Cells w F P A 0 := ⟨Nat.zero_le _, fun j hj => absurd hj (by omega)⟩
theorem Cells.of_bytes {bs : List UInt8} (h : Bt w (Soft F w) A n c bs) : Cells w F IsU8 A n := by
  refine ⟨Nat.le_trans h.1 h.2.1, fun j hj => ?_⟩
  obtain ⟨b, o, u, e, hF, e1, c1⟩ := h.2.2.2.at_ hj
  obtain ⟨x, _, rfl⟩ := bvs_at e1
  exact ⟨b, o, _, e, hF.1, cell_lt c1, hF.2, c1, ⟨_, rfl⟩⟩
theorem Cells.of_ints {ks : List Int} (h : It w (Soft F w) A n c ks) : Cells w F IsI64 A n := by
  refine ⟨Nat.le_trans h.1 h.2.1, fun j hj => ?_⟩
  obtain ⟨b, o, x, e, hF, e1, c1⟩ := h.at_ hj
  exact ⟨b, o, _, e, hF.1, cell_lt c1, hF.2, c1, ⟨_, rfl⟩⟩
theorem Rows.none_ (w : World) (g : Nat) (F : Nat → Prop) (A : Option Addr) : Rows w g F A 0 := ⟨Nat.zero_le _, fun j hj => absurd hj (by omega)⟩
theorem Rows.of_texts {ts : List (List UInt8)} (h : TxS w g hi A n c ts) : Rows w g (fun b => g < b ∧ b < hi) A n := by
  obtain ⟨h1, h2, h3, h4, h5, vs, h6, h7⟩ := h
  refine ⟨Nat.le_trans h1 h2, fun j hj => ?_⟩
  obtain ⟨b, o, u, e, hF, e1, c1⟩ := h6.at_ hj
  have hl : j < ts.length := by have : n = ts.length := h3; omega
  obtain ⟨v, e2, s1⟩ := h7 j ts[j] (List.getElem?_eq_getElem hl)
  rw [e1] at e2
  injection e2 with e2
  subst e2
  obtain ⟨Ak, nk, ck, rfl, k⟩ := s1
  rw [h4] at e
  injection e with e
  injection e with e1 e2
  subst e1; subst e2
  rw [Nat.zero_add] at c1
  exact ⟨Ak, nk, ck, h4, cell_lt c1, hF.2, c1, Cells.of_bytes (show Bt w (Soft (fun b => g < b ∧ b < hi) w) Ak nk ck ts[j] from k)⟩
theorem Rows.chg (h : Rows w g F A n) (hc : Chg S w w') (hg : ¬ S g) (hs : ∀ b, F b → ¬ S b) : Rows w' g F A n :=
  ⟨h.1, fun j hj => let ⟨Ak, nk, ck, e, h1, h2, h3, h4⟩ := h.2 j hj; ⟨Ak, nk, ck, e, Nat.lt_of_lt_of_le h1 hc.size, h2.chg hc h1 hg, hc.cell hg h3, h4.chg hc hs⟩⟩
theorem Rows.lt (h : Rows w g F A n) : Rows w g (fun b => F b ∧ b < w.heap.size) A n :=
  ⟨h.1, fun j hj => let ⟨Ak, nk, ck, e, h1, h2, h3, h4⟩ := h.2 j hj; ⟨Ak, nk, ck, e, h1, h2, h3, h4.lt⟩⟩
theorem Rows.weak (h : Rows w g F A n) (hF : ∀ b, F b → G b) : Rows w g G A n :=
  ⟨h.1, fun j hj => let ⟨Ak, nk, ck, e, h1, h2, h3, h4⟩ := h.2 j hj; ⟨Ak, nk, ck, e, h1, h2, h3, h4.weak hF⟩⟩
/-- a byte put into another block -/
theorem Rows.put (h : Rows w g F A n) (p : Addr) {v : Value} (hv : IsU8 v) (hp : p.block ≠ g) : Rows (w.setCell p v) g F A n := by
  refine ⟨h.1, fun j hj => ?_⟩
  obtain ⟨Ak, nk, ck, e, h1, h2, h3, h4⟩ := h.2 j hj
  exact ⟨Ak, nk, ck, e, by simpa [World.setCell] using h1, h2.set_ _ _, by rw [World.cell?_setCell_other _ _ _ _ (fun e => hp (by rw [e]))]; exact h3, h4.put p hv⟩
/-- one of them is now nil -/
theorem Rows.nil_ (h : Rows w g F A n) (z : Nat) (hg : ¬ F g) : Rows (w.setCell ⟨g, z, none⟩ (.slice none 0 0)) g F A n := by
  refine ⟨h.1, fun j hj => ?_⟩
  obtain ⟨Ak, nk, ck, e, h1, h2, h3, h4⟩ := h.2 j hj
  by_cases hz : z = j
  · subst hz
    exact ⟨none, 0, 0, e, by simpa [World.setCell] using h1, h2.set_ _ _, World.cell?_setCell_same _ _ _ h3, Cells.none_ _ _ _ _⟩
  · exact ⟨Ak, nk, ck, e, by simpa [World.setCell] using h1, h2.set_ _ _, by rw [World.cell?_setCell_other _ _ _ _ (fun e => hz (by injection e))]; exact h3, h4.far _ _ hg⟩
end
end Go.Proofs.Ytgjphmlmndcaeaa

namespace Go.Proofs.Ytgjphmlmndcaeaa
open Go.RowKit

/-- a copied list, all of it in blocks of P -/
def CopiedIn (w : World) (P : Nat → Prop) (A : Option Addr) (n c : Nat) (l : List Ent) : Prop :=
  ∃ g k77 xs, A = some ⟨g, 0, none⟩ ∧ c = n + 1 ∧ Hid (n = l.length) ∧ n ≤ 1152921504606 ∧ P g ∧ Blk w g 43 (xs ++ [.slice (some ⟨k77, 0, none⟩) 1 1, .slice none 0 0]).toArray ∧ xs.length = n * 2 ∧ Marked w (fun b => P b ∧ b ≠ g) n l xs ∧ P k77 ∧ k77 ≠ g ∧ Blk w k77 5 #[.int .u8 77]
theorem Marked.lt {w : World} {F : Nat → Prop} {k : Nat} {l : List Ent} {xs : List Value} (h : Marked w F k l xs) : Marked w (fun b => F b ∧ b < w.heap.size) k l xs := fun i e hi he => let ⟨u, v, a, b, c, d⟩ := h i e hi he; ⟨u, v, a, b, c.lt, d.lt⟩
theorem Copied.in_ {w : World} {B n c : Nat} {A : Option Addr} {l : List Ent} (h : Copied w B A n c l) : CopiedIn w (fun b => B ≤ b ∧ b < w.heap.size) A n c l := by
  obtain ⟨g, k77, xs, h0, h00, hn, hn2, hB, hb, hl, hm, h1, h2, h3⟩ := h
  exact ⟨g, k77, xs, h0, h00, hn, hn2, ⟨hB, hb.lt⟩, hb, hl, hm.lt.weak (fun b hb => ⟨⟨hb.1.1, hb.2⟩, hb.1.2⟩), ⟨h1, h3.lt⟩, h2, h3⟩
theorem CopiedIn.chg {S P : Nat → Prop} {w w' : World} {n c : Nat} {A : Option Addr} {l : List Ent} (h : CopiedIn w P A n c l) (hc : Chg S w w') (hs : ∀ b, P b → ¬ S b) : CopiedIn w' P A n c l := by
  obtain ⟨g, k77, xs, h0, h00, hn, hn2, hB, hb, hl, hm, h1, h2, h3⟩ := h
  exact ⟨g, k77, xs, h0, h00, hn, hn2, hB, hb.chg hc (hs _ hB), hl, hm.chg hc (fun b hb => hs b hb.1), h1, h2, h3.chg hc (hs _ h1)⟩
theorem CopiedIn.below {P : Nat → Prop} {w w' : World} {n c : Nat} {A : Option Addr} {l : List Ent} (h : CopiedIn w P A n c l) (hb : Below w.heap.size w w') : CopiedIn w' P A n c l := h.chg (S := Nil) (Chg.of_below hb) (fun _ _ h => h)
/-- the entries of a row at block g, from number k on: slices of bytes in blocks of F -/
def Spoils (w : World) (F : Nat → Prop) (g k n : Nat) : Prop :=
  g < w.heap.size ∧ SoftAt w g ∧ (∀ j, j < n * 2 → ∃ v, w.cell? ⟨g, j, none⟩ = some v) ∧ ∀ j, k ≤ j → j < n → ∃ Ak nk ck Av nv cv, w.cell? ⟨g, j * 2, none⟩ = some (.slice Ak nk ck) ∧ w.cell? ⟨g, j * 2 + 1, none⟩ = some (.slice Av nv cv) ∧ nk ≤ ck ∧ nv ≤ cv ∧ Cells w F IsU8 Ak ck ∧ Cells w F IsU8 Av cv
section
variable {F : Nat → Prop} {w : World} {g k n : Nat}
theorem Spoils.put (h : Spoils w F g k n) (p : Addr) {v : Value} (hv : IsU8 v) (hp : p.block ≠ g) : Spoils (w.setCell p v) F g k n := by
  obtain ⟨h1, h2, h0, h3⟩ := h
  refine ⟨by simpa [World.setCell] using h1, h2.set_ _ _, fun j hj => ?_, fun j hk hj => ?_⟩
  · obtain ⟨u, hu⟩ := h0 j hj
    exact ⟨u, by rw [World.cell?_setCell_other _ _ _ _ (fun e => hp (by rw [e]))]; exact hu⟩
  obtain ⟨Ak, nk, ck, Av, nv, cv, c1, c2, l1, l2, q1, q2⟩ := h3 j hk hj
  exact ⟨Ak, nk, ck, Av, nv, cv, by rw [World.cell?_setCell_other _ _ _ _ (fun e => hp (by rw [e]))]; exact c1, by rw [World.cell?_setCell_other _ _ _ _ (fun e => hp (by rw [e]))]; exact c2, l1, l2, q1.put p hv, q2.put p hv⟩
/-- one of them is emptied -/
theorem Spoils.clear (h : Spoils w F g k n) (hg : ¬ F g) (u v : Value) : Spoils ((w.setCell ⟨g, k * 2, none⟩ u).setCell ⟨g, k * 2 + 1, none⟩ v) F g (k + 1) n := by
  obtain ⟨h1, h2, h0, h3⟩ := h
  refine ⟨by simpa [World.setCell] using h1, (h2.set_ _ _).set_ _ _, fun j hj => ?_, fun j hk hj => ?_⟩
  · obtain ⟨x, hx⟩ := h0 j hj
    by_cases e1 : j = k * 2 + 1
    · subst e1
      exact ⟨v, World.cell?_setCell_same _ _ _ (u := x) (by rw [World.cell?_setCell_other _ _ _ _ (fun e => by injection e with e; omega)]; exact hx)⟩
    · rw [World.cell?_setCell_other _ _ _ _ (fun e => e1 (by injection e with e e'; exact e'.symm))]
      by_cases e2 : j = k * 2
      · subst e2; exact ⟨u, World.cell?_setCell_same _ _ _ hx⟩
      · exact ⟨x, by rw [World.cell?_setCell_other _ _ _ _ (fun e => e2 (by injection e with e e'; exact e'.symm))]; exact hx⟩
  obtain ⟨Ak, nk, ck, Av, nv, cv, c1, c2, l1, l2, q1, q2⟩ := h3 j (by omega) hj
  refine ⟨Ak, nk, ck, Av, nv, cv, ?_, ?_, l1, l2, (q1.far _ _ hg).far _ _ hg, (q2.far _ _ hg).far _ _ hg⟩
  · rw [World.cell?_setCell_other _ _ _ _ (fun e => by injection e with e e'; omega), World.cell?_setCell_other _ _ _ _ (fun e => by injection e with e e'; omega)]; exact c1
  · rw [World.cell?_setCell_other _ _ _ _ (fun e => by injection e with e e'; omega), World.cell?_setCell_other _ _ _ _ (fun e => by injection e with e e'; omega)]; exact c2
theorem mk_u8 {v : Value} {bs : List UInt8} (h : MK w F v bs) : ∃ A n c, v = .slice A n c ∧ n ≤ c ∧ Cells w F IsU8 A c := by
  obtain ⟨k, rfl, h1, h2, h3, h4, _, h5⟩ := mk_cells h
  exact ⟨_, _, _, rfl, by omega, h4, fun j hj => let ⟨x, hx⟩ := h5 j hj; ⟨k, 0, _, rfl, h1, h2, h3, by rw [Nat.zero_add]; exact hx, x, rfl⟩⟩
theorem CopiedIn.spoils {P : Nat → Prop} {n c : Nat} {A : Option Addr} {l : List Ent} (h : CopiedIn w P A n c l) : ∃ g, A = some ⟨g, 0, none⟩ ∧ c = n + 1 ∧ n ≤ 1152921504606 ∧ P g ∧ Spoils w (fun b => P b ∧ b ≠ g) g 0 (n + 1) := by
  obtain ⟨g, k77, xs, h0, h00, hn, hn2, hB, hb, hl, hm, h1, h2, h3⟩ := h
  refine ⟨g, h0, h00, hn2, hB, hb.lt, hb.soft, fun j hj => ?_, fun j _ hj => ?_⟩
  · rw [hb.cell, List.getElem?_toArray]
    exact ⟨_, List.getElem?_eq_getElem (by rw [List.length_append, hl]; simp; omega)⟩
  · rcases Nat.lt_or_ge j n with hjn | hjn
    · have hkl : j < l.length := by have := hn.out; omega
      obtain ⟨u, v, a, b, p, q⟩ := hm j _ hjn (List.getElem?_eq_getElem hkl)
      obtain ⟨Ak, nk, ck, rfl, l1, q1⟩ := mk_u8 p
      obtain ⟨Av, nv, cv, rfl, l2, q2⟩ := mk_u8 q
      refine ⟨Ak, nk, ck, Av, nv, cv, ?_, ?_, l1, l2, q1, q2⟩
      · rw [hb.cell, List.getElem?_toArray, Nat.mul_comm, List.getElem?_append_left (List.getElem?_eq_some_iff.1 a).1]; exact a
      · rw [hb.cell, List.getElem?_toArray, Nat.mul_comm, List.getElem?_append_left (List.getElem?_eq_some_iff.1 b).1]; exact b
    · obtain rfl : j = n := by omega
      refine ⟨_, _, _, _, _, _, ?_, ?_, Nat.le_refl 1, Nat.le_refl 0, ⟨by simp [maxLen], fun i hi => ⟨k77, 0, .int .u8 77, rfl, ⟨h1, h2⟩, h3.lt, h3.soft, ?_, _, rfl⟩⟩, Cells.none_ _ _ _ none⟩
      · rw [hb.cell, List.getElem?_toArray, List.getElem?_append_right (by omega), show j * 2 - xs.length = 0 by omega]; rfl
      · rw [hb.cell, List.getElem?_toArray, List.getElem?_append_right (by omega), show j * 2 + 1 - xs.length = 1 by omega]; rfl
      · obtain rfl : i = 0 := by omega
        rw [h3.cell]; rfl
end

/-- within one entry -/
def SpoilAt (wz w : World) (P : Nat → Prop) (g k n : Nat) (Ak Av : Option Addr) (nk ck nv cv : Nat) : Prop :=
  Spoils wz (fun b => P b ∧ b ≠ g) g k (n + 1) ∧ wz.cell? ⟨g, k * 2, none⟩ = some (.slice Ak nk ck) ∧ wz.cell? ⟨g, k * 2 + 1, none⟩ = some (.slice Av nv cv) ∧ Cells wz (fun b => P b ∧ b ≠ g) IsU8 Ak ck ∧ Cells wz (fun b => P b ∧ b ≠ g) IsU8 Av cv ∧ Chg P w wz
theorem SpoilAt.put {wz w : World} {P : Nat → Prop} {g k n nk ck nv cv : Nat} {Ak Av : Option Addr} (h : SpoilAt wz w P g k n Ak Av nk ck nv cv) (p : Addr) {v : Value} (hv : IsU8 v) (hp : p.block ≠ g) (hB : P p.block) : SpoilAt (wz.setCell p v) w P g k n Ak Av nk ck nv cv :=
  ⟨h.1.put p hv hp, by rw [World.cell?_setCell_other _ _ _ _ (fun e => hp (by rw [e]))]; exact h.2.1, by rw [World.cell?_setCell_other _ _ _ _ (fun e => hp (by rw [e]))]; exact h.2.2.1, h.2.2.2.1.put p hv, h.2.2.2.2.1.put p hv, h.2.2.2.2.2.setCell (fun _ => hB) _⟩
theorem SpoilAt.drewN {wz w : World} {P : Nat → Prop} {g k n nk ck nv cv : Nat} {Ak Av : Option Addr} (h : SpoilAt wz w P g k n Ak Av nk ck nv cv) (q : Nat) : SpoilAt (wz.drewN q) w P g k n Ak Av nk ck nv cv :=
  ⟨h.1, h.2.1, h.2.2.1, h.2.2.2.1, h.2.2.2.2.1, h.2.2.2.2.2.drewN q⟩

set_option maxRecDepth 100000 in
theorem spoil_in (P : Nat → Prop) (A : Option Addr) (n c : Nat) (l : List Ent) (w : World) (h : CopiedIn w P A n c l) :
    Calls Try.prog 18 #[.slice A n c] w fun e w' => e = .returned (.tuple #[]) ∧ Chg P w w' := by
  obtain ⟨g, rfl, rfl, hn, hB, hs⟩ := h.spoils
  clear h
  have HS := Lib.hid hs
  clear hs
  go_enter Try.func18, Try.ntmps18
  go_wp2
  go_loopg [2] (n + 1) (fun g' i wr => ∃ k : Nat, g' = n + 1 - k ∧ k ≤ n + 1 ∧ i = .int .i64 k ∧ Spoils wr (fun b => P b ∧ b ≠ g) g k (n + 1) ∧ Chg P w wr)
  case atStart => exact ⟨0, by omega, by omega, rfl, HS.out, Chg.refl _ _⟩
  case round =>
    obtain ⟨k, hg, hk, rfl, hsp, hbl⟩ := hrel
    have HG := Lib.hid hg
    have H1 := Lib.hid hsp
    clear hg
    by_cases hlt : k < n + 1
    · obtain ⟨Ak, nk, ck, Av, nv, cv, c1, c2, l1, l2, q1, q2⟩ := hsp.2.2.2 k (Nat.le_refl _) hlt
      have Q1 := Lib.hid q1
      have Q2 := Lib.hid q2
      have b1 := q1.1
      have b2 := q2.1
      simp only [maxLen] at b1 b2
      clear hsp q1 q2
      go_wp2
      go_quiet (fail)
      have R0 := Lib.hid (show SpoilAt wr w P g k n Ak Av nk ck nv cv from ⟨H1.out, c1, c2, Q1.out, Q2.out, hbl⟩)
      clear Q1 Q2 H1 hbl
      go_wp2
      clear c1 c2
      go_loopg [4] ck (fun g' i wz => ∃ y : Nat, g' = ck - y ∧ y ≤ ck ∧ i = .int .i64 y ∧ SpoilAt wz w P g k n Ak Av nk ck nv cv)
      case atStart => exact ⟨0, by omega, by omega, rfl, (R0.out.drewN _)⟩
      case round =>
        obtain ⟨y, hg2, hy, rfl, hr⟩ := hrel
        have HG2 := Lib.hid hg2
        have HR := Lib.hid hr
        clear hg2 R0
        by_cases hly : y < ck
        · obtain ⟨b, o, u, rfl, hF, _, hsf, hcell, x, rfl⟩ := hr.2.2.2.1.2 y hly
          have hf := hsf (o + y)
          clear hsf hr
          go_wp2
          go_roundg (ck - (y + 1))
          case measure => have := HG2.out; omega
          case rel => exact ⟨y + 1, rfl, by omega, by go_num, HR.out.put _ ⟨_, rfl⟩ hF.2 hF.1⟩
        · have c1 := hr.2.1
          have c2 := hr.2.2.1
          clear hr
          go_wp2
          go_quiet (fail)
          go_wp2
          clear c1 c2
          go_loopg [6] cv (fun g' i wz => ∃ y : Nat, g' = cv - y ∧ y ≤ cv ∧ i = .int .i64 y ∧ SpoilAt wz w P g k n Ak Av nk ck nv cv)
          case atStart => exact ⟨0, by omega, by omega, rfl, (HR.out.drewN _)⟩
          case round =>
            obtain ⟨y', hg3, hy', rfl, hr⟩ := hrel
            have HG3 := Lib.hid hg3
            have HR3 := Lib.hid hr
            clear hg3 HR
            by_cases hly' : y' < cv
            · obtain ⟨b, o, u, rfl, hF, _, hsf, hcell, x, rfl⟩ := hr.2.2.2.2.1.2 y' hly'
              have hf := hsf (o + y')
              clear hsf hr
              go_wp2
              go_roundg (cv - (y' + 1))
              case measure => have := HG3.out; omega
              case rel => exact ⟨y' + 1, rfl, by omega, by go_num, HR3.out.put _ ⟨_, rfl⟩ hF.2 hF.1⟩
            · have c1 := hr.2.1
              have c2 := hr.2.2.1
              have f1 := hr.1.2.1 (k * 2)
              have f2 := hr.1.2.1 (k * 2 + 1)
              clear hr
              go_wp2
              go_roundg (n + 1 - (k + 1))
              case measure => have := HG.out; omega
              case rel => exact ⟨k + 1, rfl, by omega, by go_num, HR3.out.1.clear (fun h => h.2 rfl) _ _, (HR3.out.2.2.2.2.2.setCell (p := ⟨g, k * 2, none⟩) (fun _ => hB) _).setCell (p := ⟨g, k * 2 + 1, none⟩) (fun _ => hB) _⟩
    · go_wp2
      go_end0
      exact ⟨rfl, hbl⟩
end Go.Proofs.Ytgjphmlmndcaeaa

namespace Go.Proofs.Ytgjphmlmndcaeaa
open Go.RowKit

/-- what a slot's number answers: the slot, the error -/
def slotOr (sl : List Slt) (id : Int) : Slt × Int := if 1 ≤ id ∧ id ≤ sl.length then (sl.getD (id.toNat - 1) (0, Nd.zero), 0) else ((0, Nd.zero), 101)
theorem slotOr_in {sl : List Slt} {id : Int} (h1 : 1 ≤ id) (h2 : id ≤ sl.length) : ∃ s, sl[id.toNat - 1]? = some s ∧ slotOr sl id = (s, 0) := by
  have hl : id.toNat - 1 < sl.length := by omega
  refine ⟨sl[id.toNat - 1], List.getElem?_eq_getElem hl, ?_⟩
  rw [slotOr, if_pos ⟨h1, h2⟩, List.getD_eq_getElem?_getD, List.getElem?_eq_getElem hl]
  rfl
theorem slotOr_out {sl : List Slt} {id : Int} (h : id < 1 ∨ (sl.length : Int) < id) : slotOr sl id = ((0, Nd.zero), 101) := by
  rw [slotOr, if_neg (by omega)]
theorem slotOr_small {sl : List Slt} (h : ∀ s ∈ sl, Small s.2) (id : Int) : Small (slotOr sl id).1.2 := by
  by_cases hi : 1 ≤ id ∧ id ≤ (sl.length : Int)
  · obtain ⟨s, h1, h2⟩ := slotOr_in hi.1 hi.2
    rw [h2]
    exact h s (List.mem_of_getElem? h1)
  · rw [slotOr_out (by omega)]
    exact ⟨by simp [Nd.zero], by simp [Nd.zero], by simp [Nd.zero], by simp [Nd.zero], by simp [Nd.zero], by simp [Nd.zero]⟩

theorem word_or (F : Nat → Prop) (p : Nat) (nodes root : Int) (sl : List Slt) (id : Int) (w : World) (h : ArX w F p nodes sl root) (hn : sl.length ≤ 65536) (s : Slt) (x : Int) (hs : slotOr sl id = (s, x)) :
    Calls Try.prog 83 #[.pointer (some ⟨p, 0, none⟩), .int .i64 id] w fun e w' => e = .returned (.tuple #[.int .u64 s.1, .int .i64 x]) ∧ w = w' := by
  by_cases hi : 1 ≤ id ∧ id ≤ (sl.length : Int)
  · obtain ⟨s', h1, h2⟩ := slotOr_in hi.1 hi.2
    rw [h2] at hs; injection hs with e1 e2; subst e1; subst e2
    exact word_in F p nodes root sl id s' w h hi.1 hi.2 hn h1
  · rw [slotOr_out (by omega)] at hs; injection hs with e1 e2; subst e1; subst e2
    exact word_out F p nodes root sl id w h (by omega)
theorem rword_or (F : Nat → Prop) (p : Nat) (nodes root : Int) (sl : List Slt) (id : Int) (w : World) (h : ArR w F p nodes sl root) (hn : sl.length ≤ 65536) (s : Slt) (x : Int) (hs : slotOr sl id = (s, x)) :
    Calls Try.prog 84 #[.pointer (some ⟨p, 0, none⟩), .int .i64 id] w fun e w' => e = .returned (.tuple #[.int .u64 s.1, .int .i64 x]) ∧ w = w' := by
  by_cases hi : 1 ≤ id ∧ id ≤ (sl.length : Int)
  · obtain ⟨s', h1, h2⟩ := slotOr_in hi.1 hi.2
    rw [h2] at hs; injection hs with e1 e2; subst e1; subst e2
    exact rword_in F p nodes root sl id s' w h hi.1 hi.2 hn h1
  · rw [slotOr_out (by omega)] at hs; injection hs with e1 e2; subst e1; subst e2
    exact rword_out F p nodes root sl id w h (by omega)
theorem head_or (F : Nat → Prop) (p : Nat) (nodes root : Int) (sl : List Slt) (id : Int) (w : World) (h : ArX w F p nodes sl root) (hn : sl.length ≤ 65536) (hsm : ∀ s ∈ sl, Small s.2) (s : Slt) (x : Int) (hs : slotOr sl id = (s, x)) :
    Calls Try.prog 79 #[.pointer (some ⟨p, 0, none⟩), .int .i64 id] w (NewHeadS w s.2.lev s.2.high s.2.right x) := by
  by_cases hi : 1 ≤ id ∧ id ≤ (sl.length : Int)
  · obtain ⟨s', h1, h2⟩ := slotOr_in hi.1 hi.2
    rw [h2] at hs; injection hs with e1 e2; subst e1; subst e2
    exact head_in F p nodes root sl id s' w h hi.1 hi.2 hn h1 (hsm _ (List.mem_of_getElem? h1)).1
  · rw [slotOr_out (by omega)] at hs; injection hs with e1 e2; subst e1; subst e2
    exact head_out F p nodes root sl id w h (by omega)
theorem rhead_or (F : Nat → Prop) (p : Nat) (nodes root : Int) (sl : List Slt) (id : Int) (w : World) (h : ArR w F p nodes sl root) (hn : sl.length ≤ 65536) (hsm : ∀ s ∈ sl, Small s.2) (s : Slt) (x : Int) (hs : slotOr sl id = (s, x)) :
    Calls Try.prog 85 #[.pointer (some ⟨p, 0, none⟩), .int .i64 id] w (NewHead w s.2.lev s.2.high s.2.right x) := by
  by_cases hi : 1 ≤ id ∧ id ≤ (sl.length : Int)
  · obtain ⟨s', h1, h2⟩ := slotOr_in hi.1 hi.2
    rw [h2] at hs; injection hs with e1 e2; subst e1; subst e2
    exact rhead_in F p nodes root sl id s' w h hi.1 hi.2 hn h1 (hsm _ (List.mem_of_getElem? h1))
  · rw [slotOr_out (by omega)] at hs; injection hs with e1 e2; subst e1; subst e2
    exact rhead_out F p nodes root sl id w h (by omega)
theorem body_or (F : Nat → Prop) (p : Nat) (nodes root : Int) (sl : List Slt) (id : Int) (w : World) (h : ArX w F p nodes sl root) (hn : sl.length ≤ 65536) (hsm : ∀ s ∈ sl, Small s.2) (s : Slt) (x : Int) (hs : slotOr sl id = (s, x)) :
    Calls Try.prog 80 #[.pointer (some ⟨p, 0, none⟩), .int .i64 id] w (NewBodyS w s.2.keys s.2.vals s.2.kids x) := by
  by_cases hi : 1 ≤ id ∧ id ≤ (sl.length : Int)
  · obtain ⟨s', h1, h2⟩ := slotOr_in hi.1 hi.2
    rw [h2] at hs; injection hs with e1 e2; subst e1; subst e2
    exact body_in F p nodes root sl id s' w h hi.1 hi.2 hn h1 (hsm _ (List.mem_of_getElem? h1))
  · rw [slotOr_out (by omega)] at hs; injection hs with e1 e2; subst e1; subst e2
    exact body_out F p nodes root sl id w h (by omega)
theorem rbody_or (F : Nat → Prop) (p : Nat) (nodes root : Int) (sl : List Slt) (id : Int) (w : World) (h : ArR w F p nodes sl root) (hn : sl.length ≤ 65536) (hsm : ∀ s ∈ sl, Small s.2) (s : Slt) (x : Int) (hs : slotOr sl id = (s, x)) :
    Calls Try.prog 86 #[.pointer (some ⟨p, 0, none⟩), .int .i64 id] w (NewBody w s.2.keys s.2.vals s.2.kids x) := by
  by_cases hi : 1 ≤ id ∧ id ≤ (sl.length : Int)
  · obtain ⟨s', h1, h2⟩ := slotOr_in hi.1 hi.2
    rw [h2] at hs; injection hs with e1 e2; subst e1; subst e2
    exact rbody_in F p nodes root sl id s' w h hi.1 hi.2 hn h1 (hsm _ (List.mem_of_getElem? h1))
  · rw [slotOr_out (by omega)] at hs; injection hs with e1 e2; subst e1; subst e2
    exact rbody_out F p nodes root sl id w h (by omega)
/-- what of a body may be written over -/
theorem NewBodyS.cells {w w' : World} {keys : List (List UInt8)} {kids : List Int} {A C : Option Addr} {n c l k : Nat}
    (h : keys = [] ∧ n = 0 ∧ kids = [] ∧ l = 0 ∨ ∃ g hi, w.heap.size ≤ g ∧ TxS w' g hi A n c keys ∧ It w' (Soft (From hi) w') C l k kids) :
    ∃ g hi, w.heap.size ≤ g ∧ g < hi ∧ Rows w' g (fun b => g < b ∧ b < hi) A n ∧ Cells w' (From hi) IsI64 C l := by
  rcases h with ⟨rfl, rfl, rfl, rfl⟩ | ⟨g, hi, h1, h2, h3⟩
  · exact ⟨w.heap.size, w.heap.size + 1, Nat.le_refl _, by omega, Rows.none_ _ _ _ _, Cells.none_ _ _ _ _⟩
  · exact ⟨g, hi, h1, h2.2.2.2.2.1, Rows.of_texts h2, Cells.of_ints h3⟩

set_option maxRecDepth 100000 in
theorem node_alike (F G : Nat → Prop) (q p r : Nat) (nodes root : Int) (sl : List Slt) (id : Int) (w : World) (hq : Blk w q 75 #[.pointer (some ⟨p, 0, none⟩), .pointer (some ⟨r, 0, none⟩)]) (hx : ArX w F p nodes sl root) (hy : ArR w G r nodes sl root)
    (hn : sl.length ≤ 65536) (hsm : ∀ s ∈ sl, Small s.2) :
    Calls Try.prog 59 #[.pointer (some ⟨q, 0, none⟩), .int .i64 id] w fun e w' => e = .returned (.bool true) ∧ Below w.heap.size w w' := by
  obtain ⟨s, x, hs⟩ : ∃ s x, slotOr sl id = (s, x) := ⟨_, _, rfl⟩
  have HX := Lib.hid hx
  have HY := Lib.hid hy
  have HQ := Lib.hid hq
  have HM := Lib.hid hsm
  have HS := Lib.hid hs
  obtain ⟨l1, l2, l3, l4, _, _⟩ : Small s.2 := by have := slotOr_small hsm id; rw [hs] at this; exact this
  have c0 : w.cell? ⟨q, 0, none⟩ = some (.pointer (some ⟨p, 0, none⟩)) := by rw [hq.cell]; rfl
  have c1 : w.cell? ⟨q, 1, none⟩ = some (.pointer (some ⟨r, 0, none⟩)) := by rw [hq.cell]; rfl
  clear hx hy hq hsm hs
  go_enter Try.func59, Try.ntmps59
  go_wp2_with (first | (go_at_call 83; refine (word_or F p nodes root sl id _ HX.out hn s x HS.out).mono ?_; rintro e w' ⟨rfl, rfl⟩) | (go_at_call 84; refine (rword_or G r nodes root sl id _ HY.out hn s x HS.out).mono ?_; rintro e w' ⟨rfl, rfl⟩) | (go_at_call 79; refine (head_or F p nodes root sl id _ HX.out hn HM.out s x HS.out).mono ?_; rintro e w1 ⟨A1, n1, d1, rfl, r1, hb1⟩; have y0 := bkeep hb1 c0; have y1 := bkeep hb1 c1; have yl := cell_lt y0; have i1 : Below w.heap.size w (w1.alloc (.cells #[.int .i64 s.2.lev, .slice A1 n1 d1, .int .i64 s.2.right] 88)) := hb1.alloc hb1.size _) | (go_at_call 85; refine (rhead_or G r nodes root sl id _ (HY.out.below i1) hn HM.out s x HS.out).mono ?_; rintro e w2 ⟨A2, n2, d2, rfl, r2, hb2⟩; have M2 : Below w1.heap.size w1 w2 := ((Below.refl _ _).alloc (Nat.le_refl _) _).trans (hb2.mono (by simp)); have j2 := i1.trans (hb2.mono i1.size); have u0 := bkeep j2 c0; have u1 := bkeep j2 c1; have ul := cell_lt u0; have i2 : Below w.heap.size w (w2.alloc (.cells #[.int .i64 s.2.lev, .slice A2 n2 d2, .int .i64 s.2.right] 88)) := j2.alloc j2.size _) | (go_at_call 80; refine (body_or F p nodes root sl id _ (HX.out.below i2) hn HM.out s x HS.out).mono ?_; rintro e w3 ⟨A3, n3, d3, A4, n4, d4, A5, n5, d5, rfl, r3, r4, r5, r6, hb3⟩; have M3 : Below w2.heap.size w2 w3 := ((Below.refl _ _).alloc (Nat.le_refl _) _).trans (hb3.mono (by simp)); have j3 := i2.trans (hb3.mono i2.size); have v0 := bkeep j3 c0; have v1 := bkeep j3 c1; have vl := cell_lt v0; have i3 : Below w.heap.size w (w3.alloc (.cells #[.slice A3 n3 d3, .slice A4 n4 d4, .slice A5 n5 d5] 91)) := j3.alloc j3.size _) | (go_at_call 86; refine (rbody_or G r nodes root sl id _ (HY.out.below i3) hn HM.out s x HS.out).mono ?_; rintro e w4 ⟨B3, m3, e3, B4, m4, e4, B5, m5, e5, rfl, t3, t4, t5, hb4⟩; have M4 : Below w3.heap.size w3 w4 := ((Below.refl _ _).alloc (Nat.le_refl _) _).trans (hb4.mono (by simp)); have M5 : Below w4.heap.size w4 (w4.alloc (.cells #[.slice B3 m3 e3, .slice B4 m4 e4, .slice B5 m5 e5] 91)) := (Below.refl _ _).alloc (Nat.le_refl _) _; have j4 := i3.trans (hb4.mono i3.size); have i4 : Below w.heap.size w (w4.alloc (.cells #[.slice B3 m3 e3, .slice B4 m4 e4, .slice B5 m5 e5] 91)) := j4.alloc j4.size _; have k1 : Blk w4 w1.heap.size 88 #[.int .i64 s.2.lev, .slice A1 n1 d1, .int .i64 s.2.right] := ((((Blk.new w1 _ _).below hb2).alloc _).below hb3 |>.alloc _).below hb4; have k2 : Blk w4 w2.heap.size 88 #[.int .i64 s.2.lev, .slice A2 n2 d2, .int .i64 s.2.right] := (((Blk.new w2 _ _).below hb3).alloc _).below hb4; have k3 : Blk w4 w3.heap.size 91 #[.slice A3 n3 d3, .slice A4 n4 d4, .slice A5 n5 d5] := (Blk.new w3 _ _).below hb4; obtain ⟨a0, a1, a2, a3⟩ := blk3 k1; obtain ⟨b0, b1, b2, b3⟩ := blk3 k2; obtain ⟨f0, f1, f2, f3⟩ := blk3 k3; have g1 := k1.lt; have g2 := k2.lt; have g3 := k3.lt) | (go_at_call 87; refine (sameHead_eq _ _ A1 A2 n1 d1 n2 d2 s.2.high s.2.lev s.2.right _ ((((r1.below M2).below M3).below M4).below M5) (((r2.below M3).below M4).below M5)).mono ?_; rintro e w5 ⟨rfl, hb5⟩; have j5 := i4.trans (hb5.mono i4.size); have k3' := ((k3.alloc (.cells #[.slice B3 m3 e3, .slice B4 m4 e4, .slice B5 m5 e5] 91)).below hb5); have k4' := (Blk.new w4 91 #[.slice B3 m3 e3, .slice B4 m4 e4, .slice B5 m5 e5]).below hb5; obtain ⟨o0, o1, o2, o3⟩ := blk3 k3'; obtain ⟨p0, p1, p2, p3⟩ := blk3 k4') | (go_at_call 88; refine (sameBody_eq _ _ A3 A4 A5 B3 B4 B5 n3 d3 n4 d4 n5 d5 m3 e3 m4 e4 m5 e5 s.2.keys s.2.vals s.2.kids _ (((r4.below M4).below M5).below hb5) (((r5.below M4).below M5).below hb5) (((r6.below M4).below M5).below hb5) ((t3.below M5).below hb5) ((t4.below M5).below hb5) ((t5.below M5).below hb5) (by rw [r4.len]; exact l2) (by rw [r5.len]; exact l3) (by rw [r6.len]; exact l4)).mono ?_; rintro e w6 ⟨rfl, hb6⟩))
  have J6 := Lib.hid (j5.trans (hb6.mono j5.size))
  have s12 := M2.size
  have s23 := M3.size
  have s34 := M4.size
  have E1 := Lib.hid (((k1.alloc (.cells #[.slice B3 m3 e3, .slice B4 m4 e4, .slice B5 m5 e5] 91)).below hb5).below hb6)
  have E3 := Lib.hid (k3'.below hb6)
  have up6 : Below w1.heap.size w1 w6 := M2.trans ((M3.mono s12).trans ((M4.mono (Nat.le_trans s12 s23)).trans ((M5.mono (by omega)).trans ((hb5.mono (by simp; omega)).trans (hb6.mono (by have := hb5.size; simp at this; omega))))))
  have up63 : Below w3.heap.size w3 w6 := M4.trans ((M5.mono s34).trans ((hb5.mono (by simp; omega)).trans (hb6.mono (by have := hb5.size; simp at this; omega))))
  have C1 := Lib.hid ((Cells.of_bytes r1).lt.chg (S := Nil) (Chg.of_below up6) (fun _ _ hf => hf))
  obtain ⟨g, hi, hgw, hgh, R3, C3⟩ := NewBodyS.cells r3
  have hgl : 0 < n3 → g < w3.heap.size := fun h => let ⟨_, _, _, _, h1, _⟩ := R3.2 0 h; h1
  have R3' := Lib.hid (R3.lt.chg (S := Nil) (Chg.of_below up63) (fun hf => hf) (fun _ _ hf => hf))
  have C5 := Lib.hid (C3.lt.chg (S := Nil) (Chg.of_below up63) (fun _ _ hf => hf))
  have N1 : n1 ≤ maxLen := Nat.le_trans r1.1 r1.2.1
  have N3 : n3 ≤ maxLen := Nat.le_trans r4.1 r4.2.1
  have N5 : n5 ≤ maxLen := Nat.le_trans r6.1 r6.2.1
  simp only [maxLen] at N1 N3 N5
  have HW : w.heap.size ≤ w1.heap.size := hb1.size
  have hg2 : w2.heap.size + 1 ≤ g := by simpa using hgw
  have hs6 := up63.size
  clear hb1 hb2 hb3 hb4 hb5 hb6 i1 i2 i3 i4 j2 j3 j4 j5 M2 M3 M4 M5 k1 k2 k3 k3' k4' a0 a1 a2 a3 b0 b1 b2 b3 f0 f1 f2 f3 o0 o1 o2 o3 p0 p1 p2 p3 r1 r2 r3 r4 r5 r6 t3 t4 t5 R3 C3 up6 up63 hgw y0 y1 u0 u1 v0 v1 yl ul vl g1 g2 g3
  go_loopg [19] n1 (fun g i wr => ∃ (k : Nat), g = n1 - k ∧ k ≤ n1 ∧ i = .int .i64 k ∧ Chg (fun b => w.heap.size ≤ b ∧ b < w1.heap.size) w6 wr ∧ Cells wr (fun b => From w.heap.size b ∧ b < w1.heap.size) IsU8 A1 n1)
  case atStart => exact ⟨0, by omega, by omega, rfl, Chg.refl _ _, C1.out⟩
  case round =>
    obtain ⟨k, hg, hk, rfl, hch, hce⟩ := hrel
    have HG := Lib.hid hg
    have HC := Lib.hid hch
    have HE := Lib.hid hce
    obtain ⟨a0, a1, a2, a3⟩ := blk3 (E1.out.chg hch (fun h => by omega))
    clear hg hch hce
    by_cases hlt : k < n1
    · obtain ⟨b, o, u, rfl, hF, _, hsf, hcell, x, rfl⟩ := HE.out.2 k hlt
      have hf := hsf (o + k)
      go_wp2
      go_roundg (n1 - (k + 1))
      case measure => have := HG.out; omega
      case rel => exact ⟨k + 1, rfl, by omega, by go_num, HC.out.setCell (p := ⟨b, o + k, none⟩) (fun _ => hF) _, HE.out.put _ ⟨_, rfl⟩⟩
    · have z7 := HC.out.size
      have R7 := Lib.hid (R3'.out.chg HC.out (fun h => by omega) (fun b hb h => by omega))
      have C7 := Lib.hid (C5.out.chg HC.out (fun b hb h => by simp only [From] at hb; omega))
      have E7 := Lib.hid (E3.out.chg HC.out (fun h => by omega))
      clear HE
      go_wp2
      go_loopg [20] n3 (fun g' i wz => ∃ (k : Nat), g' = n3 - k ∧ k ≤ n3 ∧ i = .int .i64 k ∧ Chg (fun b => g ≤ b ∧ b < hi ∧ b < w3.heap.size) wr wz ∧ Rows wz g (fun b => (g < b ∧ b < hi) ∧ b < w3.heap.size) A3 n3)
      case atStart => exact ⟨0, by omega, by omega, rfl, Chg.refl _ _, R7.out⟩
      case round =>
        obtain ⟨z, hg', hz, rfl, hch, hro⟩ := hrel
        have HG2 := Lib.hid hg'
        have HC2 := Lib.hid hch
        have HR2 := Lib.hid hro
        obtain ⟨f0, f1, f2, f3⟩ := blk3 (E7.out.chg hch (fun h => by omega))
        clear hg' hch hro
        by_cases hlt : z < n3
        · have hgl' := hgl (by omega)
          obtain ⟨Az, nz, cz, rfl, _, hsg, hcz, hCz⟩ := HR2.out.2 z hlt
          have NZ := hCz.1
          simp only [maxLen] at NZ
          have HZ := Lib.hid hcz
          clear hCz hsg
          go_wp2
          clear hcz
          go_loopg [21] nz (fun g' i wy => ∃ (k : Nat), g' = nz - k ∧ k ≤ nz ∧ i = .int .i64 k ∧ Chg (fun b => (g < b ∧ b < hi) ∧ b < w3.heap.size) wr wy ∧ wy.cell? ⟨g, z, none⟩ = some (.slice Az nz cz) ∧ Rows wy g (fun b => (g < b ∧ b < hi) ∧ b < w3.heap.size) (some ⟨g, 0, none⟩) n3)
          case atStart => exact ⟨0, by omega, by omega, rfl, Chg.refl _ _, HZ.out, HR2.out⟩
          case round =>
            obtain ⟨y, hg'', hy, rfl, hch, hcz, hro⟩ := hrel
            have HG3 := Lib.hid hg''
            have HC3 := Lib.hid hch
            have HR3 := Lib.hid hro
            have HZ3 := Lib.hid hcz
            obtain ⟨o0, o1, o2, o3⟩ := blk3 ((E7.out.chg HC2.out (fun h => by omega)).chg hch (fun h => by omega))
            obtain ⟨Az', nz', cz', _, _, hsg, hcz', hCz⟩ := hro.2 z hlt
            rw [hcz] at hcz'
            injection hcz' with hcz'
            injection hcz' with e1 e2 e3
            subst e1; subst e2; subst e3
            clear hg'' hch hro
            by_cases hly : y < nz
            · obtain ⟨b, o, u, rfl, hF, _, hsf, hcell, x, rfl⟩ := hCz.2 y hly
              have hf := hsf (o + y)
              clear hCz hsf
              go_wp2
              go_roundg (nz - (y + 1))
              case measure => have := HG3.out; omega
              case rel => exact ⟨y + 1, rfl, by omega, by go_num, HC3.out.setCell (p := ⟨b, o + y, none⟩) (fun _ => hF) _, by rw [World.cell?_setCell_other _ _ _ _ (fun e => by injection e with e1; have := hF.1.1; omega)]; exact HZ3.out, HR3.out.put _ ⟨_, rfl⟩ (by have := hF.1.1; show b ≠ g; omega)⟩
            · have hf := hsg z
              clear hCz hsg
              go_wp2
              go_roundg (n3 - (z + 1))
              case measure => have := HG2.out; omega
              case rel => exact ⟨z + 1, rfl, by omega, by go_num, (HC2.out.trans HC3.out (fun b _ h => ⟨by omega, h.1.2, h.2⟩)).setCell (p := ⟨g, z, none⟩) (fun _ => ⟨Nat.le_refl _, hgh, hgl'⟩) _, HR3.out.nil_ z (by omega)⟩
        · have HC6 := Lib.hid (HC.out.below_of (B := w.heap.size) (Nat.le_trans HW (by omega)) (fun b hb h => by omega))
          have HC7 := Lib.hid (HC2.out.below_of (B := w.heap.size) (Nat.le_trans HW (by omega)) (fun b hb h => by omega))
          have C8 := Lib.hid (C7.out.chg HC2.out (fun b hb h => by simp only [From] at hb; omega))
          have E8 := Lib.hid (E7.out.chg HC2.out (fun h => by omega))
          have z8 := HC2.out.size
          clear HR2
          go_wp2
          go_loopg [22] n5 (fun g' i wz => ∃ (k : Nat), g' = n5 - k ∧ k ≤ n5 ∧ i = .int .i64 k ∧ Chg (fun b => hi ≤ b ∧ b < w3.heap.size) wr wz ∧ Cells wz (fun b => From hi b ∧ b < w3.heap.size) IsI64 A5 n5)
          case atStart => exact ⟨0, by omega, by omega, rfl, Chg.refl _ _, C8.out⟩
          case round =>
            obtain ⟨y, hg'', hy, rfl, hch, hce⟩ := hrel
            have HG3 := Lib.hid hg''
            have HC3 := Lib.hid hch
            have HE3 := Lib.hid hce
            obtain ⟨o0, o1, o2, o3⟩ := blk3 (E8.out.chg hch (fun h => by omega))
            clear hg'' hch hce
            by_cases hly : y < n5
            · obtain ⟨b, o, u, rfl, hF, _, hsf, hcell, x, rfl⟩ := HE3.out.2 y hly
              have hf := hsf (o + y)
              clear hsf
              go_wp2
              go_roundg (n5 - (y + 1))
              case measure => have := HG3.out; omega
              case rel => exact ⟨y + 1, rfl, by omega, by go_num, HC3.out.setCell (p := ⟨b, o + y, none⟩) (fun _ => hF) _, HE3.out.put _ ⟨_, rfl⟩⟩
            · go_wp2
              go_ret
              exact ⟨rfl, J6.out.trans (HC6.out.trans (HC7.out.trans (HC3.out.below_of (Nat.le_trans HW (by omega)) (fun b hb h => by omega))))⟩
end Go.Proofs.Ytgjphmlmndcaeaa
