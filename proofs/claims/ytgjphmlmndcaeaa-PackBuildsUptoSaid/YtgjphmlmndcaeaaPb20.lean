/- WALKS: copied entries read as they did; entries are written over (document). What an owner may write over: cells of one kind, in blocks that are not frozen. No program in sight. WALKS: whoever has entries writes over them (document). -/
import Derived.Test.YtgjphmlmndcaeaaPb19
import Derived.Test.YtgjphmlmndcaeaaPb01
set_option linter.unusedVariables false
set_option linter.unusedSimpArgs false
namespace Go.Proofs.Ytgjphmlmndcaeaa
open Go.RowKit

theorem sameEnt_eq (F G : Nat → Prop) (A1 A2 B1 B2 : Option Addr) (n1 c1 n2 c2 m1 d1 m2 d2 : Nat) (key val : List UInt8) (w : World)
    (h1 : Rd w F 1 A1 n1 (bvs key)) (e1 : n1 = key.length) (h2 : Rd w F 1 A2 n2 (bvs val)) (e2 : n2 = val.length) (k1 : Rd w G 1 B1 m1 (bvs key)) (f1 : m1 = key.length) (k2 : Rd w G 1 B2 m2 (bvs val)) (f2 : m2 = val.length) :
    Calls Try.prog 67 #[.agg #[.slice A1 n1 c1, .slice A2 n2 c2], .agg #[.slice B1 m1 d1, .slice B2 m2 d2]] w fun e w' => e = .returned (.bool true) ∧ Below w.heap.size w w' := by
  have b1 : Below w.heap.size w ((w.alloc (.cells #[.slice A1 n1 c1, .slice A2 n2 c2] 43)).alloc (.cells #[.slice B1 m1 d1, .slice B2 m2 d2] 43)) := ((Below.refl _ _).alloc (Nat.le_refl _) _).alloc (by simp) _
  have q1 := conv_any _ F A1 n1 c1 key (h1.below b1) e1
  have q2 := conv_any _ F A2 n2 c2 val (h2.below b1) e2
  have q3 := conv_any _ G B1 m1 d1 key (k1.below b1) f1
  have q4 := conv_any _ G B2 m2 d2 val (k2.below b1) f2
  clear h1 h2 k1 k2 e1 e2 f1 f2
  go_enter Try.func67, Try.ntmps67
  go_wp2
  go_ret
  exact ⟨rfl, b1⟩

set_option maxRecDepth 100000 in
theorem sameAll_eq (F G : Nat → Prop) (A B : Option Addr) (n c m d : Nat) (l : List Ent) (w : World) (h : Ents w F A n l) (k : Ents w G B m l) (hn2 : n ≤ 1152921504606) :
    Calls Try.prog 38 #[.slice A n c, .slice B m d] w fun e w' => e = .returned (.bool true) ∧ Below w.heap.size w w' := by
  have e1 : n = m := by rw [h.len, k.len]
  subst e1
  have HH := Lib.hid h
  have HK := Lib.hid k
  clear h k
  go_enter Try.func38, Try.ntmps38
  go_wp2
  go_loopg [5] n (fun g i wr => ∃ (k : Nat), g = n - k ∧ k ≤ n ∧ i = .int .i64 k ∧ Below w.heap.size w wr)
  case atStart => exact ⟨0, by omega, by omega, rfl, Below.refl _ _⟩
  case round =>
    obtain ⟨k, hg, hk, rfl, hbl⟩ := hrel
    have HG := Lib.hid hg
    clear hg
    by_cases hlt : k < n
    · obtain ⟨b, o, Ak, nk, ck, Av, nv, cv, key, val, rfl, hFb, hl, c1, c2, h1, h2, h3, h4, h5, h6, h7, h8⟩ := (HH.out.below hbl).at_ hlt
      obtain ⟨b', o', Bk, mk, dk, Bv, mv, dv, key', val', rfl, hGb, hl', c1', c2', k1, k2, k3, k4, k5, k6, k7, k8⟩ := (HK.out.below hbl).at_ hlt
      rw [hl] at hl'
      injection hl' with hl'
      injection hl' with ha hb
      subst ha; subst hb
      have H4 := Lib.hid h4
      have H8 := Lib.hid h8
      have K4 := Lib.hid k4
      have K8 := Lib.hid k8
      clear hl h4 h8 k4 k8
      go_wp2
      refine wp_region_V (fun w' => w'.cell? ⟨b, o + k * 2, none⟩ = some (.slice Ak nk ck) ∧ w'.cell? ⟨b, o + k * 2 + 1, none⟩ = some (.slice Av nv cv) ∧ w'.cell? ⟨b', o' + k * 2, none⟩ = some (.slice Bk mk dk) ∧ w'.cell? ⟨b', o' + k * 2 + 1, none⟩ = some (.slice Bv mv dv)) (by kernel_rfl) ?_
      have S0 : wr.drew.cell? ⟨b, o + k * 2, none⟩ = some (.slice Ak nk ck) ∧ wr.drew.cell? ⟨b, o + k * 2 + 1, none⟩ = some (.slice Av nv cv) ∧ wr.drew.cell? ⟨b', o' + k * 2, none⟩ = some (.slice Bk mk dk) ∧ wr.drew.cell? ⟨b', o' + k * 2 + 1, none⟩ = some (.slice Bv mv dv) := ⟨c1, c2, c1', c2'⟩
      clear c1 c2 c1' c2'
      refine wpV_take (i := 0) (v := ?_) rfl (by kernel_rfl) (by kernel_rfl) (by kernel_rfl) (fun _ _ _ h => h) S0 (Or.inl ⟨by rfl, ?_⟩) ?_
      rotate_left
      · intro w hSw
        go_simp
        try with_reducible rfl
      try simp only [Act.put, List.setIfInBounds_toArray, List.set_cons_zero, List.set_cons_succ]
      refine wpV_take (i := 1) (v := ?_) rfl (by kernel_rfl) (by kernel_rfl) (by kernel_rfl) (fun _ _ _ h => h) S0 (Or.inl ⟨by rfl, ?_⟩) ?_
      rotate_left
      · intro w hSw
        go_simp
        try with_reducible rfl
      try simp only [Act.put, List.setIfInBounds_toArray, List.set_cons_zero, List.set_cons_succ]
      refine wpV_take (i := 2) (v := ?_) rfl (by kernel_rfl) (by kernel_rfl) (by kernel_rfl) (fun _ _ _ h => h) S0 (Or.inl ⟨by rfl, ?_⟩) ?_
      rotate_left
      · intro w hSw
        go_simp
        try with_reducible rfl
      try simp only [Act.put, List.setIfInBounds_toArray, List.set_cons_zero, List.set_cons_succ]
      refine wpV_take (i := 4) (v := ?_) rfl (by kernel_rfl) (by kernel_rfl) (by kernel_rfl) (fun _ _ _ h => h) S0 (Or.inl ⟨by rfl, ?_⟩) ?_
      rotate_left
      · intro w hSw
        go_simp
        try with_reducible rfl
      try simp only [Act.put, List.setIfInBounds_toArray, List.set_cons_zero, List.set_cons_succ]
      refine wpV_take (i := 5) (v := ?_) rfl (by kernel_rfl) (by kernel_rfl) (by kernel_rfl) (fun _ _ _ h => h) S0 (Or.inl ⟨by rfl, ?_⟩) ?_
      rotate_left
      · intro w hSw
        go_simp
        try with_reducible rfl
      try simp only [Act.put, List.setIfInBounds_toArray, List.set_cons_zero, List.set_cons_succ]
      refine wpV_take (i := 6) (v := ?_) rfl (by kernel_rfl) (by kernel_rfl) (by kernel_rfl) (fun _ _ _ h => h) S0 (Or.inl ⟨by rfl, ?_⟩) ?_
      rotate_left
      · intro w hSw
        go_simp
        try with_reducible rfl
      try simp only [Act.put, List.setIfInBounds_toArray, List.set_cons_zero, List.set_cons_succ]
      refine wpV_take (i := 3) (v := ?_) rfl (by kernel_rfl) (by kernel_rfl) (by kernel_rfl) (fun _ _ _ h => h) S0 (Or.inl ⟨by rfl, ?_⟩) ?_
      rotate_left
      · intro w hSw
        obtain ⟨s1, s2, s3, s4⟩ := hSw
        go_simp
        try with_reducible rfl
      try simp only [Act.put, List.setIfInBounds_toArray, List.set_cons_zero, List.set_cons_succ]
      refine wpV_take (i := 7) (v := ?_) rfl (by kernel_rfl) (by kernel_rfl) (by kernel_rfl) (fun _ _ _ h => h) S0 (Or.inl ⟨by rfl, ?_⟩) ?_
      rotate_left
      · intro w hSw
        obtain ⟨s1, s2, s3, s4⟩ := hSw
        go_simp
        try with_reducible rfl
      try simp only [Act.put, List.setIfInBounds_toArray, List.set_cons_zero, List.set_cons_succ]
      refine wpV_one (i := 8) (by kernel_rfl) rfl (fun K hK => ?_)
      go_simp
      refine (sameEnt_eq F G Ak Av Bk Bv nk ck nv cv mk dk mv dv key val _ H4.out.drew h3.out H8.out.drew h7.out K4.out.drew k3.out K8.out.drew k7.out).mono ?_; rintro e w1 ⟨rfl, hb1⟩
      refine hK.out _ _ ⟨bkeep hb1 S0.1, bkeep hb1 S0.2.1, bkeep hb1 S0.2.2.1, bkeep hb1 S0.2.2.2⟩ ?_
      clear hK K
      try simp only [Act.put, List.setIfInBounds_toArray, List.set_cons_zero, List.set_cons_succ]
      refine wpV_take (i := 9) (v := ?_) rfl (by kernel_rfl) (by kernel_rfl) (by kernel_rfl) (fun _ _ _ h => h) ⟨bkeep hb1 S0.1, bkeep hb1 S0.2.1, bkeep hb1 S0.2.2.1, bkeep hb1 S0.2.2.2⟩ (Or.inl ⟨by rfl, ?_⟩) ?_
      rotate_left
      · intro w hSw
        go_simp
        try with_reducible rfl
      try simp only [Act.put, List.setIfInBounds_toArray, List.set_cons_zero, List.set_cons_succ]
      refine wpV_done (by kernel_rfl) ?_ _
      go_wp2
      go_roundg (n - (k + 1))
      case measure => have := HG.out; omega
      case rel => exact ⟨k + 1, rfl, by omega, by go_num, hbl.trans ((Below.refl _ _).drew.trans (hb1.mono hbl.size))⟩
    · go_wp2
      go_ret
      exact ⟨rfl, hbl⟩

section
variable {S F : Nat → Prop} {w w' : World} {B n c : Nat} {A : Option Addr} {l : List Ent}
theorem Copied.ents (h : Copied w B A n c l) : Ents w (From B) A n l := by
  obtain ⟨g, k77, xs, rfl, rfl, hn, hn2, hB, hb, hl, hm, h1, h2, h3⟩ := h
  refine ⟨hn, xs, ⟨hl, fun _ => ⟨g, 0, rfl, hB, fun j u hj => ?_⟩⟩, fun i e he => ?_⟩
  · rw [Nat.zero_add, hb.cell, List.getElem?_toArray, List.getElem?_append_left (List.getElem?_eq_some_iff.1 hj).1]; exact hj
  · have hi : i < n := by have := (List.getElem?_eq_some_iff.1 he).1; have := hn.out; omega
    obtain ⟨u, v, a, b, p, q⟩ := hm i e hi he
    exact ⟨u, v, a, b, p.sb.weak (fun b hb => hb.1), q.sb.weak (fun b hb => hb.1)⟩
theorem Copied.chg (h : Copied w B A n c l) (hc : Chg S w w') (hs : ∀ b, B ≤ b → ¬ S b) : Copied w' B A n c l := by
  obtain ⟨g, k77, xs, h0, h00, hn, hn2, hB, hb, hl, hm, h1, h2, h3⟩ := h
  exact ⟨g, k77, xs, h0, h00, hn, hn2, hB, hb.chg hc (hs _ hB), hl, hm.chg hc (fun b hb => hs b hb.1), h1, h2, h3.chg hc (hs _ h1)⟩
theorem Copied.below (h : Copied w B A n c l) (hb : Below w.heap.size w w') : Copied w' B A n c l := h.chg (S := Nil) (Chg.of_below hb) (fun _ _ hf => hf)
theorem mk_cells {v : Value} {bs : List UInt8} (h : MK w F v bs) : ∃ k, v = .slice (some ⟨k, 0, none⟩) bs.length (bs.length + 1) ∧ F k ∧ k < w.heap.size ∧ SoftAt w k ∧ bs.length + 1 ≤ maxLen ∧ w.cell? ⟨k, bs.length, none⟩ = some (.int .u8 77) ∧ ∀ j, j < bs.length + 1 → ∃ x, w.cell? ⟨k, j, none⟩ = some (.int .u8 x) := by
  obtain ⟨k, h1, h2, h3, h4⟩ := h
  refine ⟨k, h1, h2, h4.lt, h4.soft, h3, ?_, fun j hj => ?_⟩
  · rw [h4.cell, List.getElem?_toArray]; simp [bvs, bv]
  · rw [h4.cell, List.getElem?_toArray]
    have hl : j < (bvs (bs ++ [77])).length := by simp [bvs]; omega
    rw [List.getElem?_eq_getElem hl]
    obtain ⟨x, _, hx⟩ := bvs_at (List.getElem?_eq_getElem hl)
    exact ⟨x.toNat, by rw [hx]; rfl⟩
/-- one entry of a copied list -/
theorem Copied.at_ (h : Copied w B A n c l) {k : Nat} (hk : k < n) : ∃ g ku kv key val, A = some ⟨g, 0, none⟩ ∧ g < w.heap.size ∧ l[k]? = some (key, val) ∧
    w.cell? ⟨g, k * 2, none⟩ = some (.slice (some ⟨ku, 0, none⟩) key.length (key.length + 1)) ∧ w.cell? ⟨g, k * 2 + 1, none⟩ = some (.slice (some ⟨kv, 0, none⟩) val.length (val.length + 1)) ∧
    w.cell? ⟨ku, key.length, none⟩ = some (.int .u8 77) ∧ w.cell? ⟨kv, val.length, none⟩ = some (.int .u8 77) ∧ key.length + 1 ≤ 9223372036854775807 ∧ val.length + 1 ≤ 9223372036854775807 := by
  obtain ⟨g, k77, xs, rfl, rfl, hn, hn2, hB, hb, hl, hm, h1, h2, h3⟩ := h
  have hkl : k < l.length := by have := hn.out; omega
  obtain ⟨u, v, a, b, p, q⟩ := hm k _ hk (List.getElem?_eq_getElem hkl)
  obtain ⟨ku, rfl, _, _, _, mu, cu, _⟩ := mk_cells p
  obtain ⟨kv, rfl, _, _, _, mv, cv, _⟩ := mk_cells q
  refine ⟨g, ku, kv, l[k].1, l[k].2, rfl, hb.lt, List.getElem?_eq_getElem hkl, ?_, ?_, cu, cv, by simpa [maxLen] using mu, by simpa [maxLen] using mv⟩
  · rw [hb.cell, List.getElem?_toArray, Nat.mul_comm, List.getElem?_append_left (List.getElem?_eq_some_iff.1 a).1]; exact a
  · rw [hb.cell, List.getElem?_toArray, Nat.mul_comm, List.getElem?_append_left (List.getElem?_eq_some_iff.1 b).1]; exact b
end

set_option maxRecDepth 100000 in
theorem kept_any (G : Nat → Prop) (A D : Option Addr) (n c m d B : Nat) (l : List Ent) (w : World) (h : Copied w B A n c l) (k : Ents w G D m l) :
    Calls Try.prog 17 #[.slice A n c, .slice D m d] w fun e w' => e = .returned (.bool true) ∧ Below w.heap.size w w' := by
  have HH := Lib.hid h
  have HK := Lib.hid k
  obtain ⟨g, k77, xs, rfl, rfl, hn, hn2, hB, hb, hl, hm, h1, h2, h3⟩ := h
  have hlast : w.cell? ⟨g, n * 2, none⟩ = some (.slice (some ⟨k77, 0, none⟩) 1 1) := by
    rw [hb.cell, List.getElem?_toArray, List.getElem?_append_right (by omega), show n * 2 - xs.length = 0 by omega]; rfl
  clear k hm h3 hb hl hn
  go_enter Try.func17, Try.ntmps17
  go_wp2_with (go_at_call 38; refine (sameAll_eq (From B) G (some ⟨g, 0, none⟩) D n (n + 1) m d l _ HH.out.ents HK.out hn2).mono ?_; rintro e w1 ⟨rfl, hb1⟩)
  have H1 := Lib.hid (HH.out.below hb1)
  have hl1 := bkeep hb1 hlast
  go_loopg [6] n (fun g i wr => ∃ (k : Nat), g = n - k ∧ k ≤ n ∧ i = .int .i64 k ∧ wr = w1)
  case atStart => exact ⟨0, by omega, by omega, rfl, rfl⟩
  case round =>
    obtain ⟨k, hg, hk, rfl, rfl⟩ := hrel
    have HG := Lib.hid hg
    clear hg
    by_cases hlt : k < n
    · obtain ⟨g', ku, kv, key, val, hA, hgl, hkl, c1, c2, c3, c4, b1, b2⟩ := H1.out.at_ hlt
      injection hA with hA
      injection hA with hA
      subst hA
      clear hkl
      go_wp2
      go_roundg (n - (k + 1))
      case measure => have := HG.out; omega
      case rel => exact ⟨k + 1, rfl, by omega, by go_num, rfl⟩
    · go_wp2
      go_ret
      exact ⟨rfl, hb1⟩
end Go.Proofs.Ytgjphmlmndcaeaa

namespace Go.Proofs.Ytgjphmlmndcaeaa
open Go.RowKit

/-- n cells at A, each a value of P, in blocks of F that are not frozen -/
def Cells (w : World) (F : Nat → Prop) (P : Value → Prop) (A : Option Addr) (n : Nat) : Prop :=
  n ≤ maxLen ∧ ∀ j, j < n → ∃ b o v, A = some ⟨b, o, none⟩ ∧ F b ∧ b < w.heap.size ∧ SoftAt w b ∧ w.cell? ⟨b, o + j, none⟩ = some v ∧ P v
def IsU8 (v : Value) : Prop := ∃ x, v = .int .u8 x
def IsI64 (v : Value) : Prop := ∃ x, v = .int .i64 x
/-- n slices in a row at block g; each of bytes, in blocks of F -/
def Rows (w : World) (g : Nat) (F : Nat → Prop) (A : Option Addr) (n : Nat) : Prop :=
  n ≤ maxLen ∧ ∀ j, j < n → ∃ Ak nk ck, A = some ⟨g, 0, none⟩ ∧ g < w.heap.size ∧ SoftAt w g ∧ w.cell? ⟨g, j, none⟩ = some (.slice Ak nk ck) ∧ Cells w F IsU8 Ak nk

section
variable {S F G : Nat → Prop} {w w' : World} {A : Option Addr} {n c g hi : Nat} {P : Value → Prop}
theorem Cells.weak (h : Cells w F P A n) (hF : ∀ b, F b → G b) : Cells w G P A n := ⟨h.1, fun j hj => let ⟨b, o, v, e, h1, h2, h3, h4, h5⟩ := h.2 j hj; ⟨b, o, v, e, hF b h1, h2, h3, h4, h5⟩⟩
theorem Cells.lt (h : Cells w F P A n) : Cells w (fun b => F b ∧ b < w.heap.size) P A n := ⟨h.1, fun j hj => let ⟨b, o, v, e, h1, h2, h3, h4, h5⟩ := h.2 j hj; ⟨b, o, v, e, ⟨h1, h2⟩, h2, h3, h4, h5⟩⟩
theorem Cells.chg (h : Cells w F P A n) (hc : Chg S w w') (hs : ∀ b, F b → ¬ S b) : Cells w' F P A n :=
  ⟨h.1, fun j hj => let ⟨b, o, v, e, h1, h2, h3, h4, h5⟩ := h.2 j hj; ⟨b, o, v, e, h1, Nat.lt_of_lt_of_le h2 hc.size, h3.chg hc h2 (hs b h1), hc.cell (hs b h1) h4, h5⟩⟩
theorem SoftAt.set_ {b : Nat} (h : SoftAt w b) (p : Addr) (v : Value) : SoftAt (w.setCell p v) b := fun o => by rw [World.frozen?_setCell]; exact h o
/-- a value of P put anywhere leaves them so -/
theorem Cells.put (h : Cells w F P A n) (p : Addr) {v : Value} (hv : P v) : Cells (w.setCell p v) F P A n := by
  refine ⟨h.1, fun j hj => ?_⟩
  obtain ⟨b, o, u, e, h1, h2, h3, h4, h5⟩ := h.2 j hj
  by_cases hp : p = ⟨b, o + j, none⟩
  · subst hp
    exact ⟨b, o, v, e, h1, by simpa [World.setCell] using h2, h3.set_ _ _, World.cell?_setCell_same _ _ _ h4, hv⟩
  · exact ⟨b, o, u, e, h1, by simpa [World.setCell] using h2, h3.set_ _ _, by rw [World.cell?_setCell_other _ _ _ _ hp]; exact h4, h5⟩
/-- what is put into other blocks leaves them so -/
theorem Cells.far (h : Cells w F P A n) (p : Addr) (v : Value) (hp : ¬ F p.block) : Cells (w.setCell p v) F P A n :=
  h.chg (S := One p.block) ((Chg.refl (One p.block) w).setCell (p := p) (fun _ => rfl) v) (fun b hb e => by have e : b = p.block := e; subst e; exact hp hb)
theorem Cells.none_ (w : World) (F : Nat → Prop) (P : Value → Prop) (A : Option Addr) : Cells w F P A 0 := ⟨Nat.zero_le _, fun j hj => absurd hj (by omega)⟩
theorem Cells.of_bytes {bs : List UInt8} (h : Bt w (Soft F w) A n c bs) : Cells w F IsU8 A n := by
  refine ⟨Nat.le_trans h.1 h.2.1, fun j hj => ?_⟩
  obtain ⟨b, o, u, e, hF, e1, c1⟩ := h.2.2.2.at_ hj
  obtain ⟨x, _, rfl⟩ := bvs_at e1
  exact ⟨b, o, _, e, hF.1, cell_lt c1, hF.2, c1, ⟨_, rfl⟩⟩
theorem Cells.of_ints {ks : List Int} (h : It w (Soft F w) A n c ks) : Cells w F IsI64 A n := by
  refine ⟨Nat.le_trans h.1 h.2.1, fun j hj => ?_⟩
  obtain ⟨b, o, x, e, hF, e1, c1⟩ := h.at_ hj
  exact ⟨b, o, _, e, hF.1, cell_lt c1, hF.2, c1, ⟨_, rfl⟩⟩
theorem Rows.none_ (w : World) (g : Nat) (F : Nat → Prop) (A : Option Addr) : Rows w g F A 0 := ⟨Nat.zero_le _, fun j hj => absurd hj (by omega)⟩
theorem Rows.of_texts {ts : List (List UInt8)} (h : TxS w g hi A n c ts) : Rows w g (fun b => g < b ∧ b < hi) A n := by
  obtain ⟨h1, h2, h3, h4, h5, vs, h6, h7⟩ := h
  refine ⟨Nat.le_trans h1 h2, fun j hj => ?_⟩
  obtain ⟨b, o, u, e, hF, e1, c1⟩ := h6.at_ hj
  have hl : j < ts.length := by have : n = ts.length := h3; omega
  obtain ⟨v, e2, s1⟩ := h7 j ts[j] (List.getElem?_eq_getElem hl)
  rw [e1] at e2
  injection e2 with e2
  subst e2
  obtain ⟨Ak, nk, ck, rfl, k⟩ := s1
  rw [h4] at e
  injection e with e
  injection e with e1 e2
  subst e1; subst e2
  rw [Nat.zero_add] at c1
  exact ⟨Ak, nk, ck, h4, cell_lt c1, hF.2, c1, Cells.of_bytes (show Bt w (Soft (fun b => g < b ∧ b < hi) w) Ak nk ck ts[j] from k)⟩
theorem Rows.chg (h : Rows w g F A n) (hc : Chg S w w') (hg : ¬ S g) (hs : ∀ b, F b → ¬ S b) : Rows w' g F A n :=
  ⟨h.1, fun j hj => let ⟨Ak, nk, ck, e, h1, h2, h3, h4⟩ := h.2 j hj; ⟨Ak, nk, ck, e, Nat.lt_of_lt_of_le h1 hc.size, h2.chg hc h1 hg, hc.cell hg h3, h4.chg hc hs⟩⟩
theorem Rows.lt (h : Rows w g F A n) : Rows w g (fun b => F b ∧ b < w.heap.size) A n :=
  ⟨h.1, fun j hj => let ⟨Ak, nk, ck, e, h1, h2, h3, h4⟩ := h.2 j hj; ⟨Ak, nk, ck, e, h1, h2, h3, h4.lt⟩⟩
theorem Rows.weak (h : Rows w g F A n) (hF : ∀ b, F b → G b) : Rows w g G A n :=
  ⟨h.1, fun j hj => let ⟨Ak, nk, ck, e, h1, h2, h3, h4⟩ := h.2 j hj; ⟨Ak, nk, ck, e, h1, h2, h3, h4.weak hF⟩⟩
/-- a byte put into another block -/
theorem Rows.put (h : Rows w g F A n) (p : Addr) {v : Value} (hv : IsU8 v) (hp : p.block ≠ g) : Rows (w.setCell p v) g F A n := by
  refine ⟨h.1, fun j hj => ?_⟩
  obtain ⟨Ak, nk, ck, e, h1, h2, h3, h4⟩ := h.2 j hj
  exact ⟨Ak, nk, ck, e, by simpa [World.setCell] using h1, h2.set_ _ _, by rw [World.cell?_setCell_other _ _ _ _ (fun e => hp (by rw [e]))]; exact h3, h4.put p hv⟩
/-- one of them is now nil -/
theorem Rows.nil_ (h : Rows w g F A n) (z : Nat) (hg : ¬ F g) : Rows (w.setCell ⟨g, z, none⟩ (.slice none 0 0)) g F A n := by
  refine ⟨h.1, fun j hj => ?_⟩
  obtain ⟨Ak, nk, ck, e, h1, h2, h3, h4⟩ := h.2 j hj
  by_cases hz : z = j
  · subst hz
    exact ⟨none, 0, 0, e, by simpa [World.setCell] using h1, h2.set_ _ _, World.cell?_setCell_same _ _ _ h3, Cells.none_ _ _ _ _⟩
  · exact ⟨Ak, nk, ck, e, by simpa [World.setCell] using h1, h2.set_ _ _, by rw [World.cell?_setCell_other _ _ _ _ (fun e => hz (by injection e))]; exact h3, h4.far _ _ hg⟩
end
end Go.Proofs.Ytgjphmlmndcaeaa

namespace Go.Proofs.Ytgjphmlmndcaeaa
open Go.RowKit

/-- a copied list, all of it in blocks of P -/
def CopiedIn (w : World) (P : Nat → Prop) (A : Option Addr) (n c : Nat) (l : List Ent) : Prop :=
  ∃ g k77 xs, A = some ⟨g, 0, none⟩ ∧ c = n + 1 ∧ Hid (n = l.length) ∧ n ≤ 1152921504606 ∧ P g ∧ Blk w g 43 (xs ++ [.slice (some ⟨k77, 0, none⟩) 1 1, .slice none 0 0]).toArray ∧ xs.length = n * 2 ∧ Marked w (fun b => P b ∧ b ≠ g) n l xs ∧ P k77 ∧ k77 ≠ g ∧ Blk w k77 5 #[.int .u8 77]
theorem Marked.lt {w : World} {F : Nat → Prop} {k : Nat} {l : List Ent} {xs : List Value} (h : Marked w F k l xs) : Marked w (fun b => F b ∧ b < w.heap.size) k l xs := fun i e hi he => let ⟨u, v, a, b, c, d⟩ := h i e hi he; ⟨u, v, a, b, c.lt, d.lt⟩
theorem Copied.in_ {w : World} {B n c : Nat} {A : Option Addr} {l : List Ent} (h : Copied w B A n c l) : CopiedIn w (fun b => B ≤ b ∧ b < w.heap.size) A n c l := by
  obtain ⟨g, k77, xs, h0, h00, hn, hn2, hB, hb, hl, hm, h1, h2, h3⟩ := h
  exact ⟨g, k77, xs, h0, h00, hn, hn2, ⟨hB, hb.lt⟩, hb, hl, hm.lt.weak (fun b hb => ⟨⟨hb.1.1, hb.2⟩, hb.1.2⟩), ⟨h1, h3.lt⟩, h2, h3⟩
theorem CopiedIn.chg {S P : Nat → Prop} {w w' : World} {n c : Nat} {A : Option Addr} {l : List Ent} (h : CopiedIn w P A n c l) (hc : Chg S w w') (hs : ∀ b, P b → ¬ S b) : CopiedIn w' P A n c l := by
  obtain ⟨g, k77, xs, h0, h00, hn, hn2, hB, hb, hl, hm, h1, h2, h3⟩ := h
  exact ⟨g, k77, xs, h0, h00, hn, hn2, hB, hb.chg hc (hs _ hB), hl, hm.chg hc (fun b hb => hs b hb.1), h1, h2, h3.chg hc (hs _ h1)⟩
theorem CopiedIn.below {P : Nat → Prop} {w w' : World} {n c : Nat} {A : Option Addr} {l : List Ent} (h : CopiedIn w P A n c l) (hb : Below w.heap.size w w') : CopiedIn w' P A n c l := h.chg (S := Nil) (Chg.of_below hb) (fun _ _ h => h)
/-- the entries of a row at block g, from number k on: slices of bytes in blocks of F -/
def Spoils (w : World) (F : Nat → Prop) (g k n : Nat) : Prop :=
  g < w.heap.size ∧ SoftAt w g ∧ (∀ j, j < n * 2 → ∃ v, w.cell? ⟨g, j, none⟩ = some v) ∧ ∀ j, k ≤ j → j < n → ∃ Ak nk ck Av nv cv, w.cell? ⟨g, j * 2, none⟩ = some (.slice Ak nk ck) ∧ w.cell? ⟨g, j * 2 + 1, none⟩ = some (.slice Av nv cv) ∧ nk ≤ ck ∧ nv ≤ cv ∧ Cells w F IsU8 Ak ck ∧ Cells w F IsU8 Av cv
section
variable {F : Nat → Prop} {w : World} {g k n : Nat}
theorem Spoils.put (h : Spoils w F g k n) (p : Addr) {v : Value} (hv : IsU8 v) (hp : p.block ≠ g) : Spoils (w.setCell p v) F g k n := by
  obtain ⟨h1, h2, h0, h3⟩ := h
  refine ⟨by simpa [World.setCell] using h1, h2.set_ _ _, fun j hj => ?_, fun j hk hj => ?_⟩
  · obtain ⟨u, hu⟩ := h0 j hj
    exact ⟨u, by rw [World.cell?_setCell_other _ _ _ _ (fun e => hp (by rw [e]))]; exact hu⟩
  obtain ⟨Ak, nk, ck, Av, nv, cv, c1, c2, l1, l2, q1, q2⟩ := h3 j hk hj
  exact ⟨Ak, nk, ck, Av, nv, cv, by rw [World.cell?_setCell_other _ _ _ _ (fun e => hp (by rw [e]))]; exact c1, by rw [World.cell?_setCell_other _ _ _ _ (fun e => hp (by rw [e]))]; exact c2, l1, l2, q1.put p hv, q2.put p hv⟩
/-- one of them is emptied -/
theorem Spoils.clear (h : Spoils w F g k n) (hg : ¬ F g) (u v : Value) : Spoils ((w.setCell ⟨g, k * 2, none⟩ u).setCell ⟨g, k * 2 + 1, none⟩ v) F g (k + 1) n := by
  obtain ⟨h1, h2, h0, h3⟩ := h
  refine ⟨by simpa [World.setCell] using h1, (h2.set_ _ _).set_ _ _, fun j hj => ?_, fun j hk hj => ?_⟩
  · obtain ⟨x, hx⟩ := h0 j hj
    by_cases e1 : j = k * 2 + 1
    · subst e1
      exact ⟨v, World.cell?_setCell_same _ _ _ (u := x) (by rw [World.cell?_setCell_other _ _ _ _ (fun e => by injection e with e; omega)]; exact hx)⟩
    · rw [World.cell?_setCell_other _ _ _ _ (fun e => e1 (by injection e with e e'; exact e'.symm))]
      by_cases e2 : j = k * 2
      · subst e2; exact ⟨u, World.cell?_setCell_same _ _ _ hx⟩
      · exact ⟨x, by rw [World.cell?_setCell_other _ _ _ _ (fun e => e2 (by injection e with e e'; exact e'.symm))]; exact hx⟩
  obtain ⟨Ak, nk, ck, Av, nv, cv, c1, c2, l1, l2, q1, q2⟩ := h3 j (by omega) hj
  refine ⟨Ak, nk, ck, Av, nv, cv, ?_, ?_, l1, l2, (q1.far _ _ hg).far _ _ hg, (q2.far _ _ hg).far _ _ hg⟩
  · rw [World.cell?_setCell_other _ _ _ _ (fun e => by injection e with e e'; omega), World.cell?_setCell_other _ _ _ _ (fun e => by injection e with e e'; omega)]; exact c1
  · rw [World.cell?_setCell_other _ _ _ _ (fun e => by injection e with e e'; omega), World.cell?_setCell_other _ _ _ _ (fun e => by injection e with e e'; omega)]; exact c2
theorem mk_u8 {v : Value} {bs : List UInt8} (h : MK w F v bs) : ∃ A n c, v = .slice A n c ∧ n ≤ c ∧ Cells w F IsU8 A c := by
  obtain ⟨k, rfl, h1, h2, h3, h4, _, h5⟩ := mk_cells h
  exact ⟨_, _, _, rfl, by omega, h4, fun j hj => let ⟨x, hx⟩ := h5 j hj; ⟨k, 0, _, rfl, h1, h2, h3, by rw [Nat.zero_add]; exact hx, x, rfl⟩⟩
theorem CopiedIn.spoils {P : Nat → Prop} {n c : Nat} {A : Option Addr} {l : List Ent} (h : CopiedIn w P A n c l) : ∃ g, A = some ⟨g, 0, none⟩ ∧ c = n + 1 ∧ n ≤ 1152921504606 ∧ P g ∧ Spoils w (fun b => P b ∧ b ≠ g) g 0 (n + 1) := by
  obtain ⟨g, k77, xs, h0, h00, hn, hn2, hB, hb, hl, hm, h1, h2, h3⟩ := h
  refine ⟨g, h0, h00, hn2, hB, hb.lt, hb.soft, fun j hj => ?_, fun j _ hj => ?_⟩
  · rw [hb.cell, List.getElem?_toArray]
    exact ⟨_, List.getElem?_eq_getElem (by rw [List.length_append, hl]; simp; omega)⟩
  · rcases Nat.lt_or_ge j n with hjn | hjn
    · have hkl : j < l.length := by have := hn.out; omega
      obtain ⟨u, v, a, b, p, q⟩ := hm j _ hjn (List.getElem?_eq_getElem hkl)
      obtain ⟨Ak, nk, ck, rfl, l1, q1⟩ := mk_u8 p
      obtain ⟨Av, nv, cv, rfl, l2, q2⟩ := mk_u8 q
      refine ⟨Ak, nk, ck, Av, nv, cv, ?_, ?_, l1, l2, q1, q2⟩
      · rw [hb.cell, List.getElem?_toArray, Nat.mul_comm, List.getElem?_append_left (List.getElem?_eq_some_iff.1 a).1]; exact a
      · rw [hb.cell, List.getElem?_toArray, Nat.mul_comm, List.getElem?_append_left (List.getElem?_eq_some_iff.1 b).1]; exact b
    · obtain rfl : j = n := by omega
      refine ⟨_, _, _, _, _, _, ?_, ?_, Nat.le_refl 1, Nat.le_refl 0, ⟨by simp [maxLen], fun i hi => ⟨k77, 0, .int .u8 77, rfl, ⟨h1, h2⟩, h3.lt, h3.soft, ?_, _, rfl⟩⟩, Cells.none_ _ _ _ none⟩
      · rw [hb.cell, List.getElem?_toArray, List.getElem?_append_right (by omega), show j * 2 - xs.length = 0 by omega]; rfl
      · rw [hb.cell, List.getElem?_toArray, List.getElem?_append_right (by omega), show j * 2 + 1 - xs.length = 1 by omega]; rfl
      · obtain rfl : i = 0 := by omega
        rw [h3.cell]; rfl
end

/-- within one entry -/
def SpoilAt (wz w : World) (P : Nat → Prop) (g k n : Nat) (Ak Av : Option Addr) (nk ck nv cv : Nat) : Prop :=
  Spoils wz (fun b => P b ∧ b ≠ g) g k (n + 1) ∧ wz.cell? ⟨g, k * 2, none⟩ = some (.slice Ak nk ck) ∧ wz.cell? ⟨g, k * 2 + 1, none⟩ = some (.slice Av nv cv) ∧ Cells wz (fun b => P b ∧ b ≠ g) IsU8 Ak ck ∧ Cells wz (fun b => P b ∧ b ≠ g) IsU8 Av cv ∧ Chg P w wz
theorem SpoilAt.put {wz w : World} {P : Nat → Prop} {g k n nk ck nv cv : Nat} {Ak Av : Option Addr} (h : SpoilAt wz w P g k n Ak Av nk ck nv cv) (p : Addr) {v : Value} (hv : IsU8 v) (hp : p.block ≠ g) (hB : P p.block) : SpoilAt (wz.setCell p v) w P g k n Ak Av nk ck nv cv :=
  ⟨h.1.put p hv hp, by rw [World.cell?_setCell_other _ _ _ _ (fun e => hp (by rw [e]))]; exact h.2.1, by rw [World.cell?_setCell_other _ _ _ _ (fun e => hp (by rw [e]))]; exact h.2.2.1, h.2.2.2.1.put p hv, h.2.2.2.2.1.put p hv, h.2.2.2.2.2.setCell (fun _ => hB) _⟩
theorem SpoilAt.drewN {wz w : World} {P : Nat → Prop} {g k n nk ck nv cv : Nat} {Ak Av : Option Addr} (h : SpoilAt wz w P g k n Ak Av nk ck nv cv) (q : Nat) : SpoilAt (wz.drewN q) w P g k n Ak Av nk ck nv cv :=
  ⟨h.1, h.2.1, h.2.2.1, h.2.2.2.1, h.2.2.2.2.1, h.2.2.2.2.2.drewN q⟩

set_option maxRecDepth 100000 in
theorem spoil_in (P : Nat → Prop) (A : Option Addr) (n c : Nat) (l : List Ent) (w : World) (h : CopiedIn w P A n c l) :
    Calls Try.prog 18 #[.slice A n c] w fun e w' => e = .returned (.tuple #[]) ∧ Chg P w w' := by
  obtain ⟨g, rfl, rfl, hn, hB, hs⟩ := h.spoils
  clear h
  have HS := Lib.hid hs
  clear hs
  go_enter Try.func18, Try.ntmps18
  go_wp2
  go_loopg [2] (n + 1) (fun g' i wr => ∃ k : Nat, g' = n + 1 - k ∧ k ≤ n + 1 ∧ i = .int .i64 k ∧ Spoils wr (fun b => P b ∧ b ≠ g) g k (n + 1) ∧ Chg P w wr)
  case atStart => exact ⟨0, by omega, by omega, rfl, HS.out, Chg.refl _ _⟩
  case round =>
    obtain ⟨k, hg, hk, rfl, hsp, hbl⟩ := hrel
    have HG := Lib.hid hg
    have H1 := Lib.hid hsp
    clear hg
    by_cases hlt : k < n + 1
    · obtain ⟨Ak, nk, ck, Av, nv, cv, c1, c2, l1, l2, q1, q2⟩ := hsp.2.2.2 k (Nat.le_refl _) hlt
      have Q1 := Lib.hid q1
      have Q2 := Lib.hid q2
      have b1 := q1.1
      have b2 := q2.1
      simp only [maxLen] at b1 b2
      clear hsp q1 q2
      go_wp2
      go_quiet (fail)
      have R0 := Lib.hid (show SpoilAt wr w P g k n Ak Av nk ck nv cv from ⟨H1.out, c1, c2, Q1.out, Q2.out, hbl⟩)
      clear Q1 Q2 H1 hbl
      go_wp2
      clear c1 c2
      go_loopg [4] ck (fun g' i wz => ∃ y : Nat, g' = ck - y ∧ y ≤ ck ∧ i = .int .i64 y ∧ SpoilAt wz w P g k n Ak Av nk ck nv cv)
      case atStart => exact ⟨0, by omega, by omega, rfl, (R0.out.drewN _)⟩
      case round =>
        obtain ⟨y, hg2, hy, rfl, hr⟩ := hrel
        have HG2 := Lib.hid hg2
        have HR := Lib.hid hr
        clear hg2 R0
        by_cases hly : y < ck
        · obtain ⟨b, o, u, rfl, hF, _, hsf, hcell, x, rfl⟩ := hr.2.2.2.1.2 y hly
          have hf := hsf (o + y)
          clear hsf hr
          go_wp2
          go_roundg (ck - (y + 1))
          case measure => have := HG2.out; omega
          case rel => exact ⟨y + 1, rfl, by omega, by go_num, HR.out.put _ ⟨_, rfl⟩ hF.2 hF.1⟩
        · have c1 := hr.2.1
          have c2 := hr.2.2.1
          clear hr
          go_wp2
          go_quiet (fail)
          go_wp2
          clear c1 c2
          go_loopg [6] cv (fun g' i wz => ∃ y : Nat, g' = cv - y ∧ y ≤ cv ∧ i = .int .i64 y ∧ SpoilAt wz w P g k n Ak Av nk ck nv cv)
          case atStart => exact ⟨0, by omega, by omega, rfl, (HR.out.drewN _)⟩
          case round =>
            obtain ⟨y', hg3, hy', rfl, hr⟩ := hrel
            have HG3 := Lib.hid hg3
            have HR3 := Lib.hid hr
            clear hg3 HR
            by_cases hly' : y' < cv
            · obtain ⟨b, o, u, rfl, hF, _, hsf, hcell, x, rfl⟩ := hr.2.2.2.2.1.2 y' hly'
              have hf := hsf (o + y')
              clear hsf hr
              go_wp2
              go_roundg (cv - (y' + 1))
              case measure => have := HG3.out; omega
              case rel => exact ⟨y' + 1, rfl, by omega, by go_num, HR3.out.put _ ⟨_, rfl⟩ hF.2 hF.1⟩
            · have c1 := hr.2.1
              have c2 := hr.2.2.1
              have f1 := hr.1.2.1 (k * 2)
              have f2 := hr.1.2.1 (k * 2 + 1)
              clear hr
              go_wp2
              go_roundg (n + 1 - (k + 1))
              case measure => have := HG.out; omega
              case rel => exact ⟨k + 1, rfl, by omega, by go_num, HR3.out.1.clear (fun h => h.2 rfl) _ _, (HR3.out.2.2.2.2.2.setCell (p := ⟨g, k * 2, none⟩) (fun _ => hB) _).setCell (p := ⟨g, k * 2 + 1, none⟩) (fun _ => hB) _⟩
    · go_wp2
      go_end0
      exact ⟨rfl, hbl⟩
end Go.Proofs.Ytgjphmlmndcaeaa
