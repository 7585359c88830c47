/- A level being laid: what the maker has, what one holds (pack). WALKS: a node of a level is laid, and told as a kid (pack). WALKS: the entries of a leaf (pack). WALKS: the high of a leaf that another one follows (pack). -/
import Derived.Test.YtgjphmlmndcaeaaPs07
import Derived.Test.YtgjphmlmndcaeaaPs03
import Derived.Test.YtgjphmlmndcaeaaPs05
import Derived.Test.YtgjphmlmndcaeaaPs02
set_option linter.unusedVariables false
set_option linter.unusedSimpArgs false
namespace Go.Proofs.Ytgjphmlmndcaeaa
open Go.RowKit

/-- a row of kids: numbers and highs; the highs' bytes lie elsewhere -/
def KidRow (w : World) (D : Nat → Prop) (base : Nat) (v : Value) (ks : List (Int × List UInt8)) : Prop :=
  ∃ us, w.ownsRow base 139 2 v ks.length us ∧ (∀ g, v.ownBlock = some g → D g) ∧ ∀ (i : Nat) (k : Int × List UInt8), ks[i]? = some k → us[2 * i]? = some (.int .i64 k.1) ∧ ∃ u, us[2 * i + 1]? = some u ∧ SB w (fun b => D b ∧ v.ownBlock ≠ some b) u k.2
theorem own_off_next {w w' : World} {F : Nat → Prop} {mm base size n : Nat} {e : TypeId} {v : Value} {xs : List Value} (h : w.ownsRow base e size v n xs) (hb : ∀ g, v.ownBlock = some g → Off F mm g) (hc : Chg (fun b => F b ∨ b = mm) w w') :
    w'.ownsRow base e size v n xs ∧ ∀ g, v.ownBlock = some g → Off (Grown F w w') mm g :=
  ⟨own_chg h hc (fun g hg h => h.elim (hb g hg).1 (hb g hg).2), fun g hg => off_next (own_lt h g hg).2 (hb g hg)⟩
/-- what neither the arena nor the maker nor the row has -/
def Rest (F : Nat → Prop) (mm : Nat) (o : Value) : Nat → Prop := fun b => Off F mm b ∧ o.ownBlock ≠ some b
section
variable {S D G F : Nat → Prop} {w w' : World} {base mm : Nat} {v : Value} {ks : List (Int × List UInt8)}
theorem KidRow.chg (h : KidRow w D base v ks) (hc : Chg S w w') (hs : ∀ b, D b → ¬ S b) : KidRow w' D base v ks :=
  let ⟨us, h1, h2, h3⟩ := h; ⟨us, own_chg h1 hc (fun g hg => hs g (h2 g hg)), h2, fun i k hk => let ⟨a, u, b, c⟩ := h3 i k hk; ⟨a, u, b, c.chg hc (fun b hb => hs b hb.1)⟩⟩
theorem KidRow.below (h : KidRow w D base v ks) (hb : Below w.heap.size w w') : KidRow w' D base v ks := h.chg (S := Nil) (Chg.of_below hb) (fun _ _ hf => hf)
theorem KidRow.weak (h : KidRow w D base v ks) (hD : ∀ b, D b → G b) : KidRow w G base v ks :=
  let ⟨us, h1, h2, h3⟩ := h; ⟨us, h1, fun g hg => hD g (h2 g hg), fun i k hk => let ⟨a, u, b, c⟩ := h3 i k hk; ⟨a, u, b, c.weak (fun b hb => ⟨hD b hb.1, hb.2⟩)⟩⟩
theorem KidRow.off_next (h : KidRow w (Off F mm) base v ks) (hc : Chg (fun b => F b ∨ b = mm) w w') : KidRow w' (Off (Grown F w w') mm) base v ks :=
  let ⟨us, h1, h2, h3⟩ := h; ⟨us, (own_off_next h1 h2 hc).1, (own_off_next h1 h2 hc).2, fun i k hk => let ⟨a, u, b, c⟩ := h3 i k hk; ⟨a, u, b, (c.lt.chg hc (fun b hb h => h.elim hb.1.1.1 hb.1.1.2)).weak (fun b hb => ⟨Go.Proofs.Ytgjphmlmndcaeaa.off_next hb.2 hb.1.1, hb.1.2⟩)⟩⟩
theorem KidRow.nil (w : World) (D : Nat → Prop) (base : Nat) : KidRow w D base (.slice none 0 0) [] := ⟨[], World.ownsRow_nil _ _ _ _, fun g h => by simp [Value.ownBlock] at h, fun i k hk => by simp at hk⟩
/-- one kid more -/
theorem KidRow.push {D' : Nat → Prop} {w2 : World} {v2 hv : Value} {us : List Value} {id : Int} {high : List UInt8} (h1 : w.ownsRow base 139 2 v ks.length us) (h2 : ∀ g, v.ownBlock = some g → D g)
    (h3 : ∀ (i : Nat) (k : Int × List UInt8), ks[i]? = some k → us[2 * i]? = some (.int .i64 k.1) ∧ ∃ u, us[2 * i + 1]? = some u ∧ SB w (fun b => D b ∧ v.ownBlock ≠ some b) u k.2)
    (ho : w2.ownsRow base 139 2 v2 (ks.length + 1) (us ++ [.int .i64 id, hv])) (hg : w.grownBy w2 v.ownBlock) (hat : v2.ownBlock = v.ownBlock ∨ v2.ownBlock = some w.heap.size)
    (hh : SB w (fun b => D b ∧ v.ownBlock ≠ some b) hv high) (hD : ∀ b, D b → D' b) (hn : D' w.heap.size) : KidRow w2 D' base v2 (ks ++ [(id, high)]) := by
  have hl : us.length = ks.length * 2 := h1.1
  have hc : Chg (fun b => v.ownBlock = some b) w w2 := (Chg.refl _ _).grown hg (fun _ hk _ => hk)
  have up : ∀ b, ((D b ∧ v.ownBlock ≠ some b) ∧ b < w.heap.size) → D' b ∧ v2.ownBlock ≠ some b := fun b hb => ⟨hD b hb.1.1, fun e => hat.elim (fun e' => hb.1.2 (e' ▸ e)) (fun e' => by rw [e'] at e; injection e with e; omega)⟩
  refine ⟨_, by simpa using ho, fun g hg' => hat.elim (fun e => hD g (h2 g (e ▸ hg'))) (fun e => by rw [e] at hg'; injection hg' with hg'; exact hg' ▸ hn), fun i k hk => ?_⟩
  rcases Nat.lt_or_ge i ks.length with hi | hi
  · rw [List.getElem?_append_left hi] at hk
    obtain ⟨a, u, b, c⟩ := h3 i k hk
    exact ⟨by rw [List.getElem?_append_left (by omega)]; exact a, u, by rw [List.getElem?_append_left (by omega)]; exact b, (c.lt.chg hc (fun b hb e => hb.1.2 e)).weak up⟩
  · rw [List.getElem?_append_right hi] at hk
    obtain ⟨hi0, rfl⟩ : i = ks.length ∧ k = (id, high) := by
      have := (List.getElem?_eq_some_iff.1 hk).1
      have hi0 : i = ks.length := by simp at this; omega
      subst hi0
      simp at hk
      exact ⟨rfl, hk.symm⟩
    subst hi0
    refine ⟨by rw [List.getElem?_append_right (by omega), hl, show 2 * ks.length - ks.length * 2 = 0 by omega]; rfl, hv, by rw [List.getElem?_append_right (by omega), hl, show 2 * ks.length + 1 - ks.length * 2 = 1 by omega]; rfl, (hh.lt.chg hc (fun b hb e => hb.1.2 e)).weak up⟩
/-- of the rest, behind a node more -/
theorem rest_next {o o' : Value} {b : Nat} (hb : b < w.heap.size) (h : Rest F mm o b) (hat : o'.ownBlock = o.ownBlock ∨ ∃ x, w.heap.size ≤ x ∧ o'.ownBlock = some x) : Rest (Grown F w w') mm o' b :=
  ⟨Go.Proofs.Ytgjphmlmndcaeaa.off_next hb h.1, fun e => hat.elim (fun e' => h.2 (e' ▸ e)) (fun ⟨x, hx, e'⟩ => by rw [e'] at e; injection e with e; omega)⟩
end

/-- the parts that one holds -/
structure Hold (w : World) (D : Nat → Prop) (base : Nat) (t : TypeId) (gv : Value) (vs : List Value) (fill K m : Nat) (vals : List Value) (A : Option Addr) (c : Nat) : Prop where
  own : w.ownsRow base t 1 gv (K + 1) (vals ++ [.slice A m c])
  blk : ∀ g, gv.ownBlock = some g → D g
  len : vals.length = K
  parts : Parts w D vs fill K vals
  last : Rd w D 2 A m (vs.drop (K * fill * 2))
  mc : m ≤ c
  cm : c ≤ maxLen
section
variable {S D G F : Nat → Prop} {w w' : World} {base mm fill K m c : Nat} {t : TypeId} {gv : Value} {vs vals : List Value} {A : Option Addr}
theorem Hold.chg (h : Hold w D base t gv vs fill K m vals A c) (hc : Chg S w w') (hs : ∀ b, D b → ¬ S b) : Hold w' D base t gv vs fill K m vals A c :=
  ⟨own_chg h.own hc (fun g hg => hs g (h.blk g hg)), h.blk, h.len, h.parts.chg hc hs, h.last.chg hc hs, h.mc, h.cm⟩
theorem Hold.below (h : Hold w D base t gv vs fill K m vals A c) (hb : Below w.heap.size w w') : Hold w' D base t gv vs fill K m vals A c := h.chg (S := Nil) (Chg.of_below hb) (fun _ _ hf => hf)
theorem Hold.off_next (h : Hold w (Off F mm) base t gv vs fill K m vals A c) (hc : Chg (fun b => F b ∨ b = mm) w w') : Hold w' (Off (Grown F w w') mm) base t gv vs fill K m vals A c :=
  ⟨(own_off_next h.own h.blk hc).1, (own_off_next h.own h.blk hc).2, h.len, fun i hi => let ⟨B, d, a, b, e, f⟩ := h.parts i hi; ⟨B, d, a, b, e, f.off_next (by omega) hc⟩, h.last.off_next (by omega) hc, h.mc, h.cm⟩
/-- one part -/
theorem Hold.at_ (h : Hold w D base t gv vs fill K m vals A c) {i : Nat} (hi : i < K + 1) : ∃ r cp B mi d, gv = .slice (some ⟨r, 0, none⟩) (K + 1) cp ∧ r < w.heap.size ∧ D r ∧ mi = (if i < K then fill else m) ∧ w.cell? ⟨r, i, none⟩ = some (.slice B mi d) ∧ mi ≤ d ∧ d ≤ maxLen ∧ Rd w D 2 B mi ((vs.drop (i * fill * 2)).take (mi * 2)) := by
  obtain ⟨r, cp, hv, hbr, hlt⟩ := h.own.form (by omega)
  have hcell : ∀ j u, (vals ++ [.slice A m c])[j]? = some u → w.cell? ⟨r, j, none⟩ = some u := fun j u hu => by have := h.own.cells (g := r) (by rw [hv]; rfl) j u hu; rw [add_eq, Nat.zero_add] at this; exact this
  have hD := h.blk r (by rw [hv]; rfl)
  have hlt' := (own_lt h.own r (by rw [hv]; rfl)).2
  rcases Nat.lt_or_ge i K with hk | hk
  · obtain ⟨B, d, q1, q2, q3, q4⟩ := h.parts i hk
    refine ⟨r, cp, B, fill, d, hv, hlt', hD, by rw [if_pos hk], hcell i _ (by rw [List.getElem?_append_left (List.getElem?_eq_some_iff.1 q1).1]; exact q1), q2, q3, q4⟩
  · obtain rfl : i = K := by omega
    refine ⟨r, cp, A, m, c, hv, hlt', hD, by rw [if_neg (by omega)], hcell i _ (by rw [List.getElem?_append_right (by have := h.len; omega), h.len]; simp), h.mc, h.cm, ?_⟩
    have hl := h.last.1
    rw [List.take_of_length_le (by omega)]
    exact h.last
end

/-- so many nodes of a level have been laid -/
structure Lv (w wr : World) (F F' : Nat → Prop) (p mm : Nat) (nodes root : Int) (done0 : List Slt) (f : Nat → Slt) (hi : Nat → List UInt8) (k : Nat) (out : Value) : Prop where
  st : MakerSt wr F' p mm nodes root (done0 ++ (List.range k).map f)
  row : KidRow wr (Off F' mm) w.heap.size out ((List.range k).map fun (i : Nat) => ((done0.length : Int) + (i : Int) + 1, hi i))
  chg : Chg (fun b => F b ∨ b = mm) w wr
  sub : ∀ b, F' b → F b ∨ w.heap.size ≤ b

/-- entries of a part -/
theorem ents_part {w : World} {D : Nat → Prop} {vs : List Value} {l : List Ent} {A : Option Addr} {s m : Nat} (hr : Rd w D 2 A m ((vs.drop (s * 2)).take (m * 2))) (hm : s + m ≤ l.length)
    (ht : ∀ (i : Nat) (e : Ent), l[i]? = some e → ∃ u v, vs[2 * i]? = some u ∧ vs[2 * i + 1]? = some v ∧ SB w D u e.1 ∧ SB w D v e.2) : Ents w D A m ((l.drop s).take m) := by
  refine ⟨Lib.hid (by rw [List.length_take, List.length_drop]; omega), _, hr, fun i e he => ?_⟩
  have hi : i < m := by
    rcases Nat.lt_or_ge i m with h | h
    · exact h
    · rw [List.getElem?_eq_none (by simp; omega)] at he; cases he
  rw [List.getElem?_take, if_pos hi, List.getElem?_drop] at he
  obtain ⟨u, v, a, b, c, d⟩ := ht _ e he
  refine ⟨u, v, ?_, ?_, c, d⟩
  · rw [List.getElem?_take, if_pos (by omega), List.getElem?_drop, show s * 2 + 2 * i = 2 * (s + i) by omega]; exact a
  · rw [List.getElem?_take, if_pos (by omega), List.getElem?_drop, show s * 2 + (2 * i + 1) = 2 * (s + i) + 1 by omega]; exact b
end Go.Proofs.Ytgjphmlmndcaeaa

namespace Go.Proofs.Ytgjphmlmndcaeaa
open Go.RowKit

theorem kid_info : (Try.prog.info? 139).map (fun i => (i.zero, i.size, i.bytes)) = some (some (.agg #[.int .i64 0, .slice none 0 0]), 2, 32) := by kernel_rfl
theorem Rd.two (w : World) (u v : Value) (t : TypeId) : Rd (w.alloc (.cells #[u, v] t)) (From w.heap.size) 2 (some ⟨w.heap.size, 0, none⟩) 1 [u, v] :=
  ⟨rfl, fun _ => ⟨w.heap.size, 0, rfl, Nat.le_refl _, fun j x hj => by
    rw [(Blk.new w t #[u, v]).cell]
    match j, hj with
    | 0, hj => simpa using hj
    | 1, hj => simpa using hj⟩⟩
/-- the six cells of a node -/
def Six (q : Nat) (lev : Int) (hA : Option Addr) (hn hc : Nat) (right : Int) (kA : Option Addr) (kn kc : Nat) (vA : Option Addr) (vn vc : Nat) (dA : Option Addr) (dn dc : Nat) (w : World) : Prop :=
  w.cell? ⟨q, 0, none⟩ = some (.int .i64 lev) ∧ w.cell? ⟨q, 1, none⟩ = some (.slice hA hn hc) ∧ w.cell? ⟨q, 2, none⟩ = some (.int .i64 right) ∧ w.cell? ⟨q, 3, none⟩ = some (.slice kA kn kc) ∧ w.cell? ⟨q, 4, none⟩ = some (.slice vA vn vc) ∧ w.cell? ⟨q, 5, none⟩ = some (.slice dA dn dc)
theorem Six.chg {S : Nat → Prop} {w w' : World} {q : Nat} {lev right : Int} {hA kA vA dA : Option Addr} {hn hc kn kc vn vc dn dc : Nat} (h : Six q lev hA hn hc right kA kn kc vA vn vc dA dn dc w) (hc' : Chg S w w') (hs : ¬ S q) : Six q lev hA hn hc right kA kn kc vA vn vc dA dn dc w' :=
  ⟨hc'.cell hs h.1, hc'.cell hs h.2.1, hc'.cell hs h.2.2.1, hc'.cell hs h.2.2.2.1, hc'.cell hs h.2.2.2.2.1, hc'.cell hs h.2.2.2.2.2⟩

/-- what is there when the node has been told -/
structure Put (w w' : World) (F : Nat → Prop) (p mm : Nat) (nodes root : Int) (done' : List Slt) (base : Nat) (o o' : Value) (ks' : List (Int × List UInt8)) : Prop where
  st : ∃ F', MakerSt w' F' p mm nodes root done' ∧ (∀ b, F' b → F b ∨ w.heap.size ≤ b) ∧ KidRow w' (Off F' mm) base o' ks' ∧ ∀ b, b < w.heap.size → Rest F mm o b → Rest F' mm o' b
  chg : Chg (fun b => (F b ∨ b = mm) ∨ o.ownBlock = some b) w w'

noncomputable def leafpC : Code := codeOr (Try.f61.body.bind (regionAt 16))
set_option maxRecDepth 100000 in
set_option maxHeartbeats 4000000 in
theorem leafp (F : Nat → Prop) (p mm : Nat) (nodes root : Int) (done : List Slt) (nd : Nd) (hA kA vA dA : Option Addr) (hn hc kn kc vn vc dn dc : Nat) (more : Bool) (q : Nat) (w : World) (base : Nat) (o : Value) (ks : List (Int × List UInt8)) {u1 u2 u3 u4 u5 u6 u8 u9 u10 u12 u13 u15 u16 u17 u18 u19 u20 u21 u22 u23 u24 u25 u26 u27 u28 u29 u30 u31 u32 u33 u34 u35 u36 u37 u38 u39 u40 u41 u42 u43 u44 u45 u46 u47 u48 u49 u50 u51 u52 u53 u54 u55 u56 u57 u58 u59 u60 u61 u62 u63 u64 u65 u66 u67 u68 u69 u70 u71 u72 u73 u74 u75 u76 u77 u78 u79 u80 u81 u82 u83 u84 u85 u86 u87 u88 u89 : Value} (Q : Exit → Act → World → Prop) (HQP : Hid (∀ c t (a : Act) w, Q (.panic c) ⟨t, a.defers⟩ w → Q (.panic c) a w))
    (hst : MakerSt w F p mm nodes root done) (hf : (done.length : Int) < nodes) (hn1 : nodes ≤ 65536) (hks : ks.length ≤ 65536) (hbase : base ≤ w.heap.size)
    (hq : Blk w q 93 #[.int .i64 nd.lev, .slice hA hn hc, .int .i64 nd.right, .slice kA kn kc, .slice vA vn vc, .slice dA dn dc]) (hqF : Rest F mm o q)
    (h1 : Bt w (Rest F mm o) hA hn hc nd.high) (h2 : Tx w (Off F mm) kA kn kc nd.keys) (h3 : Tx w (Off F mm) vA vn vc nd.vals) (h4 : It w (Off F mm) dA dn dc nd.kids) (hs : Small nd)
    (hrow : KidRow w (Off F mm) base o ks)
    (hexit : ∀ (v77 v78 v79 v80 v81 v82 v83 v84 v85 v86 v87 : Value) (o' : Value) (w' : World), Put w w' F p mm nodes root (done ++ [(2, ⟨nd.lev, nd.high, if more then (done.length : Int) + 1 + 1 else nd.right, nd.keys, nd.vals, nd.kids⟩)]) base o o' (ks ++ [((done.length : Int) + 1, nd.high)]) → Q .normal ⟨(.pointer (some ⟨mm, 0, none⟩) :: u1 :: u2 :: u3 :: u4 :: u5 :: u6 :: o' :: u8 :: u9 :: u10 :: .pointer (some ⟨q, 0, none⟩) :: u12 :: u13 :: .bool more :: u15 :: u16 :: u17 :: u18 :: u19 :: u20 :: u21 :: u22 :: u23 :: u24 :: u25 :: u26 :: u27 :: u28 :: u29 :: u30 :: u31 :: u32 :: u33 :: u34 :: u35 :: u36 :: u37 :: u38 :: u39 :: u40 :: u41 :: u42 :: u43 :: u44 :: u45 :: u46 :: u47 :: u48 :: u49 :: u50 :: u51 :: u52 :: u53 :: u54 :: u55 :: u56 :: u57 :: u58 :: u59 :: u60 :: u61 :: u62 :: u63 :: u64 :: u65 :: u66 :: u67 :: u68 :: u69 :: u70 :: u71 :: u72 :: u73 :: u74 :: u75 :: u76 :: v77 :: v78 :: v79 :: v80 :: v81 :: v82 :: v83 :: v84 :: v85 :: v86 :: v87 :: u88 :: u89 :: []).toArray, []⟩ w') :
    Code.wp Try.prog leafpC Q ⟨(.pointer (some ⟨mm, 0, none⟩) :: u1 :: u2 :: u3 :: u4 :: u5 :: u6 :: o :: u8 :: u9 :: u10 :: .pointer (some ⟨q, 0, none⟩) :: u12 :: u13 :: .bool more :: u15 :: u16 :: u17 :: u18 :: u19 :: u20 :: u21 :: u22 :: u23 :: u24 :: u25 :: u26 :: u27 :: u28 :: u29 :: u30 :: u31 :: u32 :: u33 :: u34 :: u35 :: u36 :: u37 :: u38 :: u39 :: u40 :: u41 :: u42 :: u43 :: u44 :: u45 :: u46 :: u47 :: u48 :: u49 :: u50 :: u51 :: u52 :: u53 :: u54 :: u55 :: u56 :: u57 :: u58 :: u59 :: u60 :: u61 :: u62 :: u63 :: u64 :: u65 :: u66 :: u67 :: u68 :: u69 :: u70 :: u71 :: u72 :: u73 :: u74 :: u75 :: u76 :: u77 :: u78 :: u79 :: u80 :: u81 :: u82 :: u83 :: u84 :: u85 :: u86 :: u87 :: u88 :: u89 :: []).toArray, []⟩ w := by
  obtain ⟨i0, hi0, iz0, iz1, iz2⟩ := info_parts kid_info
  have S0 : Six q nd.lev hA hn hc nd.right kA kn kc vA vn vc dA dn dc w.drew := ⟨by rw [hq.drew.cell]; rfl, by rw [hq.drew.cell]; rfl, by rw [hq.drew.cell]; rfl, by rw [hq.drew.cell]; rfl, by rw [hq.drew.cell]; rfl, by rw [hq.drew.cell]; rfl⟩
  have HQ := Lib.hid hqF
  have ql := hq.lt
  have HEX := Lib.hid hexit
  have HST := Lib.hid (hst.below (Below.refl _ _).drew)
  have H1 := Lib.hid h1
  have H2 := Lib.hid (h2.below (Below.refl _ _).drew)
  have H3 := Lib.hid (h3.below (Below.refl _ _).drew)
  have H4 := Lib.hid (h4.below (Below.refl _ _).drew)
  have HS := Lib.hid hs
  have HR := Lib.hid (hrow.below (Below.refl _ _).drew)
  have HK := Lib.hid hks
  have HB := Lib.hid hbase
  have HFL := Lib.hid hst.2.1
  have hml := hst.2.2.1
  have HOB : Hid (∀ g, o.ownBlock = some g → Off F mm g ∧ g < w.heap.size) := Lib.hid (by obtain ⟨us, a, b, _⟩ := hrow; exact fun g hg => ⟨b g hg, (own_lt a g hg).2⟩)
  clear hq hqF hexit hst h1 h2 h3 h4 hs hrow hks hbase
  conv => arg 2; whnf
  refine wp_region_V (Six q nd.lev hA hn hc nd.right kA kn kc vA vn vc dA dn dc) (by kernel_rfl) ?_
  refine wpV_take (i := 0) (v := ?_) rfl (by kernel_rfl) (by kernel_rfl) (by kernel_rfl) (by first | exact fun _ _ _ h => h | exact fun c a w h => HQP.out c _ a w h) S0 (Or.inl ⟨by kernel_rfl, ?_⟩) ?_
  rotate_left
  · intro w hSw
    go_simp
    try with_reducible rfl
  try simp only [Act.put, List.setIfInBounds_toArray, List.set_cons_zero, List.set_cons_succ]
  refine wpV_take (i := 1) (v := ?_) rfl (by kernel_rfl) (by kernel_rfl) (by kernel_rfl) (by first | exact fun _ _ _ h => h | exact fun c a w h => HQP.out c _ a w h) S0 (Or.inl ⟨by kernel_rfl, ?_⟩) ?_
  rotate_left
  · intro w hSw
    go_simp
    try with_reducible rfl
  try simp only [Act.put, List.setIfInBounds_toArray, List.set_cons_zero, List.set_cons_succ]
  refine wpV_take (i := 3) (v := ?_) rfl (by kernel_rfl) (by kernel_rfl) (by kernel_rfl) (by first | exact fun _ _ _ h => h | exact fun c a w h => HQP.out c _ a w h) S0 (Or.inl ⟨by kernel_rfl, ?_⟩) ?_
  rotate_left
  · intro w hSw
    go_simp
    try with_reducible rfl
  try simp only [Act.put, List.setIfInBounds_toArray, List.set_cons_zero, List.set_cons_succ]
  refine wpV_take (i := 5) (v := ?_) rfl (by kernel_rfl) (by kernel_rfl) (by kernel_rfl) (by first | exact fun _ _ _ h => h | exact fun c a w h => HQP.out c _ a w h) S0 (Or.inl ⟨by kernel_rfl, ?_⟩) ?_
  rotate_left
  · intro w hSw
    go_simp
    try with_reducible rfl
  try simp only [Act.put, List.setIfInBounds_toArray, List.set_cons_zero, List.set_cons_succ]
  refine wpV_take (i := 6) (v := ?_) rfl (by kernel_rfl) (by kernel_rfl) (by kernel_rfl) (by first | exact fun _ _ _ h => h | exact fun c a w h => HQP.out c _ a w h) S0 (Or.inl ⟨by kernel_rfl, ?_⟩) ?_
  rotate_left
  · intro w hSw
    go_simp
    try with_reducible rfl
  try simp only [Act.put, List.setIfInBounds_toArray, List.set_cons_zero, List.set_cons_succ]
  refine wpV_take (i := 2) (v := ?_) rfl (by kernel_rfl) (by kernel_rfl) (by kernel_rfl) (by first | exact fun _ _ _ h => h | exact fun c a w h => HQP.out c _ a w h) S0 (Or.inl ⟨by kernel_rfl, ?_⟩) ?_
  rotate_left
  · intro w hSw
    obtain ⟨s0, s1, s2, s3, s4, s5⟩ := hSw
    go_simp
    try with_reducible rfl
  try simp only [Act.put, List.setIfInBounds_toArray, List.set_cons_zero, List.set_cons_succ]
  refine wpV_take (i := 7) (v := ?_) rfl (by kernel_rfl) (by kernel_rfl) (by kernel_rfl) (by first | exact fun _ _ _ h => h | exact fun c a w h => HQP.out c _ a w h) S0 (Or.inl ⟨by kernel_rfl, ?_⟩) ?_
  rotate_left
  · intro w hSw
    obtain ⟨s0, s1, s2, s3, s4, s5⟩ := hSw
    go_simp
    try with_reducible rfl
  try simp only [Act.put, List.setIfInBounds_toArray, List.set_cons_zero, List.set_cons_succ]
  refine wpV_one (i := 4) (by kernel_rfl) rfl (fun K hK => ?_)
  go_simp
  refine (lay_any more nd hA kA vA dA hn hc kn kc vn vc dn dc HST.out hf hn1 (H1.out.below (Below.refl _ _).drew |>.weak (fun b hb => hb.1)) H2.out H3.out H4.out HS.out).mono ?_; rintro e w1 ⟨rfl, st1, ch1⟩; have S1 := S0.chg ch1 (fun h => h.elim HQ.out.1.1 HQ.out.1.2); have HS1 := Lib.hid st1; have HC1 := Lib.hid ch1; have hz1 : w.heap.size ≤ w1.heap.size := ch1.size; obtain ⟨us, r1, r2, r3⟩ := HR.out.off_next ch1; have HR1 := Lib.hid r1; have HR2 := Lib.hid r2; have HR3 := Lib.hid r3; clear st1 r1 r2 r3 ch1
  refine hK.out _ _ S1 ?_
  clear hK K
  try simp only [Act.put, List.setIfInBounds_toArray, List.set_cons_zero, List.set_cons_succ]
  refine wpV_take (i := 8) (v := ?_) rfl (by kernel_rfl) (by kernel_rfl) (by kernel_rfl) (by first | exact fun _ _ _ h => h | exact fun c a w h => HQP.out c _ a w h) S1 (Or.inl ⟨by kernel_rfl, ?_⟩) ?_
  rotate_left
  · intro w hSw
    go_simp
    try with_reducible rfl
  try simp only [Act.put, List.setIfInBounds_toArray, List.set_cons_zero, List.set_cons_succ]
  refine wpV_one (i := 9) (by kernel_rfl) rfl (fun K hK => ?_)
  go_simp
  have hb2 : Below w1.heap.size w1 (w1.alloc (.cells #[.int .i64 ((done.length : Int) + 1), .slice hA hn hc] 139)) := (Below.refl _ _).alloc (Nat.le_refl _) _; have S2 := S1.chg (S := Nil) (Chg.of_below hb2) (fun hf => hf)
  refine hK.out _ _ S2 ?_
  clear hK K
  try simp only [Act.put, List.setIfInBounds_toArray, List.set_cons_zero, List.set_cons_succ]
  refine wpV_one (i := 10) (by kernel_rfl) rfl (fun K hK => ?_)
  refine step_append_any _ rfl (.tmp 77) (.tmp 86) _ rfl base 139 i0 _ 2 32 Try.underlying133 hi0 iz0 iz1 iz2 rfl (by omega) o ks.length us rfl (own_below HR1.out hb2) (From w1.heap.size) (some ⟨w1.heap.size, 0, none⟩) 1 1 [.int .i64 ((done.length : Int) + 1), .slice hA hn hc] rfl (Rd.two w1 _ _ _) (by intro u hu; simp at hu; rcases hu with hu | hu <;> subst hu <;> rfl) (by simp only [maxLen]; have := HK.out; omega) (by have := HK.out; omega) (by have := HB.out; simp; omega) ?_; intro v2 w2 hown2 hg2 hat2; have hc2 := (Chg.refl (fun b => o.ownBlock = some b) _).grown hg2 (fun k hk _ => hk); have S3 := S2.chg hc2 (fun e => HQ.out.2 e)
  refine hK.out _ _ S3 ?_
  clear hK K
  try simp only [Act.put, List.setIfInBounds_toArray, List.set_cons_zero, List.set_cons_succ]
  refine wpV_take (i := 11) (v := ?_) rfl (by kernel_rfl) (by kernel_rfl) (by kernel_rfl) (by first | exact fun _ _ _ h => h | exact fun c a w h => HQP.out c _ a w h) S3 (Or.inl ⟨by kernel_rfl, ?_⟩) ?_
  rotate_left
  · intro w hSw
    go_simp
    try with_reducible rfl
  try simp only [Act.put, List.setIfInBounds_toArray, List.set_cons_zero, List.set_cons_succ]
  refine wpV_done (by kernel_rfl) ?_ _
  have hm2 : Off (Grown F w.drew w1) mm (w1.alloc (.cells #[.int .i64 ((done.length : Int) + 1), .slice hA hn hc] 139)).heap.size := ⟨fun h => h.elim (fun h => by have := HFL.out _ h; simp at this; omega) (fun h => by have := h.2; rw [World.size_alloc] at this; omega), by simp; omega⟩
  have hh : SB w1 (fun b => Off (Grown F w.drew w1) mm b ∧ o.ownBlock ≠ some b) (.slice hA hn hc) nd.high := SB.weak ((H1.out.lt.below (Below.refl _ _).drew).chg HC1.out (fun b hb h => h.elim hb.1.1.1 hb.1.1.2)).sb (fun b hb => ⟨off_next (w := w.drew) hb.2 hb.1.1, hb.1.2⟩)
  have hob : ∀ b, Grown F w.drew w1 b → o.ownBlock ≠ some b := fun b hb e => hb.elim (fun h => (HOB.out b e).1.1 h) (fun h => by have h1 : w.heap.size ≤ b := h.1; have := (HOB.out b e).2; omega)
  refine HEX.out _ _ _ _ _ _ _ _ _ _ _ v2 w2 ⟨⟨Grown F w.drew w1, ?_, fun b hb => hb.elim .inl (fun h => .inr h.1), ?_, ?_⟩, ?_⟩
  · exact (HS1.out.below hb2).chg hc2 hob (fun e => (HOB.out mm e).1.2 rfl)
  · exact KidRow.push (own_below HR1.out hb2) HR2.out (fun i k hk => let ⟨a, u, b, c⟩ := HR3.out i k hk; ⟨a, u, b, c.below hb2⟩) hown2 hg2 hat2 (hh.below hb2) (fun _ h => h) hm2
  · exact fun b hb h => rest_next (w := w.drew) hb h (hat2.imp id (fun e => ⟨_, by simp; omega, e⟩))
  · exact (((Chg.refl _ _).drew.trans HC1.out (fun b _ h => .inl h)).then hb2).trans hc2 (fun b _ h => .inr h)
end Go.Proofs.Ytgjphmlmndcaeaa

namespace Go.Proofs.Ytgjphmlmndcaeaa
open Go.RowKit

/-- two rows that are filled side by side from a part's entries -/
structure Rows2 (w : World) (base : Nat) (pxs : List Value) (j i : Nat) (kv vv : Value) (kus vus : List Value) : Prop where
  k : w.ownsRow base 41 1 kv j kus
  v : w.ownsRow base 41 1 vv i vus
  dis : ∀ g, kv.ownBlock = some g → vv.ownBlock ≠ some g
  ku : ∀ a, a < j → kus[a]? = pxs[2 * a]?
  vu : ∀ a, a < i → vus[a]? = pxs[2 * a + 1]?
theorem Rows2.nil (w : World) (base : Nat) (pxs : List Value) : Rows2 w base pxs 0 0 (.slice none 0 0) (.slice none 0 0) [] [] :=
  ⟨World.ownsRow_nil _ _ _ _, World.ownsRow_nil _ _ _ _, fun g h => by simp [Value.ownBlock] at h, fun a ha => absurd ha (by omega), fun a ha => absurd ha (by omega)⟩
theorem row_push {j : Nat} {us : List Value} {ps : List Value} {u : Value} {f : Nat → Nat} (h : ∀ a, a < j → us[a]? = ps[f a]?) (hl : us.length = j) (hu : ps[f j]? = some u) : ∀ a, a < j + 1 → (us ++ [u])[a]? = ps[f a]? := by
  intro a ha
  rcases Nat.lt_or_ge a j with h' | h'
  · rw [List.getElem?_append_left (by omega)]; exact h a h'
  · obtain rfl : a = j := by omega
    rw [List.getElem?_append_right (by omega), hl, hu]; simp
theorem Rows2.below {w w' : World} {base : Nat} {pxs : List Value} {j i : Nat} {kv vv : Value} {kus vus : List Value} (h : Rows2 w base pxs j i kv vv kus vus) (hb : Below w.heap.size w w') : Rows2 w' base pxs j i kv vv kus vus :=
  ⟨own_below h.k hb, own_below h.v hb, h.dis, h.ku, h.vu⟩
theorem Rows2.far {w : World} {base : Nat} {pxs : List Value} {j i : Nat} {kv vv : Value} {kus vus : List Value} (h : Rows2 w base pxs j i kv vv kus vus) {b : Nat} (o : Nat) (u : Value) (hb : b < base) : Rows2 (w.setCell ⟨b, o, none⟩ u) base pxs j i kv vv kus vus :=
  ⟨own_chg h.k (Chg.set1 w b o u) (fun g hg e => by have := (own_lt h.k g hg).1; have e : g = b := e; omega), own_chg h.v (Chg.set1 w b o u) (fun g hg e => by have := (own_lt h.v g hg).1; have e : g = b := e; omega), h.dis, h.ku, h.vu⟩

theorem Chg.of_grown {w w2 : World} {v : Value} (hg : w.grownBy w2 v.ownBlock) : Chg (fun b => v.ownBlock = some b) w w2 := (Chg.refl _ _).grown hg (fun _ hk _ => hk)
theorem Rows2.key {w w2 : World} {base : Nat} {pxs : List Value} {j i : Nat} {kv vv v2 u : Value} {kus vus : List Value} (h : Rows2 w base pxs j i kv vv kus vus) (ho : w2.ownsRow base 41 1 v2 (j + 1) (kus ++ [u])) (hg : w.grownBy w2 kv.ownBlock) (hat : v2.ownBlock = kv.ownBlock ∨ v2.ownBlock = some w.heap.size)
    (hu : pxs[2 * j]? = some u) : Rows2 w2 base pxs (j + 1) i v2 vv (kus ++ [u]) vus :=
  ⟨ho, own_chg h.v (Chg.of_grown hg) (fun g hv hk => h.dis g hk hv), fun g hk hv => hat.elim (fun e => h.dis g (e ▸ hk) hv) (fun e => by rw [e] at hk; injection hk with hk; have := (own_lt h.v g hv).2; omega), row_push (f := fun a => 2 * a) h.ku (by have := h.k.1; omega) hu, h.vu⟩
theorem Rows2.val {w w2 : World} {base : Nat} {pxs : List Value} {j i : Nat} {kv vv v2 u : Value} {kus vus : List Value} (h : Rows2 w base pxs j i kv vv kus vus) (ho : w2.ownsRow base 41 1 v2 (i + 1) (vus ++ [u])) (hg : w.grownBy w2 vv.ownBlock) (hat : v2.ownBlock = vv.ownBlock ∨ v2.ownBlock = some w.heap.size)
    (hu : pxs[2 * i + 1]? = some u) : Rows2 w2 base pxs j (i + 1) kv v2 kus (vus ++ [u]) :=
  ⟨own_chg h.k (Chg.of_grown hg) (fun g hk hv => h.dis g hk hv), ho, fun g hk hv => hat.elim (fun e => h.dis g hk (e ▸ hv)) (fun e => by rw [e] at hv; injection hv with hv; have := (own_lt h.k g hk).2; omega), h.ku, row_push (f := fun a => 2 * a + 1) h.vu (by have := h.v.1; omega) hu⟩

/-- the high of leaf i -/
def hiAt (fill : Nat) (l : List Ent) (i : Nat) : List UInt8 := if (i + 1) * fill < l.length then (betw (l.getD ((i + 1) * fill - 1) ([], [])).1 (l.getD ((i + 1) * fill) ([], [])).1).1 else []
/-- leaf i of M, in its slot -/
def leafS (fill : Nat) (l : List Ent) (M i : Nat) : Slt := (2, ⟨0, hiAt fill l i, if i + 1 < M then (i : Int) + 1 + 1 else 0, ((l.drop (i * fill)).take fill).map Prod.fst, ((l.drop (i * fill)).take fill).map Prod.snd, []⟩)
/-- the texts of all entries -/
def Txs (w : World) (D : Nat → Prop) (vs : List Value) (l : List Ent) : Prop := ∀ (i : Nat) (e : Ent), l[i]? = some e → ∃ u v, vs[2 * i]? = some u ∧ vs[2 * i + 1]? = some v ∧ SB w D u e.1 ∧ SB w D v e.2
theorem Txs.chg {S D : Nat → Prop} {w w' : World} {vs : List Value} {l : List Ent} (h : Txs w D vs l) (hc : Chg S w w') (hs : ∀ b, D b → ¬ S b) : Txs w' D vs l := fun i e he => let ⟨u, v, a, b, c, d⟩ := h i e he; ⟨u, v, a, b, c.chg hc hs, d.chg hc hs⟩
theorem Txs.below {D : Nat → Prop} {w w' : World} {vs : List Value} {l : List Ent} (h : Txs w D vs l) (hb : Below w.heap.size w w') : Txs w' D vs l := h.chg (S := Nil) (Chg.of_below hb) (fun _ _ hf => hf)
theorem Txs.off_next {F : Nat → Prop} {mm : Nat} {w w' : World} {vs : List Value} {l : List Ent} (h : Txs w (Off F mm) vs l) (hc : Chg (fun b => F b ∨ b = mm) w w') : Txs w' (Off (Grown F w w') mm) vs l := fun i e he => let ⟨u, v, a, b, c, d⟩ := h i e he; ⟨u, v, a, b, c.off_next hc, d.off_next hc⟩

theorem part_at {w : World} {D : Nat → Prop} {vs : List Value} {l : List Ent} {B : Option Addr} {s m j : Nat} (hr : Rd w D 2 B m ((vs.drop (s * 2)).take (m * 2))) (ht : Txs w D vs l) (hm : s + m ≤ l.length) (hj : j < m) :
    ∃ b o Ak nk ck Av nv cv, B = some ⟨b, o, none⟩ ∧ D b ∧ ((vs.drop (s * 2)).take (m * 2))[2 * j]? = some (.slice Ak nk ck) ∧ ((vs.drop (s * 2)).take (m * 2))[2 * j + 1]? = some (.slice Av nv cv) ∧ w.cell? ⟨b, o + j * 2, none⟩ = some (.slice Ak nk ck) ∧ w.cell? ⟨b, o + j * 2 + 1, none⟩ = some (.slice Av nv cv) ∧ ∃ e : Ent, l[s + j]? = some e ∧ SB w D (.slice Ak nk ck) e.1 ∧ SB w D (.slice Av nv cv) e.2 := by
  obtain ⟨b, o, u, v, e, hb, e1, e2, c1, c2⟩ := hr.at2 hj
  have hl : s + j < l.length := by omega
  obtain ⟨u', v', a1, a2, s1, s2⟩ := ht (s + j) _ (List.getElem?_eq_getElem hl)
  have q1 := e1
  have q2 := e2
  rw [List.getElem?_take, if_pos (by omega), List.getElem?_drop, show s * 2 + 2 * j = 2 * (s + j) by omega, a1] at q1
  rw [List.getElem?_take, if_pos (by omega), List.getElem?_drop, show s * 2 + (2 * j + 1) = 2 * (s + j) + 1 by omega, a2] at q2
  injection q1 with q1
  injection q2 with q2
  subst q1; subst q2
  obtain ⟨Ak, nk, ck, rfl, t1⟩ := s1
  obtain ⟨Av, nv, cv, rfl, t2⟩ := s2
  rw [Nat.mul_comm 2 j] at c1 c2
  rw [← Nat.add_assoc] at c2
  exact ⟨b, o, Ak, nk, ck, Av, nv, cv, e, hb, e1, e2, c1, c2, _, List.getElem?_eq_getElem hl, ⟨_, _, _, rfl, t1⟩, ⟨_, _, _, rfl, t2⟩⟩

/-- the loop over a part's entries -/
noncomputable def leavesIn : Code := codeOr (Try.f61.body.bind (blockIn 2))
set_option maxRecDepth 100000 in
set_option maxHeartbeats 4000000 in
theorem leaves_in (D : Nat → Prop) (vs : List Value) (l : List Ent) (B : Option Addr) (mi d k fill : Nat) (wq : World) (hb : mi ≤ 1152921504606) (hd : mi ≤ d) {u0 u1 u2 u3 u4 u5 u6 u7 u8 u9 u10 u12 u13 u14 u15 u16 u17 u18 u19 u20 u21 u22 u23 u24 u28 u29 u30 u31 u32 u33 u34 u35 u36 u37 u38 u39 u40 u41 u42 u43 u44 u45 u46 u47 u48 u49 u50 u51 u52 u53 u54 u55 u56 u57 u58 u59 u60 u61 u62 u63 u64 u65 u66 u67 u68 u69 u70 u71 u72 u73 u74 u75 u76 u77 u78 u79 u80 u81 u82 u83 u84 u85 u86 u87 u88 u89 : Value} (Q : Exit → Act → World → Prop)
    (hpr : Rd wq D 2 B mi ((vs.drop (k * fill * 2)).take (mi * 2))) (htx : Txs wq D vs l) (hkm : k * fill + mi ≤ l.length)
    (hexit : ∀ (v13 v28 v29 v30 v31 v32 v33 v34 v35 v36 v37 v38 v39 v40 v41 v42 v43 v44 v45 v46 v47 v48 v49 : Value) (kv vv : Value) (kus vus : List Value) (wz : World), Blk wz wq.heap.size 93 #[.int .i64 0, .slice none 0 0, .int .i64 0, kv, vv, .slice none 0 0] → Rows2 wz (wq.heap.size + 1) ((vs.drop (k * fill * 2)).take (mi * 2)) mi mi kv vv kus vus → Below wq.heap.size wq wz → Q (.exit 2) ⟨(u0 :: u1 :: u2 :: u3 :: u4 :: u5 :: u6 :: u7 :: u8 :: u9 :: u10 :: .pointer (some ⟨wq.heap.size, 0, none⟩) :: u12 :: v13 :: u14 :: u15 :: u16 :: u17 :: u18 :: u19 :: u20 :: u21 :: u22 :: u23 :: u24 :: .slice B mi d :: .int .i64 mi :: .int .i64 mi :: v28 :: v29 :: v30 :: v31 :: v32 :: v33 :: v34 :: v35 :: v36 :: v37 :: v38 :: v39 :: v40 :: v41 :: v42 :: v43 :: v44 :: v45 :: v46 :: v47 :: v48 :: v49 :: u50 :: u51 :: u52 :: u53 :: u54 :: u55 :: u56 :: u57 :: u58 :: u59 :: u60 :: u61 :: u62 :: u63 :: u64 :: u65 :: u66 :: u67 :: u68 :: u69 :: u70 :: u71 :: u72 :: u73 :: u74 :: u75 :: u76 :: u77 :: u78 :: u79 :: u80 :: u81 :: u82 :: u83 :: u84 :: u85 :: u86 :: u87 :: u88 :: u89 :: []).toArray, []⟩ wz) :
    Code.wp Try.prog leavesIn Q ⟨(u0 :: u1 :: u2 :: u3 :: u4 :: u5 :: u6 :: u7 :: u8 :: u9 :: u10 :: .pointer (some ⟨wq.heap.size, 0, none⟩) :: u12 :: u13 :: u14 :: u15 :: u16 :: u17 :: u18 :: u19 :: u20 :: u21 :: u22 :: u23 :: u24 :: .slice B mi d :: .int .i64 mi :: .int .i64 0 :: u28 :: u29 :: u30 :: u31 :: u32 :: u33 :: u34 :: u35 :: u36 :: u37 :: u38 :: u39 :: u40 :: u41 :: u42 :: u43 :: u44 :: u45 :: u46 :: u47 :: u48 :: u49 :: u50 :: u51 :: u52 :: u53 :: u54 :: u55 :: u56 :: u57 :: u58 :: u59 :: u60 :: u61 :: u62 :: u63 :: u64 :: u65 :: u66 :: u67 :: u68 :: u69 :: u70 :: u71 :: u72 :: u73 :: u74 :: u75 :: u76 :: u77 :: u78 :: u79 :: u80 :: u81 :: u82 :: u83 :: u84 :: u85 :: u86 :: u87 :: u88 :: u89 :: []).toArray, []⟩ (wq.alloc (.cells #[.int .i64 0, .slice none 0 0, .int .i64 0, .slice none 0 0, .slice none 0 0, .slice none 0 0] 93)) := by
  obtain ⟨i0, hi0, iz0, iz1, iz2⟩ := info_parts bytes_info
  have HEX := Lib.hid hexit
  have HPR := Lib.hid hpr
  have HTX := Lib.hid htx
  have HKM := Lib.hid hkm
  clear hexit hpr htx hkm
  conv => arg 2; whnf
  go_loopg [27] mi (fun g' i wz => ∃ (j : Nat) (kv vv : Value) (kus vus : List Value), g' = mi - j ∧ j ≤ mi ∧ i = .int .i64 j ∧ Blk wz wq.heap.size 93 #[.int .i64 0, .slice none 0 0, .int .i64 0, kv, vv, .slice none 0 0] ∧ Rows2 wz (wq.heap.size + 1) ((vs.drop (k * fill * 2)).take (mi * 2)) j j kv vv kus vus ∧ Below wq.heap.size wq wz)
  case atStart => exact ⟨0, _, _, [], [], by omega, by omega, rfl, Blk.new _ _ _, Rows2.nil _ _ _, (Below.refl _ _).alloc (Nat.le_refl _) _⟩
  case round =>
    obtain ⟨j, kv, vv, kus, vus, hg2, hj, rfl, hbk, hrw, hbz⟩ := hrel
    have HG2 := Lib.hid hg2
    have HBK := Lib.hid hbk
    have HRW := Lib.hid hrw
    have hzz := hbk.lt
    have x3 := (hbk.cell 3).trans rfl
    have x4 := (hbk.cell 4).trans rfl
    have xf := hbk.frozen
    have HBZ := Lib.hid hbz
    rename World => wr
    clear hg2 hbk hrw
    by_cases hltj : j < mi
    · obtain ⟨b, o, Ak, nk, ck, Av, nv, cv, rfl, hDb, e1, e2, c1', c2', _⟩ := part_at HPR.out HTX.out HKM.out hltj
      have c1 := bkeep hbz c1'
      have c2 := bkeep hbz c2'
      have HE1 := Lib.hid e1
      have HE2 := Lib.hid e2
      clear e1 e2 c1' c2'
      go_wp2_with (first | (at_builtin; go_loud (refine wpList_append_any _ rfl (.tmp 33) (.tmp 36) _ rfl (wq.heap.size + 1) 41 i0 _ 1 24 Try.underlying89 hi0 iz0 iz1 iz2 rfl (by omega) kv j kus rfl (own_below HRW.out.k (((Below.refl _ _).alloc (Nat.le_refl _) _).alloc (by simp) _)) (From (wr.heap.size + 1)) (some ⟨wr.heap.size + 1, 0, none⟩) 1 1 [.slice Ak nk ck] rfl (by have := Rd.one (wr.alloc (.cells #[.slice Ak nk ck, .slice Av nv cv] 43)) (.slice Ak nk ck) 41; simpa using this) (by intro u hu; simp at hu; subst hu; rfl) (by simp only [maxLen]; omega) (by omega) (by simp; omega) ?_; intro v2 w2 hown2 hg2 hat2); obtain ⟨K2, kc2, hv2, _, _⟩ := own_val hown2; subst hv2; have R2 := Lib.hid ((HRW.out.below (((Below.refl _ _).alloc (Nat.le_refl _) _).alloc (by simp) _)).key hown2 hg2 hat2 HE1.out); have C2 := Chg.of_grown hg2; have K2b := Lib.hid (((HBK.out.alloc _).alloc _).chg C2 (fun h => by have := (own_lt HRW.out.k _ h).1; omega)); have E2b := Lib.hid (((Blk.new wr 43 #[.slice Ak nk ck, .slice Av nv cv]).alloc (.cells #[.slice Ak nk ck] 41)).chg C2 (fun h => by have := (own_lt HRW.out.k _ h).2; omega)); have z2 := hg2.size; have y3 : w2.cell? ⟨wq.heap.size, 3, none⟩ = some kv := (K2b.out.cell 3).trans rfl; have y4 : w2.cell? ⟨wq.heap.size, 4, none⟩ = some vv := (K2b.out.cell 4).trans rfl; have yf := K2b.out.frozen; have w1c : w2.cell? ⟨wr.heap.size, 1, none⟩ = some (.slice Av nv cv) := (E2b.out.cell 1).trans rfl; clear hown2 hat2) | (at_builtin; go_loud (refine wpList_append_any _ rfl (.tmp 42) (.tmp 45) _ rfl (wq.heap.size + 1) 41 i0 _ 1 24 Try.underlying89 hi0 iz0 iz1 iz2 rfl (by omega) vv j vus rfl (own_below (R2.out.far 3 (.slice K2 (j + 1) kc2) (by omega)).v ((Below.refl _ _).alloc (Nat.le_refl _) _)) (From w2.heap.size) (some ⟨w2.heap.size, 0, none⟩) 1 1 [.slice Av nv cv] rfl (by have := Rd.one (w2.setCell ⟨wq.heap.size, 3, none⟩ (.slice K2 (j + 1) kc2)) (.slice Av nv cv) 41; simpa using this) (by intro u hu; simp at hu; subst hu; rfl) (by simp only [maxLen]; omega) (by omega) (by simp; simp at z2; omega) ?_; intro v3 w3 hown3 hg3 hat3; obtain ⟨K3, kc3, hv3, _, _⟩ := own_val hown3; subst hv3; have R3 := Lib.hid (((R2.out.far 3 (.slice K2 (j + 1) kc2) (by omega)).below ((Below.refl _ _).alloc (Nat.le_refl _) (.cells #[.slice Av nv cv] 41))).val hown3 hg3 hat3 HE2.out); have C3 := Chg.of_grown hg3; have K3b := Lib.hid (((K2b.out.set_ 3 (.slice K2 (j + 1) kc2)).alloc (.cells #[.slice Av nv cv] 41)).chg C3 (fun h => by have := (own_lt R2.out.v _ h).1; omega)); have z3 := hg3.size; have y34 : w3.cell? ⟨wq.heap.size, 4, none⟩ = some vv := (K3b.out.cell 4).trans rfl; have yf3 := K3b.out.frozen; clear hown3 hat3)))
      have HB3 := Lib.hid (((((hbz.alloc (by omega) (.cells #[.slice Ak nk ck, .slice Av nv cv] 43)).alloc (by simp; omega) (.cells #[.slice Ak nk ck] 41)).grown hg2 (by simp; omega) (fun q hq => by have := (own_lt HRW.out.k q hq).1; omega)).setCell (p := ⟨wq.heap.size, 3, none⟩) (Nat.le_refl _) (.slice K2 (j + 1) kc2)).alloc (by simp at z2 ⊢; omega) (.cells #[.slice Av nv cv] 41) |>.grown hg3 (by simp at z2 ⊢; omega) (fun q hq => by have := (own_lt R2.out.v q hq).1; omega))
      go_roundg (mi - (j + 1))
      case measure => have := HG2.out; omega
      case rel => exact ⟨j + 1, _, _, _, _, rfl, by omega, by go_num, K3b.out.set_ 4 _, R3.out.far 4 _ (by omega), HB3.out.setCell (p := ⟨wq.heap.size, 4, none⟩) (Nat.le_refl _) _⟩
    · obtain rfl : j = mi := by omega
      clear hbz
      go_wp2
      exact HEX.out _ _ _ _ _ _ _ _ _ _ _ _ _ _ _ _ _ _ _ _ _ _ _ _ _ _ _ _ HBK.out HRW.out HBZ.out
end Go.Proofs.Ytgjphmlmndcaeaa

namespace Go.Proofs.Ytgjphmlmndcaeaa
open Go.RowKit
noncomputable def leafH : Code := codeOr (Try.f61.body.bind (regionAt 15))
set_option maxRecDepth 100000 in
set_option maxHeartbeats 4000000 in
theorem leaf_high (r K cp k b o j d q b3 o3 mi2 d2 : Nat) (Ak Bk : Option Addr) (nk nk3 ck ck3 : Nat) (D E : Nat → Prop) (xs ys : List UInt8) (w : World) {u0 u1 u2 u3 u4 u5 u6 u7 u12 u13 u14 u15 u16 u17 u18 u19 u20 u21 u22 u23 u24 u25 u26 u27 u28 u29 u30 u31 u32 u33 u34 u35 u36 u37 u38 u39 u40 u41 u42 u43 u44 u45 u46 u47 u48 u49 u50 u51 u52 u53 u54 u55 u56 u57 u58 u59 u60 u61 u62 u63 u64 u65 u66 u67 u68 u69 u70 u71 u72 u73 u74 u75 u76 u77 u78 u79 u80 u81 u82 u83 u84 u85 u86 u87 u88 u89 : Value} (Q : Exit → Act → World → Prop) (HQP : Hid (∀ c t (a : Act) w, Q (.panic c) ⟨t, a.defers⟩ w → Q (.panic c) a w))
    (hk : k < K) (hK : K ≤ 1152921504606) (hj : 1 ≤ j) (hjm : j ≤ 1152921504606) (hm2 : 0 < mi2)
    (c1 : w.cell? ⟨b, o + (j - 1) * 2, none⟩ = some (.slice Ak nk ck)) (c2 : w.cell? ⟨r, k + 1, none⟩ = some (.slice (some ⟨b3, o3, none⟩) mi2 d2)) (c3 : w.cell? ⟨b3, o3, none⟩ = some (.slice Bk nk3 ck3))
    (HSA : Hid (Bt w D Ak nk ck xs)) (HSB : Hid (Bt w E Bk nk3 ck3 ys)) (lx : xs.length ≤ 1152921504606) (ly : ys.length ≤ 1152921504606)
    (v0 v2 v3 v4 v5 : Value) (HBK : Hid (Blk w q 93 #[v0, .slice none 0 0, v2, v3, v4, v5]))
    (hexit : ∀ (v56 v57 v58 v59 v60 v61 v62 v63 v64 v65 v66 v67 v68 v69 v70 v71 v72 v73 v74 v75 v76 : Value) (K5 : Option Addr) (n5 c5 : Nat) (w5 : World), Bt w5 (From w.heap.size) K5 n5 c5 (betw xs ys).1 → Below w.heap.size w w5 → Q .normal ⟨(u0 :: u1 :: u2 :: u3 :: u4 :: u5 :: u6 :: u7 :: .slice (some ⟨r, 0, none⟩) (K + 1) cp :: .int .i64 k :: .slice (some ⟨b, o, none⟩) j d :: .pointer (some ⟨q, 0, none⟩) :: u12 :: u13 :: u14 :: u15 :: u16 :: u17 :: u18 :: u19 :: u20 :: u21 :: u22 :: u23 :: u24 :: u25 :: u26 :: u27 :: u28 :: u29 :: u30 :: u31 :: u32 :: u33 :: u34 :: u35 :: u36 :: u37 :: u38 :: u39 :: u40 :: u41 :: u42 :: u43 :: u44 :: u45 :: u46 :: u47 :: u48 :: u49 :: u50 :: u51 :: u52 :: u53 :: u54 :: u55 :: v56 :: v57 :: v58 :: v59 :: v60 :: v61 :: v62 :: v63 :: v64 :: v65 :: v66 :: v67 :: v68 :: v69 :: v70 :: v71 :: v72 :: v73 :: v74 :: v75 :: v76 :: u77 :: u78 :: u79 :: u80 :: u81 :: u82 :: u83 :: u84 :: u85 :: u86 :: u87 :: u88 :: u89 :: []).toArray, []⟩ (w5.setCell ⟨q, 1, none⟩ (.slice K5 n5 c5))) :
    Code.wp Try.prog leafH Q ⟨(u0 :: u1 :: u2 :: u3 :: u4 :: u5 :: u6 :: u7 :: .slice (some ⟨r, 0, none⟩) (K + 1) cp :: .int .i64 k :: .slice (some ⟨b, o, none⟩) j d :: .pointer (some ⟨q, 0, none⟩) :: u12 :: u13 :: u14 :: u15 :: u16 :: u17 :: u18 :: u19 :: u20 :: u21 :: u22 :: u23 :: u24 :: u25 :: u26 :: u27 :: u28 :: u29 :: u30 :: u31 :: u32 :: u33 :: u34 :: u35 :: u36 :: u37 :: u38 :: u39 :: u40 :: u41 :: u42 :: u43 :: u44 :: u45 :: u46 :: u47 :: u48 :: u49 :: u50 :: u51 :: u52 :: u53 :: u54 :: u55 :: u56 :: u57 :: u58 :: u59 :: u60 :: u61 :: u62 :: u63 :: u64 :: u65 :: u66 :: u67 :: u68 :: u69 :: u70 :: u71 :: u72 :: u73 :: u74 :: u75 :: u76 :: u77 :: u78 :: u79 :: u80 :: u81 :: u82 :: u83 :: u84 :: u85 :: u86 :: u87 :: u88 :: u89 :: []).toArray, []⟩ w := by
  have HEX := Lib.hid hexit
  have w1 := IntWalk.i64_in ((j : Int) - 1) (by omega)
  have w2 : (0 : Int) ≤ (j : Int) - 1 := by omega
  have w3 : ((j : Int) - 1) < j := by omega
  have w4 : ((j : Int) - 1).toNat = j - 1 := by omega
  have w5 := IntWalk.i64_in ((k : Int) + 1) (by omega)
  have w6 : (0 : Int) ≤ (k : Int) + 1 := by omega
  have w7 : ((k : Int) + 1).toNat = k + 1 := by omega
  have w8 : (1 : Int) ≤ (j : Int) := by omega
  have lna : nk ≤ 1152921504606 := by have := HSA.out.len; omega
  have lnb : nk3 ≤ 1152921504606 := by have := HSB.out.len; omega
  clear hexit lx ly
  conv => arg 2; whnf
  refine wp_region_U (fun w' => w'.cell? ⟨b, o + (j - 1) * 2, none⟩ = some (.slice Ak nk ck) ∧ w'.cell? ⟨r, k + 1, none⟩ = some (.slice (some ⟨b3, o3, none⟩) mi2 d2) ∧ w'.cell? ⟨b3, o3, none⟩ = some (.slice Bk nk3 ck3)) 21 (by kernel_rfl) ?_
  have S0 : w.drew.cell? ⟨b, o + (j - 1) * 2, none⟩ = some (.slice Ak nk ck) ∧ w.drew.cell? ⟨r, k + 1, none⟩ = some (.slice (some ⟨b3, o3, none⟩) mi2 d2) ∧ w.drew.cell? ⟨b3, o3, none⟩ = some (.slice Bk nk3 ck3) := ⟨c1, c2, c3⟩
  refine wpU_free (i := 0) (v := ?_) rfl (by kernel_rfl) (by kernel_rfl) (by kernel_rfl) (by kernel_rfl) (by first | exact fun _ _ _ h => h | exact fun c a w h => HQP.out c _ a w h) (fun _ => S0) (Or.inl ⟨by kernel_rfl, ?_⟩) ?_
  rotate_left
  · intro w hSw
    go_simp
    try with_reducible rfl
  try simp only [Act.put, List.setIfInBounds_toArray, List.set_cons_zero, List.set_cons_succ]
  refine wpU_free (i := 1) (v := ?_) rfl (by kernel_rfl) (by kernel_rfl) (by kernel_rfl) (by kernel_rfl) (by first | exact fun _ _ _ h => h | exact fun c a w h => HQP.out c _ a w h) (fun _ => S0) (Or.inl ⟨by kernel_rfl, ?_⟩) ?_
  rotate_left
  · intro w hSw
    go_simp
    try with_reducible rfl
  try simp only [Act.put, List.setIfInBounds_toArray, List.set_cons_zero, List.set_cons_succ]
  refine wpU_free (i := 2) (v := ?_) rfl (by kernel_rfl) (by kernel_rfl) (by kernel_rfl) (by kernel_rfl) (by first | exact fun _ _ _ h => h | exact fun c a w h => HQP.out c _ a w h) (fun _ => S0) (Or.inl ⟨by kernel_rfl, ?_⟩) ?_
  rotate_left
  · intro w hSw
    go_simp
    try with_reducible rfl
  try simp only [Act.put, List.setIfInBounds_toArray, List.set_cons_zero, List.set_cons_succ]
  refine wpU_free (i := 3) (v := ?_) rfl (by kernel_rfl) (by kernel_rfl) (by kernel_rfl) (by kernel_rfl) (by first | exact fun _ _ _ h => h | exact fun c a w h => HQP.out c _ a w h) (fun _ => S0) (Or.inl ⟨by kernel_rfl, ?_⟩) ?_
  rotate_left
  · intro w hSw
    go_simp
    try with_reducible rfl
  try simp only [Act.put, List.setIfInBounds_toArray, List.set_cons_zero, List.set_cons_succ]
  refine wpU_free (i := 4) (v := ?_) rfl (by kernel_rfl) (by kernel_rfl) (by kernel_rfl) (by kernel_rfl) (by first | exact fun _ _ _ h => h | exact fun c a w h => HQP.out c _ a w h) (fun _ => S0) (Or.inl ⟨by kernel_rfl, ?_⟩) ?_
  rotate_left
  · intro w hSw
    go_simp
    try with_reducible rfl
  try simp only [Act.put, List.setIfInBounds_toArray, List.set_cons_zero, List.set_cons_succ]
  refine wpU_free (i := 5) (v := ?_) rfl (by kernel_rfl) (by kernel_rfl) (by kernel_rfl) (by kernel_rfl) (by first | exact fun _ _ _ h => h | exact fun c a w h => HQP.out c _ a w h) (fun _ => S0) (Or.inl ⟨by kernel_rfl, ?_⟩) ?_
  rotate_left
  · intro w hSw
    go_simp
    try with_reducible rfl
  try simp only [Act.put, List.setIfInBounds_toArray, List.set_cons_zero, List.set_cons_succ]
  refine wpU_free (i := 7) (v := ?_) rfl (by kernel_rfl) (by kernel_rfl) (by kernel_rfl) (by kernel_rfl) (by first | exact fun _ _ _ h => h | exact fun c a w h => HQP.out c _ a w h) (fun _ => S0) (Or.inl ⟨by kernel_rfl, ?_⟩) ?_
  rotate_left
  · intro w hSw
    go_simp
    try with_reducible rfl
  try simp only [Act.put, List.setIfInBounds_toArray, List.set_cons_zero, List.set_cons_succ]
  refine wpU_free (i := 8) (v := ?_) rfl (by kernel_rfl) (by kernel_rfl) (by kernel_rfl) (by kernel_rfl) (by first | exact fun _ _ _ h => h | exact fun c a w h => HQP.out c _ a w h) (fun _ => S0) (Or.inl ⟨by kernel_rfl, ?_⟩) ?_
  rotate_left
  · intro w hSw
    go_simp
    try with_reducible rfl
  try simp only [Act.put, List.setIfInBounds_toArray, List.set_cons_zero, List.set_cons_succ]
  refine wpU_free (i := 9) (v := ?_) rfl (by kernel_rfl) (by kernel_rfl) (by kernel_rfl) (by kernel_rfl) (by first | exact fun _ _ _ h => h | exact fun c a w h => HQP.out c _ a w h) (fun _ => S0) (Or.inl ⟨by kernel_rfl, ?_⟩) ?_
  rotate_left
  · intro w hSw
    go_simp
    try with_reducible rfl
  try simp only [Act.put, List.setIfInBounds_toArray, List.set_cons_zero, List.set_cons_succ]
  refine wpU_free (i := 10) (v := ?_) rfl (by kernel_rfl) (by kernel_rfl) (by kernel_rfl) (by kernel_rfl) (by first | exact fun _ _ _ h => h | exact fun c a w h => HQP.out c _ a w h) (fun _ => S0) (Or.inl ⟨by kernel_rfl, ?_⟩) ?_
  rotate_left
  · intro w hSw
    go_simp
    try with_reducible rfl
  try simp only [Act.put, List.setIfInBounds_toArray, List.set_cons_zero, List.set_cons_succ]
  refine wpU_take (i := 6) (v := ?_) rfl (by kernel_rfl) (by kernel_rfl) (by kernel_rfl) (by kernel_rfl) (by first | exact fun _ _ _ h => h | exact fun c a w h => HQP.out c _ a w h) S0 (Or.inl ⟨by kernel_rfl, ?_⟩) ?_
  rotate_left
  · intro w hSw
    obtain ⟨s0, s1, s2⟩ := hSw
    go_simp
    try with_reducible rfl
  try simp only [Act.put, List.setIfInBounds_toArray, List.set_cons_zero, List.set_cons_succ]
  refine wpU_take (i := 11) (v := ?_) rfl (by kernel_rfl) (by kernel_rfl) (by kernel_rfl) (by kernel_rfl) (by first | exact fun _ _ _ h => h | exact fun c a w h => HQP.out c _ a w h) S0 (Or.inl ⟨by kernel_rfl, ?_⟩) ?_
  rotate_left
  · intro w hSw
    obtain ⟨s0, s1, s2⟩ := hSw
    go_simp
    try with_reducible rfl
  try simp only [Act.put, List.setIfInBounds_toArray, List.set_cons_zero, List.set_cons_succ]
  refine wpU_free (i := 12) (v := ?_) rfl (by kernel_rfl) (by kernel_rfl) (by kernel_rfl) (by kernel_rfl) (by first | exact fun _ _ _ h => h | exact fun c a w h => HQP.out c _ a w h) (fun _ => S0) (Or.inl ⟨by kernel_rfl, ?_⟩) ?_
  rotate_left
  · intro w hSw
    go_simp
    try with_reducible rfl
  try simp only [Act.put, List.setIfInBounds_toArray, List.set_cons_zero, List.set_cons_succ]
  refine wpU_free (i := 13) (v := ?_) rfl (by kernel_rfl) (by kernel_rfl) (by kernel_rfl) (by kernel_rfl) (by first | exact fun _ _ _ h => h | exact fun c a w h => HQP.out c _ a w h) (fun _ => S0) (Or.inl ⟨by kernel_rfl, ?_⟩) ?_
  rotate_left
  · intro w hSw
    go_simp
    try with_reducible rfl
  try simp only [Act.put, List.setIfInBounds_toArray, List.set_cons_zero, List.set_cons_succ]
  refine wpU_take (i := 14) (v := ?_) rfl (by kernel_rfl) (by kernel_rfl) (by kernel_rfl) (by kernel_rfl) (by first | exact fun _ _ _ h => h | exact fun c a w h => HQP.out c _ a w h) S0 (Or.inl ⟨by kernel_rfl, ?_⟩) ?_
  rotate_left
  · intro w hSw
    obtain ⟨s0, s1, s2⟩ := hSw
    go_simp
    try with_reducible rfl
  try simp only [Act.put, List.setIfInBounds_toArray, List.set_cons_zero, List.set_cons_succ]
  refine wpU_one (i := 15) (by kernel_rfl) rfl (fun K hK => ?_)
  go_simp
  refine (between_any2 Ak Bk nk nk3 ck ck3 _ _ xs ys _ HSA.out.2.2.2.drew HSA.out.2.2.1 HSB.out.2.2.2.drew HSB.out.2.2.1 HSB.out.1 lna lnb HSB.out.2.1).mono ?_; rintro e w5 ⟨K5, n5, c5, rfl, p1, p2, p3, p4, hb5⟩; have Q0 := ((HBK.out.drew).below hb5); have q1 : w5.cell? ⟨q, 1, none⟩ = some (.slice none 0 0) := (Q0.cell 1).trans rfl; have qf := Q0.frozen; have S5 : w5.cell? ⟨b, o + (j - 1) * 2, none⟩ = some (.slice Ak nk ck) ∧ w5.cell? ⟨r, k + 1, none⟩ = some (.slice (some ⟨b3, o3, none⟩) mi2 d2) ∧ w5.cell? ⟨b3, o3, none⟩ = some (.slice Bk nk3 ck3) := ⟨bkeep hb5 S0.1, bkeep hb5 S0.2.1, bkeep hb5 S0.2.2⟩
  refine hK.out _ _ (fun _ => S5) ?_
  clear hK K
  try simp only [Act.put, List.setIfInBounds_toArray, List.set_cons_zero, List.set_cons_succ]
  refine wpU_free (i := 16) (v := ?_) rfl (by kernel_rfl) (by kernel_rfl) (by kernel_rfl) (by kernel_rfl) (by first | exact fun _ _ _ h => h | exact fun c a w h => HQP.out c _ a w h) (fun _ => S5) (Or.inl ⟨by kernel_rfl, ?_⟩) ?_
  rotate_left
  · intro w hSw
    go_simp
    try with_reducible rfl
  try simp only [Act.put, List.setIfInBounds_toArray, List.set_cons_zero, List.set_cons_succ]
  refine wpU_free (i := 17) (v := ?_) rfl (by kernel_rfl) (by kernel_rfl) (by kernel_rfl) (by kernel_rfl) (by first | exact fun _ _ _ h => h | exact fun c a w h => HQP.out c _ a w h) (fun _ => S5) (Or.inl ⟨by kernel_rfl, ?_⟩) ?_
  rotate_left
  · intro w hSw
    go_simp
    try with_reducible rfl
  try simp only [Act.put, List.setIfInBounds_toArray, List.set_cons_zero, List.set_cons_succ]
  refine wpU_free (i := 18) (v := ?_) rfl (by kernel_rfl) (by kernel_rfl) (by kernel_rfl) (by kernel_rfl) (by first | exact fun _ _ _ h => h | exact fun c a w h => HQP.out c _ a w h) (fun _ => S5) (Or.inl ⟨by kernel_rfl, ?_⟩) ?_
  rotate_left
  · intro w hSw
    go_simp
    try with_reducible rfl
  try simp only [Act.put, List.setIfInBounds_toArray, List.set_cons_zero, List.set_cons_succ]
  refine wpU_free (i := 19) (v := ?_) rfl (by kernel_rfl) (by kernel_rfl) (by kernel_rfl) (by kernel_rfl) (by first | exact fun _ _ _ h => h | exact fun c a w h => HQP.out c _ a w h) (fun _ => S5) (Or.inl ⟨by kernel_rfl, ?_⟩) ?_
  rotate_left
  · intro w hSw
    go_simp
    try with_reducible rfl
  try simp only [Act.put, List.setIfInBounds_toArray, List.set_cons_zero, List.set_cons_succ]
  refine wpU_free (i := 20) (v := ?_) rfl (by kernel_rfl) (by kernel_rfl) (by kernel_rfl) (by kernel_rfl) (by first | exact fun _ _ _ h => h | exact fun c a w h => HQP.out c _ a w h) (fun _ => S5) (Or.inl ⟨by kernel_rfl, ?_⟩) ?_
  rotate_left
  · intro w hSw
    go_simp
    try with_reducible rfl
  try simp only [Act.put, List.setIfInBounds_toArray, List.set_cons_zero, List.set_cons_succ]
  refine wpU_one (i := 21) (by kernel_rfl) rfl (fun K hK => ?_)
  go_simp
  refine hK.out _ _ (fun h => absurd h (by decide)) ?_
  clear hK K
  try simp only [Act.put, List.setIfInBounds_toArray, List.set_cons_zero, List.set_cons_succ]
  refine wpU_done (by kernel_rfl) ?_ _
  exact HEX.out _ _ _ _ _ _ _ _ _ _ _ _ _ _ _ _ _ _ _ _ _ K5 n5 c5 w5 ⟨p1, p2, p3, p4.weak (fun b hb => hb.1)⟩ ((Below.refl _ _).drew.trans hb5)
end Go.Proofs.Ytgjphmlmndcaeaa
