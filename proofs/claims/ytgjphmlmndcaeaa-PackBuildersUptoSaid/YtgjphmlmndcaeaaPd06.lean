/- A slice of entries that reads as a list of pairs of texts. No program in sight. A level being laid: what the maker has, what one holds (pack). A region that draws its order: a condition that every operation keeps. Over any program. Parts of a function's code, by the number of a block or a region. No program in sight. -/
import Derived.Test.YtgjphmlmndcaeaaPd01
import Derived.Test.YtgjphmlmndcaeaaPd02
import Derived.Test.YtgjphmlmndcaeaaPd05
import Derived.Test.YtgjphmlmndcaeaaPd03
import Derived.RowKit
set_option linter.unusedVariables false
set_option linter.unusedSimpArgs false
namespace Go.Proofs.Ytgjphmlmndcaeaa
open Go.RowKit

/-- l: a list of entries, in the slice of n elements at A; its cells, and its texts, lie in blocks of F -/
def Ents (w : World) (F : Nat → Prop) (A : Option Addr) (n : Nat) (l : List Ent) : Prop :=
  Hid (n = l.length) ∧ ∃ vs, Rd w F 2 A n vs ∧ ∀ (i : Nat) (e : Ent), l[i]? = some e → ∃ u v, vs[2 * i]? = some u ∧ vs[2 * i + 1]? = some v ∧ SB w F u e.1 ∧ SB w F v e.2

section
variable {S F G : Nat → Prop} {w w' : World} {A : Option Addr} {n : Nat} {l : List Ent}
theorem Ents.len (h : Ents w F A n l) : n = l.length := h.1
theorem Ents.nil (w : World) (F : Nat → Prop) (A : Option Addr) : Ents w F A 0 [] := ⟨rfl, [], Rd.none_ _ _ _ _, fun i e h => by simp at h⟩
theorem Ents.weak (h : Ents w F A n l) (hF : ∀ b, F b → G b) : Ents w G A n l :=
  let ⟨h1, vs, h2, h3⟩ := h; ⟨h1, vs, h2.weak hF, fun i e he => let ⟨u, v, a, b, c, d⟩ := h3 i e he; ⟨u, v, a, b, c.weak hF, d.weak hF⟩⟩
theorem Ents.chg (h : Ents w F A n l) (hc : Chg S w w') (hs : ∀ b, F b → ¬ S b) : Ents w' F A n l :=
  let ⟨h1, vs, h2, h3⟩ := h; ⟨h1, vs, h2.chg hc hs, fun i e he => let ⟨u, v, a, b, c, d⟩ := h3 i e he; ⟨u, v, a, b, c.chg hc hs, d.chg hc hs⟩⟩
theorem Ents.below (h : Ents w F A n l) (hb : Below w.heap.size w w') : Ents w' F A n l := h.chg (Chg.of_below (S := Nil) hb) (fun _ _ hf => hf)
/-- one entry: its two cells, and the two texts -/
theorem Ents.at_ {k : Nat} (h : Ents w F A n l) (hk : k < n) : ∃ b o Ak nk ck Av nv cv key val, A = some ⟨b, o, none⟩ ∧ F b ∧ l[k]? = some (key, val) ∧
    w.cell? ⟨b, o + k * 2, none⟩ = some (.slice Ak nk ck) ∧ w.cell? ⟨b, o + k * 2 + 1, none⟩ = some (.slice Av nv cv) ∧
    nk ≤ ck ∧ ck ≤ maxLen ∧ Hid (nk = key.length) ∧ Rd w F 1 Ak nk (bvs key) ∧ nv ≤ cv ∧ cv ≤ maxLen ∧ Hid (nv = val.length) ∧ Rd w F 1 Av nv (bvs val) := by
  obtain ⟨h1, vs, h2, h3⟩ := h
  have hl : k < l.length := by have : n = l.length := h1; omega
  obtain ⟨b, o, u, v, hA, hF, e1, e2, c1, c2⟩ := h2.at2 hk
  obtain ⟨u', v', e1', e2', s1, s2⟩ := h3 k l[k] (List.getElem?_eq_getElem hl)
  rw [e1] at e1'; rw [e2] at e2'
  injection e1' with e1'; injection e2' with e2'
  subst e1'; subst e2'
  obtain ⟨Ak, nk, ck, rfl, k1, k2, k3, k4⟩ := s1
  obtain ⟨Av, nv, cv, rfl, v1, v2, v3, v4⟩ := s2
  rw [Nat.mul_comm 2 k] at c1 c2
  rw [← Nat.add_assoc] at c2
  exact ⟨b, o, Ak, nk, ck, Av, nv, cv, l[k].1, l[k].2, hA, hF, List.getElem?_eq_getElem hl, c1, c2, k1, k2, k3, k4, v1, v2, v3, v4⟩
end
end Go.Proofs.Ytgjphmlmndcaeaa

namespace Go.Proofs.Ytgjphmlmndcaeaa
open Go.RowKit

/-- a row of kids: numbers and highs; the highs' bytes lie elsewhere -/
def KidRow (w : World) (D : Nat → Prop) (base : Nat) (v : Value) (ks : List (Int × List UInt8)) : Prop :=
  ∃ us, w.ownsRow base 139 2 v ks.length us ∧ (∀ g, v.ownBlock = some g → D g) ∧ ∀ (i : Nat) (k : Int × List UInt8), ks[i]? = some k → us[2 * i]? = some (.int .i64 k.1) ∧ ∃ u, us[2 * i + 1]? = some u ∧ SB w (fun b => D b ∧ v.ownBlock ≠ some b) u k.2
theorem own_off_next {w w' : World} {F : Nat → Prop} {mm base size n : Nat} {e : TypeId} {v : Value} {xs : List Value} (h : w.ownsRow base e size v n xs) (hb : ∀ g, v.ownBlock = some g → Off F mm g) (hc : Chg (fun b => F b ∨ b = mm) w w') :
    w'.ownsRow base e size v n xs ∧ ∀ g, v.ownBlock = some g → Off (Grown F w w') mm g :=
  ⟨own_chg h hc (fun g hg h => h.elim (hb g hg).1 (hb g hg).2), fun g hg => off_next (own_lt h g hg).2 (hb g hg)⟩
/-- what neither the arena nor the maker nor the row has -/
def Rest (F : Nat → Prop) (mm : Nat) (o : Value) : Nat → Prop := fun b => Off F mm b ∧ o.ownBlock ≠ some b
section
variable {S D G F : Nat → Prop} {w w' : World} {base mm : Nat} {v : Value} {ks : List (Int × List UInt8)}
theorem KidRow.chg (h : KidRow w D base v ks) (hc : Chg S w w') (hs : ∀ b, D b → ¬ S b) : KidRow w' D base v ks :=
  let ⟨us, h1, h2, h3⟩ := h; ⟨us, own_chg h1 hc (fun g hg => hs g (h2 g hg)), h2, fun i k hk => let ⟨a, u, b, c⟩ := h3 i k hk; ⟨a, u, b, c.chg hc (fun b hb => hs b hb.1)⟩⟩
theorem KidRow.below (h : KidRow w D base v ks) (hb : Below w.heap.size w w') : KidRow w' D base v ks := h.chg (S := Nil) (Chg.of_below hb) (fun _ _ hf => hf)
theorem KidRow.weak (h : KidRow w D base v ks) (hD : ∀ b, D b → G b) : KidRow w G base v ks :=
  let ⟨us, h1, h2, h3⟩ := h; ⟨us, h1, fun g hg => hD g (h2 g hg), fun i k hk => let ⟨a, u, b, c⟩ := h3 i k hk; ⟨a, u, b, c.weak (fun b hb => ⟨hD b hb.1, hb.2⟩)⟩⟩
theorem KidRow.off_next (h : KidRow w (Off F mm) base v ks) (hc : Chg (fun b => F b ∨ b = mm) w w') : KidRow w' (Off (Grown F w w') mm) base v ks :=
  let ⟨us, h1, h2, h3⟩ := h; ⟨us, (own_off_next h1 h2 hc).1, (own_off_next h1 h2 hc).2, fun i k hk => let ⟨a, u, b, c⟩ := h3 i k hk; ⟨a, u, b, (c.lt.chg hc (fun b hb h => h.elim hb.1.1.1 hb.1.1.2)).weak (fun b hb => ⟨Go.Proofs.Ytgjphmlmndcaeaa.off_next hb.2 hb.1.1, hb.1.2⟩)⟩⟩
theorem KidRow.nil (w : World) (D : Nat → Prop) (base : Nat) : KidRow w D base (.slice none 0 0) [] := ⟨[], World.ownsRow_nil _ _ _ _, fun g h => by simp [Value.ownBlock] at h, fun i k hk => by simp at hk⟩
/-- one kid more -/
theorem KidRow.push {D' : Nat → Prop} {w2 : World} {v2 hv : Value} {us : List Value} {id : Int} {high : List UInt8} (h1 : w.ownsRow base 139 2 v ks.length us) (h2 : ∀ g, v.ownBlock = some g → D g)
    (h3 : ∀ (i : Nat) (k : Int × List UInt8), ks[i]? = some k → us[2 * i]? = some (.int .i64 k.1) ∧ ∃ u, us[2 * i + 1]? = some u ∧ SB w (fun b => D b ∧ v.ownBlock ≠ some b) u k.2)
    (ho : w2.ownsRow base 139 2 v2 (ks.length + 1) (us ++ [.int .i64 id, hv])) (hg : w.grownBy w2 v.ownBlock) (hat : v2.ownBlock = v.ownBlock ∨ v2.ownBlock = some w.heap.size)
    (hh : SB w (fun b => D b ∧ v.ownBlock ≠ some b) hv high) (hD : ∀ b, D b → D' b) (hn : D' w.heap.size) : KidRow w2 D' base v2 (ks ++ [(id, high)]) := by
  have hl : us.length = ks.length * 2 := h1.1
  have hc : Chg (fun b => v.ownBlock = some b) w w2 := (Chg.refl _ _).grown hg (fun _ hk _ => hk)
  have up : ∀ b, ((D b ∧ v.ownBlock ≠ some b) ∧ b < w.heap.size) → D' b ∧ v2.ownBlock ≠ some b := fun b hb => ⟨hD b hb.1.1, fun e => hat.elim (fun e' => hb.1.2 (e' ▸ e)) (fun e' => by rw [e'] at e; injection e with e; omega)⟩
  refine ⟨_, by simpa using ho, fun g hg' => hat.elim (fun e => hD g (h2 g (e ▸ hg'))) (fun e => by rw [e] at hg'; injection hg' with hg'; exact hg' ▸ hn), fun i k hk => ?_⟩
  rcases Nat.lt_or_ge i ks.length with hi | hi
  · rw [List.getElem?_append_left hi] at hk
    obtain ⟨a, u, b, c⟩ := h3 i k hk
    exact ⟨by rw [List.getElem?_append_left (by omega)]; exact a, u, by rw [List.getElem?_append_left (by omega)]; exact b, (c.lt.chg hc (fun b hb e => hb.1.2 e)).weak up⟩
  · rw [List.getElem?_append_right hi] at hk
    obtain ⟨hi0, rfl⟩ : i = ks.length ∧ k = (id, high) := by
      have := (List.getElem?_eq_some_iff.1 hk).1
      have hi0 : i = ks.length := by simp at this; omega
      subst hi0
      simp at hk
      exact ⟨rfl, hk.symm⟩
    subst hi0
    refine ⟨by rw [List.getElem?_append_right (by omega), hl, show 2 * ks.length - ks.length * 2 = 0 by omega]; rfl, hv, by rw [List.getElem?_append_right (by omega), hl, show 2 * ks.length + 1 - ks.length * 2 = 1 by omega]; rfl, (hh.lt.chg hc (fun b hb e => hb.1.2 e)).weak up⟩
/-- of the rest, behind a node more -/
theorem rest_next {o o' : Value} {b : Nat} (hb : b < w.heap.size) (h : Rest F mm o b) (hat : o'.ownBlock = o.ownBlock ∨ ∃ x, w.heap.size ≤ x ∧ o'.ownBlock = some x) : Rest (Grown F w w') mm o' b :=
  ⟨Go.Proofs.Ytgjphmlmndcaeaa.off_next hb h.1, fun e => hat.elim (fun e' => h.2 (e' ▸ e)) (fun ⟨x, hx, e'⟩ => by rw [e'] at e; injection e with e; omega)⟩
end

/-- the parts that one holds -/
structure Hold (w : World) (D : Nat → Prop) (base : Nat) (t : TypeId) (gv : Value) (vs : List Value) (fill K m : Nat) (vals : List Value) (A : Option Addr) (c : Nat) : Prop where
  own : w.ownsRow base t 1 gv (K + 1) (vals ++ [.slice A m c])
  blk : ∀ g, gv.ownBlock = some g → D g
  len : vals.length = K
  parts : Parts w D vs fill K vals
  last : Rd w D 2 A m (vs.drop (K * fill * 2))
  mc : m ≤ c
  cm : c ≤ maxLen
section
variable {S D G F : Nat → Prop} {w w' : World} {base mm fill K m c : Nat} {t : TypeId} {gv : Value} {vs vals : List Value} {A : Option Addr}
theorem Hold.chg (h : Hold w D base t gv vs fill K m vals A c) (hc : Chg S w w') (hs : ∀ b, D b → ¬ S b) : Hold w' D base t gv vs fill K m vals A c :=
  ⟨own_chg h.own hc (fun g hg => hs g (h.blk g hg)), h.blk, h.len, h.parts.chg hc hs, h.last.chg hc hs, h.mc, h.cm⟩
theorem Hold.below (h : Hold w D base t gv vs fill K m vals A c) (hb : Below w.heap.size w w') : Hold w' D base t gv vs fill K m vals A c := h.chg (S := Nil) (Chg.of_below hb) (fun _ _ hf => hf)
theorem Hold.off_next (h : Hold w (Off F mm) base t gv vs fill K m vals A c) (hc : Chg (fun b => F b ∨ b = mm) w w') : Hold w' (Off (Grown F w w') mm) base t gv vs fill K m vals A c :=
  ⟨(own_off_next h.own h.blk hc).1, (own_off_next h.own h.blk hc).2, h.len, fun i hi => let ⟨B, d, a, b, e, f⟩ := h.parts i hi; ⟨B, d, a, b, e, f.off_next (by omega) hc⟩, h.last.off_next (by omega) hc, h.mc, h.cm⟩
/-- one part -/
theorem Hold.at_ (h : Hold w D base t gv vs fill K m vals A c) {i : Nat} (hi : i < K + 1) : ∃ r cp B mi d, gv = .slice (some ⟨r, 0, none⟩) (K + 1) cp ∧ r < w.heap.size ∧ D r ∧ mi = (if i < K then fill else m) ∧ w.cell? ⟨r, i, none⟩ = some (.slice B mi d) ∧ mi ≤ d ∧ d ≤ maxLen ∧ Rd w D 2 B mi ((vs.drop (i * fill * 2)).take (mi * 2)) := by
  obtain ⟨r, cp, hv, hbr, hlt⟩ := h.own.form (by omega)
  have hcell : ∀ j u, (vals ++ [.slice A m c])[j]? = some u → w.cell? ⟨r, j, none⟩ = some u := fun j u hu => by have := h.own.cells (g := r) (by rw [hv]; rfl) j u hu; rw [add_eq, Nat.zero_add] at this; exact this
  have hD := h.blk r (by rw [hv]; rfl)
  have hlt' := (own_lt h.own r (by rw [hv]; rfl)).2
  rcases Nat.lt_or_ge i K with hk | hk
  · obtain ⟨B, d, q1, q2, q3, q4⟩ := h.parts i hk
    refine ⟨r, cp, B, fill, d, hv, hlt', hD, by rw [if_pos hk], hcell i _ (by rw [List.getElem?_append_left (List.getElem?_eq_some_iff.1 q1).1]; exact q1), q2, q3, q4⟩
  · obtain rfl : i = K := by omega
    refine ⟨r, cp, A, m, c, hv, hlt', hD, by rw [if_neg (by omega)], hcell i _ (by rw [List.getElem?_append_right (by have := h.len; omega), h.len]; simp), h.mc, h.cm, ?_⟩
    have hl := h.last.1
    rw [List.take_of_length_le (by omega)]
    exact h.last
end

/-- so many nodes of a level have been laid -/
structure Lv (w wr : World) (F F' : Nat → Prop) (p mm : Nat) (nodes root : Int) (done0 : List Slt) (f : Nat → Slt) (hi : Nat → List UInt8) (k : Nat) (out : Value) : Prop where
  st : MakerSt wr F' p mm nodes root (done0 ++ (List.range k).map f)
  row : KidRow wr (Off F' mm) w.heap.size out ((List.range k).map fun (i : Nat) => ((done0.length : Int) + (i : Int) + 1, hi i))
  chg : Chg (fun b => F b ∨ b = mm) w wr
  sub : ∀ b, F' b → F b ∨ w.heap.size ≤ b

/-- entries of a part -/
theorem ents_part {w : World} {D : Nat → Prop} {vs : List Value} {l : List Ent} {A : Option Addr} {s m : Nat} (hr : Rd w D 2 A m ((vs.drop (s * 2)).take (m * 2))) (hm : s + m ≤ l.length)
    (ht : ∀ (i : Nat) (e : Ent), l[i]? = some e → ∃ u v, vs[2 * i]? = some u ∧ vs[2 * i + 1]? = some v ∧ SB w D u e.1 ∧ SB w D v e.2) : Ents w D A m ((l.drop s).take m) := by
  refine ⟨Lib.hid (by rw [List.length_take, List.length_drop]; omega), _, hr, fun i e he => ?_⟩
  have hi : i < m := by
    rcases Nat.lt_or_ge i m with h | h
    · exact h
    · rw [List.getElem?_eq_none (by simp; omega)] at he; cases he
  rw [List.getElem?_take, if_pos hi, List.getElem?_drop] at he
  obtain ⟨u, v, a, b, c, d⟩ := ht _ e he
  refine ⟨u, v, ?_, ?_, c, d⟩
  · rw [List.getElem?_take, if_pos (by omega), List.getElem?_drop, show s * 2 + 2 * i = 2 * (s + i) by omega]; exact a
  · rw [List.getElem?_take, if_pos (by omega), List.getElem?_drop, show s * 2 + (2 * i + 1) = 2 * (s + i) + 1 by omega]; exact b
end Go.Proofs.Ytgjphmlmndcaeaa

namespace Go.Proofs.Ytgjphmlmndcaeaa
open Go.RowKit
section
variable {P : Program} {ops : Array Oper} {Q : Exit → Act → World → Prop} {md : Region.Mode} {S : World → Prop}

/-- whatever order is picked from here on; S holds behind every operation -/
def wpV (P : Program) (md : Region.Mode) (ops : Array Oper) (Q : Exit → Act → World → Prop) (S : World → Prop) : Nat → Array Bool → Act → World → Prop
  | 0, listed, a, w => Region.ready md ops listed = [] ∧ Q .normal a w
  | f + 1, listed, a, w =>
    (Region.ready md ops listed = [] → Q .normal a w) ∧
    ∀ i ∈ Region.ready md ops listed, wpOp P ops Q i (fun a' w' => S w' ∧ wpV P md ops Q S f (listed.setIfInBounds i true) a' w') a w

theorem wpAny_of_V : ∀ (f : Nat) (listed : Array Bool) (a : Act) (w : World), wpV P md ops Q S f listed a w → wpAny P md ops Q f listed a w
  | 0, _, _, _, h => h
  | f + 1, _, _, _, h => ⟨h.1, fun i hi => wpOp_mono (fun a' w' h' => wpAny_of_V f _ a' w' h'.2) (h.2 i hi)⟩

theorem wpV_first {i : Nat} {oi : Oper} {v : Value} (hi : ops[i]? = some oi) (hsel : ∀ (j : Nat) (o : Oper) cs c, ops[j]? = some o → o.op ≠ .select cs c)
    (hQ : ∀ c a w, Q (.panic c) (a.put oi.dst v) w → Q (.panic c) a w) :
    ∀ (f : Nat) (listed : Array Bool) (a : Act) (w : World),
      (∀ j oj, ops[j]? = some oj → j ≠ i → listed.getD j true = false → (∀ e ∈ oj.after, Region.binds md e = true → e.on ≠ i) → oi.apart ops oj = true) →
      i ∈ Region.ready md ops listed → YieldsIf P ops S oi v a → S w →
      wpV P md ops Q S f (listed.setIfInBounds i true) (a.put oi.dst v) w → wpV P md ops Q S (f + 1) listed a w := by
  intro f
  induction f with
  | zero =>
    intro listed a w _ hr hy hS H
    refine ⟨fun h => (by rw [h] at hr; cases hr), fun j hj => ?_⟩
    by_cases hji : j = i
    · subst hji; exact hy.wpOp hi hS ⟨hS, H⟩
    · have h1 := ready_mono hj hji
      rw [H.1] at h1
      cases h1
  | succ f ih =>
    intro listed a w hfree hr hy hS H
    refine ⟨fun h => (by rw [h] at hr; cases hr), fun j hj => ?_⟩
    by_cases hji : j = i
    · subst hji; exact hy.wpOp hi hS ⟨hS, H⟩
    · have h1 := H.2 j (ready_mono hj hji)
      have hil := (mem_ready.1 hr).1
      obtain ⟨hjun, oj, hoj, hall⟩ := mem_ready.1 hj
      have hnot : ∀ e ∈ oj.after, Region.binds md e = true → e.on ≠ i := by
        intro e he hbd heq
        have h2 := hall e he hbd
        rw [heq] at h2
        rcases Nat.lt_or_ge i listed.size with hl | hl
        · simp [hl] at h2 hil; rw [hil] at h2; cases h2
        · simp [Array.getElem?_eq_none hl] at h2
      have h2 := wpOp_putIf hoj (hfree j oj hoj hji hjun hnot) (fun cs c => hsel i oi cs c hi) (fun cs c => hsel j oj cs c hoj) hQ hy h1
      have hfree' : ∀ k ok, ops[k]? = some ok → k ≠ i → (listed.setIfInBounds j true).getD k true = false → (∀ e ∈ ok.after, Region.binds md e = true → e.on ≠ i) → oi.apart ops ok = true := by
        intro k ok hk hki hun hno
        by_cases hjk : j = k
        · subst hjk; exact hfree _ ok hk hki hjun hno
        · rw [getD_set_ne' hjk] at hun; exact hfree k ok hk hki hun hno
      refine wpOp_mono (fun a' w' h3 => ?_) h2
      refine ⟨h3.2.1, ih (listed.setIfInBounds j true) a' w' hfree' (ready_mono hr (Ne.symm hji)) h3.1 h3.2.1 ?_⟩
      rw [Array.setIfInBounds_comm _ _ hji]
      exact h3.2.2

/-- what yields its value in whatever world meets S may be taken first -/
theorem wpV_take {i : Nat} {oi : Oper} {v : Value} {f : Nat} {listed : Array Bool} {a : Act} {w : World} (hi : ops[i]? = some oi)
    (hs : Region.noSelect ops = true) (hf : Region.free md ops listed i = true) (hr : (Region.ready md ops listed).contains i = true)
    (hQ : ∀ c a w, Q (.panic c) (a.put oi.dst v) w → Q (.panic c) a w) (hS : S w) (hy : YieldsIf P ops S oi v a)
    (h : wpV P md ops Q S f (listed.setIfInBounds i true) (a.put oi.dst v) w) : wpV P md ops Q S (f + 1) listed a w :=
  wpV_first hi (Region.noSelect_spec hs) hQ f listed a w (Region.free_spec hi hf) (by simpa using hr) hy hS h
/-- one alone may come up: it is carried out -/
theorem wpV_one {i : Nat} {o : Oper} {f : Nat} {listed : Array Bool} {a : Act} {w : World} (hr : Region.ready md ops listed = [i]) (ho : ops[i]? = some o)
    (h : ∀ K' : Act → World → Prop, Hid (∀ a w, S w → wpV P md ops Q S f (listed.setIfInBounds i true) a w → K' a w) →
      if Region.wanted o (yielded ops a.tmps) = true then Oper.wp P o a w K' Q else K' (a.put o.dst undef) w) : wpV P md ops Q S (f + 1) listed a w := by
  refine ⟨fun h0 => (by rw [hr] at h0; cases h0), fun j hj => ?_⟩
  rw [hr] at hj
  obtain rfl : j = i := by simpa using hj
  exact wpOp_step ho (fun K' hK => h K' (fun a w hS hW => hK a w ⟨hS, hW⟩))

theorem wpV_done {listed : Array Bool} {a : Act} {w : World} (hr : Region.ready md ops listed = []) (h : Q .normal a w) : ∀ f, wpV P md ops Q S f listed a w
  | 0 => ⟨hr, h⟩
  | _ + 1 => ⟨fun _ => h, by rw [hr]; simp⟩

theorem wp_region_V {id : Nat} {a : Act} {w : World} (S : World → Prop) (hm : P.follows .mixedOrders = true)
    (h : wpV P .any ops Q S ops.size (Array.replicate ops.size false) a w.drew) : (Code.region id ops true).wp P Q a w :=
  wp_region_any hm (wpAny_of_V _ _ _ _ h)
end
end Go.Proofs.Ytgjphmlmndcaeaa

namespace Go.Proofs.Ytgjphmlmndcaeaa
/-- what block k holds -/
def blockIn (k : Nat) : Code → Option Code
  | .block n c => if Nat.beq n k then some c else blockIn k c
  | .seq a b => match blockIn k a with
    | some c => some c
    | none => blockIn k b
  | .loop c => blockIn k c
  | .scope c => blockIn k c
  | .cond _ a b => match blockIn k a with
    | some c => some c
    | none => blockIn k b
  | _ => none
def isRegion (k : Nat) : Code → Bool
  | .region i _ _ => Nat.beq i k
  | _ => false
/-- the sequence that begins with region k -/
def regionIn (k : Nat) : Code → Option Code
  | .seq a b => if isRegion k a then some (.seq a b) else match regionIn k a with
    | some c => some c
    | none => regionIn k b
  | .block _ c => regionIn k c
  | .loop c => regionIn k c
  | .scope c => regionIn k c
  | .cond _ a b => match regionIn k a with
    | some c => some c
    | none => regionIn k b
  | _ => none
/-- region k itself -/
def regionAt (k : Nat) : Code → Option Code
  | .region i a b => if Nat.beq i k then some (.region i a b) else none
  | .seq a b => match regionAt k a with
    | some c => some c
    | none => regionAt k b
  | .block _ c => regionAt k c
  | .loop c => regionAt k c
  | .scope c => regionAt k c
  | .cond _ a b => match regionAt k a with
    | some c => some c
    | none => regionAt k b
  | _ => none
def codeOr (f : Option Code) : Code := f.getD .skip
end Go.Proofs.Ytgjphmlmndcaeaa
