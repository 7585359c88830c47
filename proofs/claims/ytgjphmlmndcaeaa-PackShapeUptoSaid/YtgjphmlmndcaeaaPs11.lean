/- The document's levels in memory: a row of nodes, of which the last one is being filled. Links in memory: nodes of a chain with their numbers and lows. No program in sight. A map from numbers to numbers that a call makes: what it answers, as a function. The packed tree's levels, in closed form: how many nodes, where they lie, their highs, what each holds. No program in sight. -/
import Derived.Test.YtgjphmlmndcaeaaPs10
import Derived.Test.YtgjphmlmndcaeaaPs04
import Derived.Test.YtgjphmlmndcaeaaChecked
import Derived.Test.YtgjphmlmndcaeaaPs01
import Derived.Maps.OwnOps
import Derived.Maps.Views
import Derived.WalkKit
import Derived.WalkArith
import Derived.Test.YtgjphmlmndcaeaaPs02
set_option linter.unusedVariables false
set_option linter.unusedSimpArgs false
namespace Go.Proofs.Ytgjphmlmndcaeaa
open Go.RowKit

/-- the six cells of node j of a row -/
def nb (us : List Value) (j : Nat) : List Value := (us.drop (j * 6)).take 6
theorem nb_set_self {us : List Value} {k c : Nat} (u : Value) (hc : c < 6) : nb (us.set (k * 6 + c) u) k = (nb us k).set c u := by
  unfold nb
  rw [List.drop_set, if_neg (by omega), show k * 6 + c - k * 6 = c by omega, List.take_set]
theorem nb_set_ne {us : List Value} {k c j : Nat} (u : Value) (hc : c < 6) (h : j ≠ k) : nb (us.set (k * 6 + c) u) j = nb us j := by
  unfold nb
  rw [List.drop_set]
  split
  · rfl
  · rename_i h1
    rw [List.take_set]
    apply List.set_eq_of_length_le
    rw [List.length_take]
    have : j * 6 + 6 ≤ k * 6 ∨ k * 6 + 6 ≤ j * 6 := by omega
    omega
theorem nb_app_lt {us xs : List Value} {n j : Nat} (hl : us.length = n * 6) (hj : j < n) : nb (us ++ xs) j = nb us j := by
  unfold nb
  rw [List.drop_append_of_le_length (by omega), List.take_append_of_le_length (by rw [List.length_drop]; omega)]
theorem nb_app_eq {us xs : List Value} {n : Nat} (hl : us.length = n * 6) (hx : xs.length = 6) : nb (us ++ xs) n = xs := by
  unfold nb
  rw [List.drop_append, List.drop_of_length_le (by omega), hl, Nat.sub_self, List.nil_append, List.drop_zero, List.take_of_length_le (by omega)]
theorem nb_at {us : List Value} {k c : Nat} {u : Value} (hc : c < 6) (h : (nb us k)[c]? = some u) : us[k * 6 + c]? = some u := by
  unfold nb at h
  rwa [List.getElem?_take, if_pos hc, List.getElem?_drop] at h

/-- one node's six cells -/
def NodeV (w : World) (F : Nat → Prop) (vs : List Value) (s : Nd) : Prop :=
  ∃ hA hn hc kA kn kc vA vn vc dA dn dc, vs = [.int .i64 s.lev, .slice hA hn hc, .int .i64 s.right, .slice kA kn kc, .slice vA vn vc, .slice dA dn dc] ∧
    Bt w F hA hn hc s.high ∧ Tx w F kA kn kc s.keys ∧ Tx w F vA vn vc s.vals ∧ It w F dA dn dc s.kids
section
variable {S F G D D' : Nat → Prop} {w w' : World} {vs : List Value} {s : Nd}
theorem NodeV.weak (h : NodeV w F vs s) (hF : ∀ b, F b → G b) : NodeV w G vs s := by
  obtain ⟨hA, hn, hc, kA, kn, kc, vA, vn, vc, dA, dn, dc, h1, h2, h3, h4, h5⟩ := h
  exact ⟨hA, hn, hc, kA, kn, kc, vA, vn, vc, dA, dn, dc, h1, h2.weak hF, h3.weak hF, h4.weak hF, h5.weak hF⟩
theorem NodeV.next (h : NodeV w D vs s) (hc : Chg S w w') (hs : ∀ b, b < w.heap.size → D b → ¬ S b) (hD : ∀ b, b < w.heap.size → D b → D' b) : NodeV w' D' vs s := by
  obtain ⟨hA, hn, hc', kA, kn, kc, vA, vn, vc, dA, dn, dc, h1, h2, h3, h4, h5⟩ := h
  exact ⟨hA, hn, hc', kA, kn, kc, vA, vn, vc, dA, dn, dc, h1, (h2.lt.chg hc (fun b hb => hs b hb.2 hb.1)).weak (fun b hb => hD b hb.2 hb.1), (h3.lt.chg hc (fun b hb => hs b hb.2 hb.1)).weak (fun b hb => hD b hb.2 hb.1), (h4.lt.chg hc (fun b hb => hs b hb.2 hb.1)).weak (fun b hb => hD b hb.2 hb.1), (h5.lt.chg hc (fun b hb => hs b hb.2 hb.1)).weak (fun b hb => hD b hb.2 hb.1)⟩
end

/-- a level: a row of nodes, all that hangs on it in blocks of D -/
def Level (w : World) (D : Nat → Prop) (base : Nat) (v : Value) (nds : List Nd) : Prop :=
  ∃ us, w.ownsRow base 93 6 v nds.length us ∧ (∀ g, v.ownBlock = some g → D g) ∧ ∀ (i : Nat) (s : Nd), nds[i]? = some s → NodeV w D (nb us i) s

/-- a level being made: k nodes are done, the last one has these cells; nothing that is written is used twice -/
structure Mk (w : World) (base : Nat) (E : Nat → Prop) (out : Value) (k : Nat) (f : Nat → Nd) (lev : Int) (h kv vv dv : Value) (us : List Value) : Prop where
  own : w.ownsRow base 93 6 out (k + 1) us
  last : nb us k = [.int .i64 lev, h, .int .i64 0, kv, vv, dv]
  d1 : ∀ g, out.ownBlock = some g → kv.ownBlock ≠ some g ∧ vv.ownBlock ≠ some g ∧ dv.ownBlock ≠ some g
  full : ∀ j, j < k → NodeV w (fun b => (E b ∨ base ≤ b) ∧ ¬ (out.ownBlock = some b ∨ kv.ownBlock = some b ∨ vv.ownBlock = some b ∨ dv.ownBlock = some b)) (nb us j) (f j)
section
variable {S E : Nat → Prop} {w w' : World} {base k : Nat} {out : Value} {f : Nat → Nd} {lev : Int} {h kv vv dv : Value} {us : List Value}
theorem Mk.below (m : Mk w base E out k f lev h kv vv dv us) (hb : Below w.heap.size w w') : Mk w' base E out k f lev h kv vv dv us :=
  ⟨own_below m.own hb, m.last, m.d1, fun j hj => (m.full j hj).next (Chg.of_below (S := Nil) hb) (fun _ _ _ h => h) (fun _ _ h => h)⟩
/-- the block of the row, and where the last node's cells lie in it -/
theorem Mk.form (m : Mk w base E out k f lev h kv vv dv us) : ∃ g c, out = .slice (some ⟨g, 0, none⟩) (k + 1) c ∧ k + 1 ≤ c ∧ c ≤ maxLen ∧ base ≤ g ∧ g < w.heap.size ∧ (∀ o, w.frozen? ⟨g, o, none⟩ = false) ∧ w.cell? ⟨g, k * 6, none⟩ = some (.int .i64 lev) ∧ w.cell? ⟨g, k * 6 + 1, none⟩ = some h ∧ w.cell? ⟨g, k * 6 + 2, none⟩ = some (.int .i64 0) ∧ w.cell? ⟨g, k * 6 + 3, none⟩ = some kv ∧ w.cell? ⟨g, k * 6 + 4, none⟩ = some vv ∧ w.cell? ⟨g, k * 6 + 5, none⟩ = some dv := by
  obtain ⟨g, c, hv, hb, hl⟩ := m.own.form (by omega)
  have ho := m.own
  rw [hv] at ho
  have hc : ∀ (j : Nat) (u : Value), j < 6 → (nb us k)[j]? = some u → w.cell? ⟨g, k * 6 + j, none⟩ = some u := fun j u hj hu => by
    rw [ho.cellAt (k * 6 + j) (by omega)]; exact nb_at hj hu
  rw [m.last] at hc
  obtain ⟨_, _, e, q1, q2⟩ := own_val ho
  injection e with _ _ e
  subst e
  have hl' := (own_lt ho g rfl).2
  exact ⟨g, _, hv, q1, q2, hb, hl', ho.frozenAt, hc 0 _ (by omega) rfl, hc 1 _ (by omega) rfl, hc 2 _ (by omega) rfl, hc 3 _ (by omega) rfl, hc 4 _ (by omega) rfl, hc 5 _ (by omega) rfl⟩
/-- a cell of the last node is written: the high -/
theorem Mk.setHigh {g c : Nat} (m : Mk w base E (.slice (some ⟨g, 0, none⟩) (k + 1) c) k f lev h kv vv dv us) (u : Value) : Mk (w.setCell ⟨g, k * 6 + 1, none⟩ u) base E (.slice (some ⟨g, 0, none⟩) (k + 1) c) k f lev u kv vv dv (us.set (k * 6 + 1) u) :=
  ⟨(m.own.stored _ u).1, by rw [nb_set_self u (by omega), m.last]; rfl, m.d1, fun j hj => by rw [nb_set_ne u (by omega) (by omega)]; exact (m.full j hj).next (Chg.set1 w g _ u) (fun b _ hb e => hb.2 (.inl (by rw [show b = g from e]; rfl))) (fun _ _ h => h)⟩
/-- a row of the last node has grown: the keys -/
theorem Mk.setKeys {g c : Nat} {wa w2 : World} {v2 : Value} (m : Mk w base E (.slice (some ⟨g, 0, none⟩) (k + 1) c) k f lev h kv vv dv us) (hb : Below w.heap.size w wa) (hg : wa.grownBy w2 kv.ownBlock) (hat : v2.ownBlock = kv.ownBlock ∨ v2.ownBlock = some wa.heap.size) :
    Mk (w2.setCell ⟨g, k * 6 + 3, none⟩ v2) base E (.slice (some ⟨g, 0, none⟩) (k + 1) c) k f lev h v2 vv dv (us.set (k * 6 + 3) v2) := by
  have hgw := (own_lt m.own g rfl).2
  have hc2 : Chg (fun b => kv.ownBlock = some b) wa w2 := Chg.of_grown hg
  have own2 := own_chg (own_below m.own hb) hc2 (fun g' hg' e => (m.d1 g' hg').1 e)
  have hws := hb.size
  have hnew : ∀ b, b < w.heap.size → v2.ownBlock = some b → kv.ownBlock = some b := fun b hb' e => hat.elim (fun e' => e' ▸ e) (fun e' => by rw [e'] at e; injection e with e; omega)
  refine ⟨(own2.stored _ v2).1, by rw [nb_set_self v2 (by omega), m.last]; rfl, fun g' hg' => ⟨fun e => ?_, (m.d1 g' hg').2⟩, fun j hj => ?_⟩
  · have hg' : some g = some g' := hg'
    injection hg' with hg'
    subst hg'
    exact (m.d1 g rfl).1 (hnew g hgw e)
  · rw [nb_set_ne v2 (by omega) (by omega)]
    have s1 := (m.full j hj).next (Chg.of_below (S := Nil) hb) (fun _ _ _ h => h) (D' := fun b => ((E b ∨ base ≤ b) ∧ ¬ ((Value.slice (some ⟨g, 0, none⟩) (k + 1) c).ownBlock = some b ∨ kv.ownBlock = some b ∨ vv.ownBlock = some b ∨ dv.ownBlock = some b)) ∧ b < w.heap.size) (fun b hb h => ⟨h, hb⟩)
    have s2 := s1.next hc2 (fun b _ hb e => hb.1.2 (.inr (.inl e))) (fun b _ h => h)
    exact s2.next (Chg.set1 w2 g _ v2) (fun b _ hb e => hb.1.2 (.inl (by rw [show b = g from e]; rfl))) (fun b _ hb => ⟨hb.1.1, fun h => hb.1.2 (h.imp id (fun h => h.imp (hnew b hb.2) id))⟩)
theorem Mk.setVals {g c : Nat} {wa w2 : World} {v2 : Value} (m : Mk w base E (.slice (some ⟨g, 0, none⟩) (k + 1) c) k f lev h kv vv dv us) (hb : Below w.heap.size w wa) (hg : wa.grownBy w2 vv.ownBlock) (hat : v2.ownBlock = vv.ownBlock ∨ v2.ownBlock = some wa.heap.size) :
    Mk (w2.setCell ⟨g, k * 6 + 4, none⟩ v2) base E (.slice (some ⟨g, 0, none⟩) (k + 1) c) k f lev h kv v2 dv (us.set (k * 6 + 4) v2) := by
  have hgw := (own_lt m.own g rfl).2
  have hc2 : Chg (fun b => vv.ownBlock = some b) wa w2 := Chg.of_grown hg
  have own2 := own_chg (own_below m.own hb) hc2 (fun g' hg' e => (m.d1 g' hg').2.1 e)
  have hws := hb.size
  have hnew : ∀ b, b < w.heap.size → v2.ownBlock = some b → vv.ownBlock = some b := fun b hb' e => hat.elim (fun e' => e' ▸ e) (fun e' => by rw [e'] at e; injection e with e; omega)
  refine ⟨(own2.stored _ v2).1, by rw [nb_set_self v2 (by omega), m.last]; rfl, fun g' hg' => ⟨(m.d1 g' hg').1, fun e => ?_, (m.d1 g' hg').2.2⟩, fun j hj => ?_⟩
  · have hg' : some g = some g' := hg'
    injection hg' with hg'
    subst hg'
    exact (m.d1 g rfl).2.1 (hnew g hgw e)
  · rw [nb_set_ne v2 (by omega) (by omega)]
    have s1 := (m.full j hj).next (Chg.of_below (S := Nil) hb) (fun _ _ _ h => h) (D' := fun b => ((E b ∨ base ≤ b) ∧ ¬ ((Value.slice (some ⟨g, 0, none⟩) (k + 1) c).ownBlock = some b ∨ kv.ownBlock = some b ∨ vv.ownBlock = some b ∨ dv.ownBlock = some b)) ∧ b < w.heap.size) (fun b hb h => ⟨h, hb⟩)
    have s2 := s1.next hc2 (fun b _ hb e => hb.1.2 (.inr (.inr (.inl e)))) (fun b _ h => h)
    exact s2.next (Chg.set1 w2 g _ v2) (fun b _ hb e => hb.1.2 (.inl (by rw [show b = g from e]; rfl))) (fun b _ hb => ⟨hb.1.1, fun h => hb.1.2 (h.imp id (fun h => h.imp id (fun h => h.imp (hnew b hb.2) id)))⟩)
theorem Mk.setKids {g c : Nat} {wa w2 : World} {v2 : Value} (m : Mk w base E (.slice (some ⟨g, 0, none⟩) (k + 1) c) k f lev h kv vv dv us) (hb : Below w.heap.size w wa) (hg : wa.grownBy w2 dv.ownBlock) (hat : v2.ownBlock = dv.ownBlock ∨ v2.ownBlock = some wa.heap.size) :
    Mk (w2.setCell ⟨g, k * 6 + 5, none⟩ v2) base E (.slice (some ⟨g, 0, none⟩) (k + 1) c) k f lev h kv vv v2 (us.set (k * 6 + 5) v2) := by
  have hgw := (own_lt m.own g rfl).2
  have hc2 : Chg (fun b => dv.ownBlock = some b) wa w2 := Chg.of_grown hg
  have own2 := own_chg (own_below m.own hb) hc2 (fun g' hg' e => (m.d1 g' hg').2.2 e)
  have hws := hb.size
  have hnew : ∀ b, b < w.heap.size → v2.ownBlock = some b → dv.ownBlock = some b := fun b hb' e => hat.elim (fun e' => e' ▸ e) (fun e' => by rw [e'] at e; injection e with e; omega)
  refine ⟨(own2.stored _ v2).1, by rw [nb_set_self v2 (by omega), m.last]; rfl, fun g' hg' => ⟨(m.d1 g' hg').1, (m.d1 g' hg').2.1, fun e => ?_⟩, fun j hj => ?_⟩
  · have hg' : some g = some g' := hg'
    injection hg' with hg'
    subst hg'
    exact (m.d1 g rfl).2.2 (hnew g hgw e)
  · rw [nb_set_ne v2 (by omega) (by omega)]
    have s1 := (m.full j hj).next (Chg.of_below (S := Nil) hb) (fun _ _ _ h => h) (D' := fun b => ((E b ∨ base ≤ b) ∧ ¬ ((Value.slice (some ⟨g, 0, none⟩) (k + 1) c).ownBlock = some b ∨ kv.ownBlock = some b ∨ vv.ownBlock = some b ∨ dv.ownBlock = some b)) ∧ b < w.heap.size) (fun b hb h => ⟨h, hb⟩)
    have s2 := s1.next hc2 (fun b _ hb e => hb.1.2 (.inr (.inr (.inr e)))) (fun b _ h => h)
    exact s2.next (Chg.set1 w2 g _ v2) (fun b _ hb e => hb.1.2 (.inl (by rw [show b = g from e]; rfl))) (fun b _ hb => ⟨hb.1.1, fun h => hb.1.2 (h.imp id (fun h => h.imp id (fun h => h.imp id (hnew b hb.2))))⟩)
/-- the last node is done; another one begins -/
theorem Mk.more {wa w2 : World} {v2 : Value} {lev2 : Int} (m : Mk w base E out k f lev h kv vv dv us) (hb : Below w.heap.size w wa) (hg : wa.grownBy w2 out.ownBlock) (hat : v2.ownBlock = out.ownBlock ∨ v2.ownBlock = some wa.heap.size)
    (ho : w2.ownsRow base 93 6 v2 (k + 1 + 1) (us ++ [.int .i64 lev2, .slice none 0 0, .int .i64 0, .slice none 0 0, .slice none 0 0, .slice none 0 0]))
    (hn : NodeV w (fun b => (E b ∨ base ≤ b) ∧ out.ownBlock ≠ some b) [.int .i64 lev, h, .int .i64 0, kv, vv, dv] (f k)) : Mk w2 base E v2 (k + 1) f lev2 (.slice none 0 0) (.slice none 0 0) (.slice none 0 0) (.slice none 0 0) (us ++ [.int .i64 lev2, .slice none 0 0, .int .i64 0, .slice none 0 0, .slice none 0 0, .slice none 0 0]) := by
  have hl := m.own.1
  have hws := hb.size
  have hnil : ∀ b, (Value.slice none 0 0).ownBlock ≠ some b := fun b e => by simp [Value.ownBlock] at e
  have hnew : ∀ b, b < w.heap.size → v2.ownBlock = some b → out.ownBlock = some b := fun b hb' e => hat.elim (fun e' => e' ▸ e) (fun e' => by rw [e'] at e; injection e with e; omega)
  refine ⟨ho, nb_app_eq hl rfl, fun g _ => ⟨hnil g, hnil g, hnil g⟩, fun j hj => ?_⟩
  rw [nb_app_lt hl hj]
  have key : NodeV w (fun b => (E b ∨ base ≤ b) ∧ out.ownBlock ≠ some b) (nb us j) (f j) := by
    rcases Nat.lt_or_ge j k with hk | hk
    · exact (m.full j hk).weak (fun b hb => ⟨hb.1, fun e => hb.2 (.inl e)⟩)
    · obtain rfl : j = k := by omega
      rw [m.last]; exact hn
  have s1 := key.next (Chg.of_below (S := Nil) hb) (fun _ _ _ h => h) (D' := fun b => ((E b ∨ base ≤ b) ∧ out.ownBlock ≠ some b) ∧ b < w.heap.size) (fun b hb h => ⟨h, hb⟩)
  exact s1.next (Chg.of_grown hg) (fun b _ hb e => hb.1.2 e) (fun b _ hb => ⟨hb.1.1, fun h => h.elim (fun h => hb.1.2 (hnew b hb.2 h)) (fun h => h.elim (hnil b) (fun h => h.elim (hnil b) (hnil b)))⟩)
/-- all is done -/
theorem Mk.level (m : Mk w base E out k f lev h kv vv dv us) (hn : NodeV w (fun b => (E b ∨ base ≤ b) ∧ out.ownBlock ≠ some b) [.int .i64 lev, h, .int .i64 0, kv, vv, dv] (f k)) : Level w (fun b => E b ∨ base ≤ b) base out ((List.range (k + 1)).map f) := by
  refine ⟨us, by simpa using m.own, fun g hg => .inr (own_lt m.own g hg).1, fun i s hs => ?_⟩
  have hi : i < k + 1 := by have := (List.getElem?_eq_some_iff.1 hs).1; simpa using this
  have hs' : s = f i := by rw [List.getElem?_map, List.getElem?_range hi] at hs; simpa using hs.symm
  subst hs'
  rcases Nat.lt_or_ge i k with hk | hk
  · exact (m.full i hk).weak (fun b hb => hb.1)
  · obtain rfl : i = k := by omega
    rw [m.last]; exact hn.weak (fun b hb => hb.1)
end
end Go.Proofs.Ytgjphmlmndcaeaa

namespace Go.Proofs.Ytgjphmlmndcaeaa
open Go.RowKit
/-- a link: the number, the low, the node -/
abbrev Lk := Int × List UInt8 × Nd
/-- the eight cells of link j of a row -/
def lb (us : List Value) (j : Nat) : List Value := (us.drop (j * 8)).take 8
theorem lb_app_lt {us xs : List Value} {n j : Nat} (hl : us.length = n * 8) (hj : j < n) : lb (us ++ xs) j = lb us j := by
  unfold lb
  rw [List.drop_append_of_le_length (by omega), List.take_append_of_le_length (by rw [List.length_drop]; omega)]
theorem lb_app_eq {us xs : List Value} {n : Nat} (hl : us.length = n * 8) (hx : xs.length = 8) : lb (us ++ xs) n = xs := by
  unfold lb
  rw [List.drop_append, List.drop_of_length_le (by omega), hl, Nat.sub_self, List.nil_append, List.drop_zero, List.take_of_length_le (by omega)]
theorem lb_at {us : List Value} {k c : Nat} {u : Value} (hc : c < 8) (h : (lb us k)[c]? = some u) : us[k * 8 + c]? = some u := by
  unfold lb at h
  rwa [List.getElem?_take, if_pos hc, List.getElem?_drop] at h
theorem NdV.lt {w : World} {F : Nat → Prop} {x : Nd} {hA kA vA dA : Option Addr} {hn hc kn kc vn vc dn dc : Nat} (h : NdV w F x hA kA vA dA hn hc kn kc vn vc dn dc) : NdV w (fun b => F b ∧ b < w.heap.size) x hA kA vA dA hn hc kn kc vn vc dn dc :=
  ⟨h.h.lt, h.k.lt, h.v.lt, h.d.lt⟩
/-- one link's eight cells -/
def LkV (w : World) (F : Nat → Prop) (vs : List Value) (k : Lk) : Prop :=
  ∃ lA hA kA vA dA ln lc hn hc kn kc vn vc dn dc, vs = [.int .i64 k.1, .slice lA ln lc, .int .i64 k.2.2.lev, .slice hA hn hc, .int .i64 k.2.2.right, .slice kA kn kc, .slice vA vn vc, .slice dA dn dc] ∧ Bt w F lA ln lc k.2.1 ∧ NdV w F k.2.2 hA kA vA dA hn hc kn kc vn vc dn dc
/-- links in a slice of n -/
def Lks (w : World) (D : Nat → Prop) (A : Option Addr) (n : Nat) (l : List Lk) : Prop :=
  Hid (n = l.length) ∧ ∃ us, Rd w D 8 A n us ∧ ∀ (j : Nat) (k : Lk), l[j]? = some k → LkV w D (lb us j) k
/-- links being put one behind the other: i are there -/
structure Ch (w : World) (base : Nat) (out : Value) (i : Nat) (us : List Value) (f : Nat → Lk) : Prop where
  own : w.ownsRow base 106 8 out i us
  full : ∀ j, j < i → LkV w (fun b => base ≤ b ∧ out.ownBlock ≠ some b) (lb us j) (f j)
section
variable {S D D' : Nat → Prop} {w w' : World} {vs us : List Value} {k : Lk} {A : Option Addr} {n base i : Nat} {l : List Lk} {out : Value} {f : Nat → Lk}
theorem LkV.next (h : LkV w D vs k) (hc : Chg S w w') (hs : ∀ b, b < w.heap.size → D b → ¬ S b) (hD : ∀ b, b < w.heap.size → D b → D' b) : LkV w' D' vs k := by
  obtain ⟨lA, hA, kA, vA, dA, ln, lc, hn, hc', kn, kc, vn, vc, dn, dc, h1, h2, h3⟩ := h
  exact ⟨lA, hA, kA, vA, dA, ln, lc, hn, hc', kn, kc, vn, vc, dn, dc, h1, (h2.lt.chg hc (fun b hb => hs b hb.2 hb.1)).weak (fun b hb => hD b hb.2 hb.1), (h3.lt.chg hc (fun b hb => hs b hb.2 hb.1)).weak (fun b hb => hD b hb.2 hb.1)⟩
theorem LkV.weak (h : LkV w D vs k) (hD : ∀ b, D b → D' b) : LkV w D' vs k := h.next (Chg.refl Nil w) (fun _ _ _ h => h) (fun b _ hb => hD b hb)
theorem Lks.next (h : Lks w D A n l) (hc : Chg S w w') (hs : ∀ b, b < w.heap.size → D b → ¬ S b) (hD : ∀ b, b < w.heap.size → D b → D' b) : Lks w' D' A n l :=
  let ⟨h1, us, h2, h3⟩ := h; ⟨h1, us, ((h2.lt (by omega)).chg hc (fun b hb => hs b hb.2 hb.1)).weak (fun b hb => hD b hb.2 hb.1), fun j k hk => (h3 j k hk).next hc hs hD⟩
theorem Lks.weak (h : Lks w D A n l) (hD : ∀ b, D b → D' b) : Lks w D' A n l := h.next (Chg.refl Nil w) (fun _ _ _ h => h) (fun b _ hb => hD b hb)
theorem Lks.below (h : Lks w D A n l) (hb : Below w.heap.size w w') : Lks w' D A n l := h.next (Chg.of_below (S := Nil) hb) (fun _ _ _ h => h) (fun _ _ hb => hb)
theorem Lks.len (h : Lks w D A n l) : n = l.length := h.1.out
theorem Lks.at_ {j : Nat} (h : Lks w D A n l) (hj : j < n) : ∃ b o k lA hA kA vA dA ln lc hn hc kn kc vn vc dn dc, A = some ⟨b, o, none⟩ ∧ D b ∧ l[j]? = some k ∧
    w.cell? ⟨b, o + j * 8, none⟩ = some (.int .i64 k.1) ∧ w.cell? ⟨b, o + j * 8 + 1, none⟩ = some (.slice lA ln lc) ∧ w.cell? ⟨b, o + j * 8 + 2, none⟩ = some (.int .i64 k.2.2.lev) ∧ w.cell? ⟨b, o + j * 8 + 3, none⟩ = some (.slice hA hn hc) ∧
    w.cell? ⟨b, o + j * 8 + 4, none⟩ = some (.int .i64 k.2.2.right) ∧ w.cell? ⟨b, o + j * 8 + 5, none⟩ = some (.slice kA kn kc) ∧ w.cell? ⟨b, o + j * 8 + 6, none⟩ = some (.slice vA vn vc) ∧ w.cell? ⟨b, o + j * 8 + 7, none⟩ = some (.slice dA dn dc) ∧
    Bt w D lA ln lc k.2.1 ∧ NdV w D k.2.2 hA kA vA dA hn hc kn kc vn vc dn dc := by
  obtain ⟨h1, us, h2, h3⟩ := h
  have hl : j < l.length := by have := h1.out; omega
  obtain ⟨b, o, hA', hD, hcell⟩ := h2.2 (by omega)
  obtain ⟨lA, hA, kA, vA, dA, ln, lc, hn, hc', kn, kc, vn, vc, dn, dc, e, q1, q2⟩ := h3 j l[j] (List.getElem?_eq_getElem hl)
  have c : ∀ (t : Nat) (u : Value), t < 8 → (lb us j)[t]? = some u → w.cell? ⟨b, o + j * 8 + t, none⟩ = some u := fun t u ht hu => by
    rw [Nat.add_assoc]; exact hcell _ _ (lb_at ht hu)
  rw [e] at c
  exact ⟨b, o, l[j], lA, hA, kA, vA, dA, ln, lc, hn, hc', kn, kc, vn, vc, dn, dc, hA', hD, List.getElem?_eq_getElem hl, c 0 _ (by omega) rfl, c 1 _ (by omega) rfl, c 2 _ (by omega) rfl, c 3 _ (by omega) rfl, c 4 _ (by omega) rfl, c 5 _ (by omega) rfl, c 6 _ (by omega) rfl, c 7 _ (by omega) rfl, q1, q2⟩
theorem Ch.nil (w : World) (base : Nat) (f : Nat → Lk) : Ch w base (.slice none 0 0) 0 [] f := ⟨World.ownsRow_nil _ _ _ _, fun j hj => absurd hj (by omega)⟩
theorem Ch.chg (h : Ch w base out i us f) (hc : Chg S w w') (hs : ∀ b, base ≤ b → ¬ S b) : Ch w' base out i us f :=
  ⟨own_chg h.own hc (fun g hg => hs g (own_lt h.own g hg).1), fun j hj => (h.full j hj).next hc (fun b _ hb => hs b hb.1) (fun _ _ hb => hb)⟩
theorem Ch.below (h : Ch w base out i us f) (hb : Below w.heap.size w w') : Ch w' base out i us f :=
  ⟨own_below h.own hb, fun j hj => (h.full j hj).next (Chg.of_below (S := Nil) hb) (fun _ _ _ h => h) (fun _ _ hb => hb)⟩
/-- one link more -/
theorem Ch.push {v2 : Value} {xs : List Value} (h : Ch w base out i us f) (ho : w'.ownsRow base 106 8 v2 (i + 1) (us ++ xs)) (hg : w.grownBy w' out.ownBlock) (hat : v2.ownBlock = out.ownBlock ∨ v2.ownBlock = some w.heap.size)
    (hx : LkV w (fun b => base ≤ b ∧ out.ownBlock ≠ some b) xs (f i)) (hx8 : xs.length = 8) : Ch w' base v2 (i + 1) (us ++ xs) f := by
  have hl : us.length = i * 8 := h.own.1
  have key : ∀ b, b < w.heap.size → (base ≤ b ∧ out.ownBlock ≠ some b) → (base ≤ b ∧ v2.ownBlock ≠ some b) := fun b hb hx => ⟨hx.1, fun e => by
    rcases hat with h | h
    · exact hx.2 (h ▸ e)
    · rw [h] at e; injection e with e; omega⟩
  refine ⟨ho, fun j hj => ?_⟩
  by_cases hji : j = i
  · subst hji
    rw [lb_app_eq hl hx8]
    exact hx.next (Chg.of_grown hg) (fun b _ hb e => hb.2 e) key
  · rw [lb_app_lt hl (by omega)]
    exact (h.full j (by omega)).next (Chg.of_grown hg) (fun b _ hb e => hb.2 e) key
theorem Ch.links {c : Nat} (h : Ch w base (.slice A n c) n us f) : Lks w (From base) A n ((List.range n).map f) := by
  refine ⟨Lib.hid (by simp), us, Rd.of_own h.own, fun j k hk => ?_⟩
  have hj : j < n := by have := (List.getElem?_eq_some_iff.1 hk).1; simpa using this
  rw [List.getElem?_map, List.getElem?_range hj] at hk
  injection hk with hk
  subst hk
  exact (h.full j hj).weak (fun b hb => hb.1)
end
end Go.Proofs.Ytgjphmlmndcaeaa

namespace Go.Proofs.Ytgjphmlmndcaeaa
open Go.RowKit Go.Maps
theorem intKeyed : Keyed Try.prog 3 := int_keyed Try.underlying3
theorem intZero (w : World) : (zeroValue 3).run Try.prog w = .ok (.int .i64 0) w := by kernel_rfl
theorem wf64 {a : Int} (h : -9223372036854775808 ≤ a) (h2 : a ≤ 9223372036854775807) : (Lit.int .i64 a).wf = true := by simp [Lit.wf, IntKind.min, IntKind.max, IntKind.signed, IntKind.bits]; omega
theorem lit_inj {H : Type} {a b : Int} (h : (DataW.lit (.int .i64 a) : DataW H) = .lit (.int .i64 b)) : a = b := by
  injection h with h
  injection h
/-- block b is a map of at most n entries that holds f k at k, nought where there is none -/
def MapII (w : World) (b n : Nat) (f : Int → Int) : Prop :=
  ∃ D : DataW Unit, w.ownsMap Try.prog 3 (plainElem Try.prog 3) b n D ∧ IsMap D ∧ ∀ k : Int, D.atKey (.int .i64 k) (.lit (.int .i64 0)) = .lit (.int .i64 (f k))
section
variable {w w' : World} {b n : Nat} {f : Int → Int}
theorem MapII.made (w : World) : MapII (w.alloc (.map #[] 0)) w.heap.size 0 (fun _ => 0) :=
  ⟨.map [], World.ownsMap_made _ _ _ _, isMap_empty, fun _ => rfl⟩
theorem MapII.lt (h : MapII w b n f) : b < w.heap.size := by obtain ⟨D, h, _⟩ := h; exact h.lt
theorem MapII.chg {S : Nat → Prop} (h : MapII w b n f) (hc : Chg S w w') (hs : ¬ S b) : MapII w' b n f := by
  have hlt := h.lt
  obtain ⟨D, ⟨es, clock, hb, F, hs', hD⟩, hm, hf⟩ := h
  exact ⟨D, ⟨es, clock, (hc.block b hlt hs).trans hb, F, hs', hD⟩, hm, hf⟩
theorem MapII.below (h : MapII w b n f) (hb : Below w.heap.size w w') : MapII w' b n f := h.chg (S := Nil) (Chg.of_below hb) (fun hf => hf)
theorem MapII.mono {m : Nat} (h : MapII w b n f) (hm : n ≤ m) : MapII w b m f := let ⟨D, a, c⟩ := h; ⟨D, a.mono hm, c⟩
/-- m[k] -/
theorem MapII.look (h : MapII w b n f) {k : Int} (h1 : -9223372036854775808 ≤ k) (h2 : k ≤ 9223372036854775807) : (Instr.lookup 107 (.map (some b)) (.int .i64 k) false).run Try.prog w = .ok (.int .i64 (f k)) w := by
  obtain ⟨D, a, _, hf⟩ := h
  obtain ⟨c, hrun, hat, _⟩ := a.lookup_int intKeyed Try.underlying107 Try.underlying3 (intZero w) (keyOf_int_mk Try.underlying3 (wf64 h1 h2))
  rw [hf k] at hat
  have : f k = c := lit_inj hat
  rw [this]; exact hrun
/-- m[k] = v -/
theorem wpList_MapII_put {ops : Array Oper} {rest : List Oper} {o : Oper} {a : Act} {Q : Exit → Act → World → Prop}
    (hg : o.guard = none) (m x v : Operand) (hop : o.op = Op.mapUpdate 107 m x v) (hm : a.eval m = .map (some b)) (hown : MapII w b n f) (hn : n < maxLen) (k u : Int) (hx : a.eval x = .int .i64 k) (hv : a.eval v = .int .i64 u)
    (h1 : -9223372036854775808 ≤ k) (h2 : k ≤ 9223372036854775807) (h3 : -9223372036854775808 ≤ u) (h4 : u ≤ 9223372036854775807)
    (hK : ∀ w', MapII w' b (n + 1) (fun j => if j = k then u else f j) → Chg (One b) w w' → wpList Try.prog ops Q rest (a.put o.dst undef) w') :
    wpList Try.prog ops Q (o :: rest) a w := by
  obtain ⟨D, hD, hM, hf⟩ := hown
  refine wpList_mapUpdate_own w hg m x v 107 hop 3 3 intKeyed Try.underlying107 _ b n D hm hD hn (.int .i64 k) (.int .i64 u) (.int .i64 k) hx hv (keyOf_int_mk Try.underlying3 (wf64 h1 h2)) (.lit (.int .i64 u)) [] (plainElem_int Try.underlying3 (wf64 h3 h4)) ?_
  intro w' hw' hg'
  refine hK w' ⟨_, hw', hM.put _ _, fun j => ?_⟩ ((Chg.refl _ _).grown hg' (fun c hc _ => by injection hc with hc; exact hc.symm))
  by_cases hj : j = k
  · subst hj
    show _ = DataW.lit (Lit.int .i64 (if j = j then u else f j))
    rw [if_pos rfl, atKey_put_same hM (by simp [WideAt.IsKeyLit])]
  · show _ = DataW.lit (Lit.int .i64 (if j = k then u else f j))
    rw [if_neg hj, atKey_put_other (fun e => hj (by injection e)), hf j]
end
end Go.Proofs.Ytgjphmlmndcaeaa

namespace Go.Proofs.Ytgjphmlmndcaeaa
open Go.RowKit

section
variable (fill inn : Nat) (l : List Ent)
/-- how many nodes level k has -/
def nL : Nat → Nat
  | 0 => pn l.length fill
  | k + 1 => pn (nL k) inn
/-- how many nodes lie on the levels below k -/
def dL : Nat → Nat
  | 0 => 0
  | k + 1 => dL k + nL fill inn l k
/-- the high of node i of level k -/
def hL : Nat → Nat → List UInt8
  | 0 => hiAt fill l
  | k + 1 => hiA inn (lvK (dL fill inn l k) (nL fill inn l k) (hL k))
/-- node i of level k -/
def sL : Nat → Nat → Slt
  | 0 => leafS fill l (nL fill inn l 0)
  | k + 1 => aboveS inn ((k : Int) + 1) (lvK (dL fill inn l k) (nL fill inn l k) (hL fill inn l k)) (dL fill inn l (k + 1)) (nL fill inn l (k + 1))
/-- the slots of the levels below k -/
def flat : Nat → List Slt
  | 0 => []
  | k + 1 => flat k ++ (List.range (nL fill inn l k)).map (sL fill inn l k)
end
section
variable {fill inn : Nat} {l : List Ent}
theorem flat_len (k : Nat) : (flat fill inn l k).length = dL fill inn l k := by
  induction k with
  | zero => rfl
  | succ k ih => rw [flat, List.length_append, ih, List.length_map, List.length_range, dL]
theorem nL_pos (hf : 1 ≤ fill) (hi : 1 ≤ inn) (k : Nat) : 1 ≤ nL fill inn l k := by
  cases k with
  | zero => exact pn_pos _ _ hf
  | succ k => exact pn_pos _ _ hi
theorem dL_mono {j k : Nat} (h : j ≤ k) : dL fill inn l j ≤ dL fill inn l k := by
  induction k with
  | zero => have : j = 0 := by omega
            subst this; exact Nat.le_refl _
  | succ k ih =>
    rcases Nat.lt_or_ge k j with h2 | h2
    · have : j = k + 1 := by omega
      subst this; exact Nat.le_refl _
    · exact Nat.le_trans (ih h2) (by rw [dL]; omega)
theorem flat_at (k : Nat) : ∀ j i, j < k → i < nL fill inn l j → (flat fill inn l k)[dL fill inn l j + i]? = some (sL fill inn l j i) := by
  induction k with
  | zero => intro j i h; omega
  | succ k ih =>
    intro j i hj hi
    rw [flat]
    rcases Nat.lt_or_ge j k with h | h
    · have hm : dL fill inn l (j + 1) ≤ dL fill inn l k := dL_mono h
      rw [dL] at hm
      rw [List.getElem?_append_left (by rw [flat_len]; omega)]
      exact ih j i h hi
    · have : j = k := by omega
      subst this
      rw [List.getElem?_append_right (by rw [flat_len]; omega), flat_len, show dL fill inn l j + i - dL fill inn l j = i by omega, List.getElem?_map, List.getElem?_range hi]
      rfl
theorem ups_flat {nd : Int} (hf : 1 ≤ fill) (hi : 1 ≤ inn) : ∀ (f k : Nat), (lv nd inn f (nL fill inn l k) (dL fill inn l k)).2 = 0 →
    ∃ L, k ≤ L ∧ L < k + f ∧ nL fill inn l L = 1 ∧ (∀ j, k ≤ j → j < L → 1 < nL fill inn l j) ∧ ups inn f ((k : Int) + 1) (flat fill inn l (k + 1)) (lvK (dL fill inn l k) (nL fill inn l k) (hL fill inn l k)) = (flat fill inn l (L + 1), lvK (dL fill inn l L) (nL fill inn l L) (hL fill inn l L)) ∧
      (lv nd inn f (nL fill inn l k) (dL fill inn l k)).1 = (dL fill inn l (L + 1) : Int) ∧ (dL fill inn l (L + 1) : Int) ≤ nd := by
  intro f
  induction f with
  | zero => intro k h; simp [lv] at h
  | succ f ih =>
    intro k h
    have hfl : ¬ nd - (dL fill inn l k : Int) < (nL fill inn l k : Int) := by
      intro hx
      rw [lv_full hx] at h
      simp at h
    have hp := nL_pos (l := l) hf hi k
    by_cases h1 : nL fill inn l k = 1
    · refine ⟨k, Nat.le_refl _, by omega, h1, fun j h2 h3 => by omega, ups_one (by rw [lvK_len]; omega), ?_, ?_⟩
      · rw [lv_one hfl (by omega), dL]
        simp only [Int.natCast_add]
      · rw [dL]; omega
    · have hlt : 1 < nL fill inn l k := by omega
      rw [lv_step hfl (by omega), ← pn_cast _ inn hi] at h ⊢
      have e : (dL fill inn l k : Int) + (nL fill inn l k : Int) = (dL fill inn l (k + 1) : Int) := by rw [dL]; simp only [Int.natCast_add]
      rw [e] at h ⊢
      obtain ⟨L, a, b, c, d, u, v, x⟩ := ih (k + 1) h
      refine ⟨L, by omega, by omega, c, fun j h2 h3 => ?_, ?_, v, x⟩
      · rcases Nat.lt_or_ge k j with h4 | h4
        · exact d j h4 h3
        · have : j = k := by omega
          subst this; exact hlt
      · rw [← u, ups, if_pos (by rw [lvK_len]; exact hlt)]
        simp only [lvK_len, flat_len]
        rfl
theorem pn_lt {n m i : Nat} (hm : 1 ≤ m) (hn : 1 ≤ n) : i < pn n m ↔ i * m < n := by
  obtain ⟨h1, h2⟩ := pn_bounds n m hm hn
  constructor
  · intro h
    have : (i + 1) * m ≤ pn n m * m := Nat.mul_le_mul_right m h
    rw [Nat.add_mul] at this
    omega
  · intro h
    rcases Nat.lt_or_ge i (pn n m) with h3 | h3
    · exact h3
    · have : pn n m * m ≤ i * m := Nat.mul_le_mul_right m h3
      omega
theorem pn_zero (m : Nat) : pn 0 m = 1 := by simp [pn, parts]
theorem part_lvK (d M n s : Nat) (h : Nat → List UInt8) : ((lvK d M h).drop s).take n = (List.range (min n (M - s))).map fun (j : Nat) => ((d : Int) + ((s + j : Nat) : Int) + 1, h (s + j)) := by
  apply List.ext_getElem?
  intro j
  rw [List.getElem?_take, List.getElem?_map]
  by_cases hj : j < n
  · rw [if_pos hj, List.getElem?_drop, lvK, List.getElem?_map]
    by_cases hm : s + j < M
    · rw [List.getElem?_range hm, List.getElem?_range (by omega)]; rfl
    · rw [List.getElem?_eq_none (by simpa using hm), List.getElem?_eq_none (by simp; omega)]; rfl
  · rw [if_neg hj, List.getElem?_eq_none (by simp; omega)]; rfl
theorem range_last {α : Type} (f : Nat → α) (m : Nat) (d : α) (hm : 1 ≤ m) : ((List.range m).map f).getLastD d = f (m - 1) := by
  obtain ⟨m, rfl⟩ : ∃ k, m = k + 1 := ⟨m - 1, by omega⟩
  rw [List.range_succ, List.map_append, List.map_singleton]
  simp
theorem range_init {α : Type} (f : Nat → α) (m : Nat) : ((List.range m).map f).dropLast = (List.range (m - 1)).map f := by
  cases m with
  | zero => rfl
  | succ m => rw [List.range_succ, List.map_append, List.map_singleton, List.dropLast_concat]; rfl
/-- how many kids node i above M nodes has -/
def mK (inn M i : Nat) : Nat := min inn (M - i * inn)
theorem mK_pos {M i : Nat} (hi : 1 ≤ inn) (hM : 1 ≤ M) (h : i < pn M inn) : 1 ≤ mK inn M i := by
  have := (pn_lt hi hM).1 h
  unfold mK; omega
theorem hL_succ {k i : Nat} (hf : 1 ≤ fill) (hi : 1 ≤ inn) (h : i < nL fill inn l (k + 1)) : hL fill inn l (k + 1) i = hL fill inn l k (i * inn + (mK inn (nL fill inn l k) i - 1)) := by
  have hp := mK_pos hi (nL_pos (l := l) hf hi k) h
  show hiA inn (lvK _ _ _) i = _
  unfold hiA kpart
  rw [part_lvK]
  exact congrArg Prod.snd (range_last _ _ _ hp)
theorem keys_succ (k i : Nat) : (sL fill inn l (k + 1) i).2.keys = (List.range (mK inn (nL fill inn l k) i - 1)).map fun j => hL fill inn l k (i * inn + j) := by
  show (kpart inn (lvK _ _ _) i).dropLast.map Prod.snd = _
  unfold kpart
  rw [part_lvK, range_init, List.map_map]
  rfl
theorem kids_succ (k i : Nat) : (sL fill inn l (k + 1) i).2.kids = (List.range (mK inn (nL fill inn l k) i)).map fun (j : Nat) => (dL fill inn l k : Int) + ((i * inn + j : Nat) : Int) + 1 := by
  show (kpart inn (lvK _ _ _) i).map Prod.fst = _
  unfold kpart
  rw [part_lvK, List.map_map]
  rfl
theorem high_eq (k i : Nat) : (sL fill inn l k i).2.high = hL fill inn l k i := by cases k <;> rfl
theorem lev_eq (k i : Nat) : (sL fill inn l k i).2.lev = (k : Int) := by cases k <;> rfl
theorem right_eq (k i : Nat) : (sL fill inn l k i).2.right = if i + 1 < nL fill inn l k then (dL fill inn l k : Int) + (i : Int) + 1 + 1 else 0 := by
  cases k with
  | zero => show (if i + 1 < nL fill inn l 0 then (i : Int) + 1 + 1 else 0) = _; simp only [dL]; split <;> omega
  | succ k => rfl

/-- the highs of a level rise -/
structure HOk (fill inn : Nat) (l : List Ent) (k : Nat) : Prop where
  some_ : ∀ i, i + 1 < nL fill inn l k → 1 ≤ (hL fill inn l k i).length ∧ (hL fill inn l k i).length ≤ 64
  none_ : ∀ i, i + 1 = nL fill inn l k → hL fill inn l k i = []
  up : ∀ i j, i < j → j + 1 < nL fill inn l k → TLt (hL fill inn l k i) (hL fill inn l k j)
theorem mK_end {M i : Nat} (hi : 1 ≤ inn) (hM : 1 ≤ M) (h : i < pn M inn) : i * inn + (mK inn M i - 1) + 1 = min ((i + 1) * inn) M := by
  have := (pn_lt hi hM).1 h
  rw [Nat.add_mul]
  unfold mK; omega
theorem HOk.step {k : Nat} (hf : 1 ≤ fill) (hi : 1 ≤ inn) (h : HOk fill inn l k) : HOk fill inn l (k + 1) := by
  have hM := nL_pos (l := l) hf hi k
  have e : nL fill inn l (k + 1) = pn (nL fill inn l k) inn := rfl
  have q : ∀ i, i + 1 < nL fill inn l (k + 1) → (i + 1) * inn < nL fill inn l k := fun i h => (pn_lt hi hM).1 (by rw [← e]; exact h)
  refine ⟨fun i hi' => ?_, fun i hi' => ?_, fun i j hij hj => ?_⟩
  · rw [hL_succ hf hi (by omega)]
    have h1 := mK_end (inn := inn) hi hM (i := i) (by rw [← e]; omega)
    have h2 := q i hi'
    exact h.some_ _ (by omega)
  · rw [hL_succ hf hi (by omega)]
    have h1 := mK_end (inn := inn) hi hM (i := i) (by rw [← e]; omega)
    have h2 : ¬ (i + 1) * inn < nL fill inn l k := fun hx => by have := (pn_lt hi hM).2 hx; rw [← e] at this; omega
    exact h.none_ _ (by omega)
  · rw [hL_succ hf hi (by omega), hL_succ hf hi (by omega)]
    have h1 := mK_end (inn := inn) hi hM (i := i) (by rw [← e]; omega)
    have h2 := mK_end (inn := inn) hi hM (i := j) (by rw [← e]; omega)
    have h3 := q i (by omega)
    have h4 := q j hj
    have h5 : (i + 2) * inn ≤ (j + 1) * inn := Nat.mul_le_mul_right inn (by omega)
    have h6 : (i + 2) * inn = (i + 1) * inn + inn := by rw [show i + 2 = (i + 1) + 1 by omega, Nat.add_mul (i + 1), Nat.one_mul]
    refine h.up _ _ (by omega) (by omega)
theorem rising_lt (h : Rising l) : ∀ (d i : Nat), i + d + 1 < l.length → TLt (l.getD i ([], [])).1 (l.getD (i + d + 1) ([], [])).1 := by
  have one : ∀ i, i + 1 < l.length → TLt (l.getD i ([], [])).1 (l.getD (i + 1) ([], [])).1 := by
    intro i hi
    have := h (i + 1) hi
    unfold badAt at this
    split at this
    · contradiction
    · split at this
      · simp at this
      · rename_i h2
        simp only [Nat.succ_pos, true_and, Nat.add_sub_cancel, Int.not_le] at h2
        exact h2
  intro d
  induction d with
  | zero => intro i hi; exact one i hi
  | succ d ih => intro i hi; exact (ih i (by omega)).trans (one (i + d + 1) (by omega))
theorem rising_ent (h : Rising l) {i : Nat} (hi : i < l.length) : 1 ≤ (l.getD i ([], [])).1.length ∧ (l.getD i ([], [])).1.length ≤ 64 ∧ (l.getD i ([], [])).2.length ≤ 256 := by
  have := h i hi
  unfold badAt at this
  split at this
  · contradiction
  · rename_i h2
    have h2 : entE (l.getD i ([], [])) = 0 := by simpa using h2
    unfold entE at h2
    split at h2
    · assumption
    · cases h2
/-- the text between leaf i and the next one -/
theorem sep_ok (h : Rising l) (hf : 1 ≤ fill) {i : Nat} (hi : (i + 1) * fill < l.length) :
    TLt (l.getD ((i + 1) * fill - 1) ([], [])).1 (hiAt fill l i) ∧ TLe (hiAt fill l i) (l.getD ((i + 1) * fill) ([], [])).1 ∧ 1 ≤ (hiAt fill l i).length ∧ (hiAt fill l i).length ≤ 64 := by
  have h1 : 1 ≤ (i + 1) * fill := Nat.mul_pos (by omega) hf
  have := rising_lt h 0 ((i + 1) * fill - 1) (by omega)
  rw [show (i + 1) * fill - 1 + 0 + 1 = (i + 1) * fill by omega] at this
  have h2 := betw_ok this (rising_ent h hi).2.1
  have e : hiAt fill l i = (betw (l.getD ((i + 1) * fill - 1) ([], [])).1 (l.getD ((i + 1) * fill) ([], [])).1).1 := by unfold hiAt; rw [if_pos hi]
  rw [e]
  exact h2
theorem leaf_lt (hf : 1 ≤ fill) {i : Nat} (h : i + 1 < pn l.length fill) : (i + 1) * fill < l.length := by
  rcases Nat.eq_zero_or_pos l.length with h0 | h0
  · rw [h0, pn_zero] at h; omega
  · exact (pn_lt hf h0).1 h
theorem leaf_ge (hf : 1 ≤ fill) {i : Nat} (h : ¬ i + 1 < pn l.length fill) : ¬ (i + 1) * fill < l.length := by
  intro hx
  rcases Nat.eq_zero_or_pos l.length with h0 | h0
  · omega
  · exact h ((pn_lt hf h0).2 hx)
theorem HOk.zero (h : Rising l) (hf : 1 ≤ fill) : HOk fill inn l 0 := by
  refine ⟨fun i hi => ?_, fun i hi => ?_, fun i j hij hj => ?_⟩
  · exact (sep_ok h hf (leaf_lt hf hi)).2.2
  · show hiAt fill l i = []
    unfold hiAt
    rw [if_neg (leaf_ge hf (by show ¬ i + 1 < nL fill inn l 0; omega))]
  · have h2 := sep_ok h hf (leaf_lt hf (i := i) (by show i + 1 < nL fill inn l 0; omega))
    have h3 := sep_ok h hf (leaf_lt hf hj)
    have h5 : (i + 2) * fill ≤ (j + 1) * fill := Nat.mul_le_mul_right fill (by omega)
    have h6 : (i + 2) * fill = (i + 1) * fill + fill := by rw [show i + 2 = (i + 1) + 1 by omega, Nat.add_mul (i + 1), Nat.one_mul]
    have h7 := leaf_lt hf hj
    show TLt (hiAt fill l i) (hiAt fill l j)
    refine TLe.trans_lt h2.2.1 ?_
    refine TLe.trans_lt ?_ h3.1
    rcases Nat.lt_or_ge ((i + 1) * fill) ((j + 1) * fill - 1) with h8 | h8
    · have := rising_lt h ((j + 1) * fill - 1 - (i + 1) * fill - 1) ((i + 1) * fill) (by omega)
      rw [show (i + 1) * fill + ((j + 1) * fill - 1 - (i + 1) * fill - 1) + 1 = (j + 1) * fill - 1 by omega] at this
      exact this.le
    · rw [show (j + 1) * fill - 1 = (i + 1) * fill by omega]
      exact TLe.refl _
theorem hok (h : Rising l) (hf : 1 ≤ fill) (hi : 1 ≤ inn) (k : Nat) : HOk fill inn l k := by
  induction k with
  | zero => exact HOk.zero h hf
  | succ k ih => exact ih.step hf hi
end
end Go.Proofs.Ytgjphmlmndcaeaa
