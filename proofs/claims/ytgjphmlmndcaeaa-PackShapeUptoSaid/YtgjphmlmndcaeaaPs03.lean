/- Parts of a function's code, by the number of a block or a region. No program in sight. A region that draws its order: what is read is read first, while a condition on the world holds; the condition is asked only till a certain operation has come up. Over any program. A region that draws its order: a condition that every operation keeps. Over any program. WALKS: parts of node.Check: keys that rise; keys and values of fit length; what lies beyond. -/
import Derived.RowKit
import Derived.OrdersHeld
import Derived.Deep.RegionHeld
import Derived.Below
import Derived.Test.YtgjphmlmndcaeaaPs01
import Derived.Test.YtgjphmlmndcaeaaPs02
import Derived.Deep.LoopGhost
import Derived.Deep.Cut
set_option linter.unusedVariables false
set_option linter.unusedSimpArgs false
namespace Go.Proofs.Ytgjphmlmndcaeaa
/-- what block k holds -/
def blockIn (k : Nat) : Code → Option Code
  | .block n c => if Nat.beq n k then some c else blockIn k c
  | .seq a b => match blockIn k a with
    | some c => some c
    | none => blockIn k b
  | .loop c => blockIn k c
  | .scope c => blockIn k c
  | .cond _ a b => match blockIn k a with
    | some c => some c
    | none => blockIn k b
  | _ => none
def isRegion (k : Nat) : Code → Bool
  | .region i _ _ => Nat.beq i k
  | _ => false
/-- the sequence that begins with region k -/
def regionIn (k : Nat) : Code → Option Code
  | .seq a b => if isRegion k a then some (.seq a b) else match regionIn k a with
    | some c => some c
    | none => regionIn k b
  | .block _ c => regionIn k c
  | .loop c => regionIn k c
  | .scope c => regionIn k c
  | .cond _ a b => match regionIn k a with
    | some c => some c
    | none => regionIn k b
  | _ => none
/-- region k itself -/
def regionAt (k : Nat) : Code → Option Code
  | .region i a b => if Nat.beq i k then some (.region i a b) else none
  | .seq a b => match regionAt k a with
    | some c => some c
    | none => regionAt k b
  | .block _ c => regionAt k c
  | .loop c => regionAt k c
  | .scope c => regionAt k c
  | .cond _ a b => match regionAt k a with
    | some c => some c
    | none => regionAt k b
  | _ => none
def codeOr (f : Option Code) : Code := f.getD .skip
end Go.Proofs.Ytgjphmlmndcaeaa

namespace Go.Proofs.Ytgjphmlmndcaeaa
open Go.RowKit
section
variable {P : Program} {ops : Array Oper} {Q : Exit → Act → World → Prop} {md : Region.Mode} {S : World → Prop} {b : Nat}

/-- whatever order is picked from here on; S holds behind every operation, till number b has come up -/
def wpU (P : Program) (md : Region.Mode) (ops : Array Oper) (Q : Exit → Act → World → Prop) (S : World → Prop) (b : Nat) : Nat → Array Bool → Act → World → Prop
  | 0, listed, a, w => Region.ready md ops listed = [] ∧ Q .normal a w
  | f + 1, listed, a, w =>
    (Region.ready md ops listed = [] → Q .normal a w) ∧
    ∀ i ∈ Region.ready md ops listed, wpOp P ops Q i (fun a' w' => ((listed.setIfInBounds i true).getD b true = false → S w') ∧ wpU P md ops Q S b f (listed.setIfInBounds i true) a' w') a w

theorem wpAny_of_U : ∀ (f : Nat) (listed : Array Bool) (a : Act) (w : World), wpU P md ops Q S b f listed a w → wpAny P md ops Q f listed a w
  | 0, _, _, _, h => h
  | f + 1, _, _, _, h => ⟨h.1, fun i hi => wpOp_mono (fun a' w' h' => wpAny_of_U f _ a' w' h'.2) (h.2 i hi)⟩

/-- number b waits for number i -/
def waits (md : Region.Mode) (ops : Array Oper) (b i : Nat) : Bool :=
  match ops[b]? with
  | some o => o.after.any fun e => Region.binds md e && e.on == i
  | none => false

theorem waits_spec {i : Nat} (h : waits md ops b i = true) {listed : Array Bool} (hi : listed.getD i true = false) : b ∉ Region.ready md ops listed := by
  intro hb
  obtain ⟨_, o, ho, hall⟩ := mem_ready.1 hb
  unfold waits at h
  rw [ho] at h
  obtain ⟨e, he, hx⟩ := Array.any_eq_true'.1 h
  simp only [Bool.and_eq_true, beq_iff_eq] at hx
  have h1 := hall e he hx.1
  rw [hx.2] at h1
  rcases Nat.lt_or_ge i listed.size with hl | hl
  · simp [hl] at h1 hi; rw [hi] at h1; cases h1
  · simp [Array.getElem?_eq_none hl] at h1

theorem getD_set_ne' {l : Array Bool} {i j : Nat} (h : i ≠ j) : (l.setIfInBounds i true).getD j true = l.getD j true := by
  simp only [Array.getD_eq_getD_getElem?, Array.getElem?_setIfInBounds, if_neg h]

/-- what may come up and yields its value while S holds may be taken first -/
theorem wpU_first {i : Nat} {oi : Oper} {v : Value} (hi : ops[i]? = some oi) (hsel : ∀ (j : Nat) (o : Oper) cs c, ops[j]? = some o → o.op ≠ .select cs c)
    (hQ : ∀ c a w, Q (.panic c) (a.put oi.dst v) w → Q (.panic c) a w) (hib : i ≠ b) (hw : waits md ops b i = true) :
    ∀ (f : Nat) (listed : Array Bool) (a : Act) (w : World),
      (∀ j oj, ops[j]? = some oj → j ≠ i → listed.getD j true = false → (∀ e ∈ oj.after, Region.binds md e = true → e.on ≠ i) → oi.apart ops oj = true) →
      i ∈ Region.ready md ops listed → listed.getD b true = false → YieldsIf P ops S oi v a → S w →
      wpU P md ops Q S b f (listed.setIfInBounds i true) (a.put oi.dst v) w → wpU P md ops Q S b (f + 1) listed a w := by
  intro f
  induction f with
  | zero =>
    intro listed a w _ hr _ hy hS H
    refine ⟨fun h => (by rw [h] at hr; cases hr), fun j hj => ?_⟩
    by_cases hji : j = i
    · subst hji; exact hy.wpOp hi hS ⟨fun _ => hS, H⟩
    · have h1 := ready_mono hj hji
      rw [H.1] at h1
      cases h1
  | succ f ih =>
    intro listed a w hfree hr hb hy hS H
    refine ⟨fun h => (by rw [h] at hr; cases hr), fun j hj => ?_⟩
    by_cases hji : j = i
    · subst hji; exact hy.wpOp hi hS ⟨fun _ => hS, H⟩
    · have h1 := H.2 j (ready_mono hj hji)
      have hil := (mem_ready.1 hr).1
      have hjb : j ≠ b := fun e => waits_spec hw hil (e ▸ hj)
      obtain ⟨hjun, oj, hoj, hall⟩ := mem_ready.1 hj
      have hnot : ∀ e ∈ oj.after, Region.binds md e = true → e.on ≠ i := by
        intro e he hbd heq
        have h2 := hall e he hbd
        rw [heq] at h2
        rcases Nat.lt_or_ge i listed.size with hl | hl
        · simp [hl] at h2 hil; rw [hil] at h2; cases h2
        · simp [Array.getElem?_eq_none hl] at h2
      have h2 := wpOp_putIf hoj (hfree j oj hoj hji hjun hnot) (fun cs c => hsel i oi cs c hi) (fun cs c => hsel j oj cs c hoj) hQ hy h1
      have hbj : (listed.setIfInBounds j true).getD b true = false := by rw [getD_set_ne' hjb]; exact hb
      have hfree' : ∀ k ok, ops[k]? = some ok → k ≠ i → (listed.setIfInBounds j true).getD k true = false → (∀ e ∈ ok.after, Region.binds md e = true → e.on ≠ i) → oi.apart ops ok = true := by
        intro k ok hk hki hun hno
        by_cases hjk : j = k
        · subst hjk; exact hfree _ ok hk hki hjun hno
        · rw [getD_set_ne' hjk] at hun; exact hfree k ok hk hki hun hno
      refine wpOp_mono (fun a' w' h3 => ?_) h2
      have hS' : S w' := h3.2.1 (by rw [getD_set_ne' hjb, getD_set_ne' hib]; exact hb)
      refine ⟨fun _ => hS', ih (listed.setIfInBounds j true) a' w' hfree' (ready_mono hr (Ne.symm hji)) hbj h3.1 hS' ?_⟩
      rw [Array.setIfInBounds_comm _ _ hji]
      exact h3.2.2

theorem wpU_take {i : Nat} {oi : Oper} {v : Value} {f : Nat} {listed : Array Bool} {a : Act} {w : World} (hi : ops[i]? = some oi)
    (hs : Region.noSelect ops = true) (hf : Region.free md ops listed i = true) (hr : (Region.ready md ops listed).contains i = true) (hw : (i != b && waits md ops b i && !(listed.getD b true)) = true)
    (hQ : ∀ c a w, Q (.panic c) (a.put oi.dst v) w → Q (.panic c) a w) (hS : S w) (hy : YieldsIf P ops S oi v a)
    (h : wpU P md ops Q S b f (listed.setIfInBounds i true) (a.put oi.dst v) w) : wpU P md ops Q S b (f + 1) listed a w := by
  simp only [Bool.and_eq_true, bne_iff_ne, Bool.not_eq_true'] at hw
  exact wpU_first hi (Region.noSelect_spec hs) hQ hw.1.1 hw.1.2 f listed a w (Region.free_spec hi hf) (by simpa using hr) hw.2 hy hS h

/-- what yields its value in whatever world may be taken first, at any time -/
theorem wpU_first' {i : Nat} {oi : Oper} {v : Value} (hi : ops[i]? = some oi) (hsel : ∀ (j : Nat) (o : Oper) cs c, ops[j]? = some o → o.op ≠ .select cs c)
    (hQ : ∀ c a w, Q (.panic c) (a.put oi.dst v) w → Q (.panic c) a w) (hib : i ≠ b) :
    ∀ (f : Nat) (listed : Array Bool) (a : Act) (w : World),
      (∀ j oj, ops[j]? = some oj → j ≠ i → listed.getD j true = false → (∀ e ∈ oj.after, Region.binds md e = true → e.on ≠ i) → oi.apart ops oj = true) →
      i ∈ Region.ready md ops listed → YieldsIf P ops (fun _ => True) oi v a → (listed.getD b true = false → S w) →
      wpU P md ops Q S b f (listed.setIfInBounds i true) (a.put oi.dst v) w → wpU P md ops Q S b (f + 1) listed a w := by
  intro f
  induction f with
  | zero =>
    intro listed a w _ hr hy hS H
    refine ⟨fun h => (by rw [h] at hr; cases hr), fun j hj => ?_⟩
    by_cases hji : j = i
    · subst hji; exact hy.wpOp hi trivial ⟨fun hb => hS (by rw [getD_set_ne' hib] at hb; exact hb), H⟩
    · have h1 := ready_mono hj hji
      rw [H.1] at h1
      cases h1
  | succ f ih =>
    intro listed a w hfree hr hy hS H
    refine ⟨fun h => (by rw [h] at hr; cases hr), fun j hj => ?_⟩
    by_cases hji : j = i
    · subst hji; exact hy.wpOp hi trivial ⟨fun hb => hS (by rw [getD_set_ne' hib] at hb; exact hb), H⟩
    · have h1 := H.2 j (ready_mono hj hji)
      have hil := (mem_ready.1 hr).1
      obtain ⟨hjun, oj, hoj, hall⟩ := mem_ready.1 hj
      have hnot : ∀ e ∈ oj.after, Region.binds md e = true → e.on ≠ i := by
        intro e he hbd heq
        have h2 := hall e he hbd
        rw [heq] at h2
        rcases Nat.lt_or_ge i listed.size with hl | hl
        · simp [hl] at h2 hil; rw [hil] at h2; cases h2
        · simp [Array.getElem?_eq_none hl] at h2
      have h2 := wpOp_putIf hoj (hfree j oj hoj hji hjun hnot) (fun cs c => hsel i oi cs c hi) (fun cs c => hsel j oj cs c hoj) hQ hy h1
      have hfree' : ∀ k ok, ops[k]? = some ok → k ≠ i → (listed.setIfInBounds j true).getD k true = false → (∀ e ∈ ok.after, Region.binds md e = true → e.on ≠ i) → oi.apart ops ok = true := by
        intro k ok hk hki hun hno
        by_cases hjk : j = k
        · subst hjk; exact hfree _ ok hk hki hjun hno
        · rw [getD_set_ne' hjk] at hun; exact hfree k ok hk hki hun hno
      refine wpOp_mono (fun a' w' h3 => ?_) h2
      have hS' : (listed.setIfInBounds j true).getD b true = false → S w' := fun hb => h3.2.1 (by
        rw [Array.setIfInBounds_comm _ _ (Ne.symm hji), getD_set_ne' hib]; exact hb)
      refine ⟨hS', ih (listed.setIfInBounds j true) a' w' hfree' (ready_mono hr (Ne.symm hji)) h3.1 hS' ?_⟩
      rw [Array.setIfInBounds_comm _ _ hji]
      exact h3.2.2
theorem wpU_free {i : Nat} {oi : Oper} {v : Value} {f : Nat} {listed : Array Bool} {a : Act} {w : World} (hi : ops[i]? = some oi)
    (hs : Region.noSelect ops = true) (hf : Region.free md ops listed i = true) (hr : (Region.ready md ops listed).contains i = true) (hw : (i != b) = true)
    (hQ : ∀ c a w, Q (.panic c) (a.put oi.dst v) w → Q (.panic c) a w) (hS : listed.getD b true = false → S w) (hy : YieldsIf P ops (fun _ => True) oi v a)
    (h : wpU P md ops Q S b f (listed.setIfInBounds i true) (a.put oi.dst v) w) : wpU P md ops Q S b (f + 1) listed a w :=
  wpU_first' hi (Region.noSelect_spec hs) hQ (by simpa using hw) f listed a w (Region.free_spec hi hf) (by simpa using hr) hy hS h

/-- one alone may come up: it is carried out -/
theorem wpU_one {i : Nat} {o : Oper} {f : Nat} {listed : Array Bool} {a : Act} {w : World} (hr : Region.ready md ops listed = [i]) (ho : ops[i]? = some o)
    (h : ∀ K' : Act → World → Prop, Hid (∀ a w, ((listed.setIfInBounds i true).getD b true = false → S w) → wpU P md ops Q S b f (listed.setIfInBounds i true) a w → K' a w) →
      if Region.wanted o (yielded ops a.tmps) = true then Oper.wp P o a w K' Q else K' (a.put o.dst undef) w) : wpU P md ops Q S b (f + 1) listed a w := by
  refine ⟨fun h0 => (by rw [hr] at h0; cases h0), fun j hj => ?_⟩
  rw [hr] at hj
  obtain rfl : j = i := by simpa using hj
  exact wpOp_step ho (fun K' hK => h K' (fun a w hS hW => hK a w ⟨hS, hW⟩))

theorem wpU_done {listed : Array Bool} {a : Act} {w : World} (hr : Region.ready md ops listed = []) (h : Q .normal a w) : ∀ f, wpU P md ops Q S b f listed a w
  | 0 => ⟨hr, h⟩
  | _ + 1 => ⟨fun _ => h, by rw [hr]; simp⟩

theorem wp_region_U {id : Nat} {a : Act} {w : World} (S : World → Prop) (b : Nat) (hm : P.follows .mixedOrders = true)
    (h : wpU P .any ops Q S b ops.size (Array.replicate ops.size false) a w.drew) : (Code.region id ops true).wp P Q a w :=
  wp_region_any hm (wpAny_of_U _ _ _ _ h)
end
end Go.Proofs.Ytgjphmlmndcaeaa

namespace Go.Proofs.Ytgjphmlmndcaeaa
open Go.RowKit
section
variable {P : Program} {ops : Array Oper} {Q : Exit → Act → World → Prop} {md : Region.Mode} {S : World → Prop}

/-- whatever order is picked from here on; S holds behind every operation -/
def wpV (P : Program) (md : Region.Mode) (ops : Array Oper) (Q : Exit → Act → World → Prop) (S : World → Prop) : Nat → Array Bool → Act → World → Prop
  | 0, listed, a, w => Region.ready md ops listed = [] ∧ Q .normal a w
  | f + 1, listed, a, w =>
    (Region.ready md ops listed = [] → Q .normal a w) ∧
    ∀ i ∈ Region.ready md ops listed, wpOp P ops Q i (fun a' w' => S w' ∧ wpV P md ops Q S f (listed.setIfInBounds i true) a' w') a w

theorem wpAny_of_V : ∀ (f : Nat) (listed : Array Bool) (a : Act) (w : World), wpV P md ops Q S f listed a w → wpAny P md ops Q f listed a w
  | 0, _, _, _, h => h
  | f + 1, _, _, _, h => ⟨h.1, fun i hi => wpOp_mono (fun a' w' h' => wpAny_of_V f _ a' w' h'.2) (h.2 i hi)⟩

theorem wpV_first {i : Nat} {oi : Oper} {v : Value} (hi : ops[i]? = some oi) (hsel : ∀ (j : Nat) (o : Oper) cs c, ops[j]? = some o → o.op ≠ .select cs c)
    (hQ : ∀ c a w, Q (.panic c) (a.put oi.dst v) w → Q (.panic c) a w) :
    ∀ (f : Nat) (listed : Array Bool) (a : Act) (w : World),
      (∀ j oj, ops[j]? = some oj → j ≠ i → listed.getD j true = false → (∀ e ∈ oj.after, Region.binds md e = true → e.on ≠ i) → oi.apart ops oj = true) →
      i ∈ Region.ready md ops listed → YieldsIf P ops S oi v a → S w →
      wpV P md ops Q S f (listed.setIfInBounds i true) (a.put oi.dst v) w → wpV P md ops Q S (f + 1) listed a w := by
  intro f
  induction f with
  | zero =>
    intro listed a w _ hr hy hS H
    refine ⟨fun h => (by rw [h] at hr; cases hr), fun j hj => ?_⟩
    by_cases hji : j = i
    · subst hji; exact hy.wpOp hi hS ⟨hS, H⟩
    · have h1 := ready_mono hj hji
      rw [H.1] at h1
      cases h1
  | succ f ih =>
    intro listed a w hfree hr hy hS H
    refine ⟨fun h => (by rw [h] at hr; cases hr), fun j hj => ?_⟩
    by_cases hji : j = i
    · subst hji; exact hy.wpOp hi hS ⟨hS, H⟩
    · have h1 := H.2 j (ready_mono hj hji)
      have hil := (mem_ready.1 hr).1
      obtain ⟨hjun, oj, hoj, hall⟩ := mem_ready.1 hj
      have hnot : ∀ e ∈ oj.after, Region.binds md e = true → e.on ≠ i := by
        intro e he hbd heq
        have h2 := hall e he hbd
        rw [heq] at h2
        rcases Nat.lt_or_ge i listed.size with hl | hl
        · simp [hl] at h2 hil; rw [hil] at h2; cases h2
        · simp [Array.getElem?_eq_none hl] at h2
      have h2 := wpOp_putIf hoj (hfree j oj hoj hji hjun hnot) (fun cs c => hsel i oi cs c hi) (fun cs c => hsel j oj cs c hoj) hQ hy h1
      have hfree' : ∀ k ok, ops[k]? = some ok → k ≠ i → (listed.setIfInBounds j true).getD k true = false → (∀ e ∈ ok.after, Region.binds md e = true → e.on ≠ i) → oi.apart ops ok = true := by
        intro k ok hk hki hun hno
        by_cases hjk : j = k
        · subst hjk; exact hfree _ ok hk hki hjun hno
        · rw [getD_set_ne' hjk] at hun; exact hfree k ok hk hki hun hno
      refine wpOp_mono (fun a' w' h3 => ?_) h2
      refine ⟨h3.2.1, ih (listed.setIfInBounds j true) a' w' hfree' (ready_mono hr (Ne.symm hji)) h3.1 h3.2.1 ?_⟩
      rw [Array.setIfInBounds_comm _ _ hji]
      exact h3.2.2

/-- what yields its value in whatever world meets S may be taken first -/
theorem wpV_take {i : Nat} {oi : Oper} {v : Value} {f : Nat} {listed : Array Bool} {a : Act} {w : World} (hi : ops[i]? = some oi)
    (hs : Region.noSelect ops = true) (hf : Region.free md ops listed i = true) (hr : (Region.ready md ops listed).contains i = true)
    (hQ : ∀ c a w, Q (.panic c) (a.put oi.dst v) w → Q (.panic c) a w) (hS : S w) (hy : YieldsIf P ops S oi v a)
    (h : wpV P md ops Q S f (listed.setIfInBounds i true) (a.put oi.dst v) w) : wpV P md ops Q S (f + 1) listed a w :=
  wpV_first hi (Region.noSelect_spec hs) hQ f listed a w (Region.free_spec hi hf) (by simpa using hr) hy hS h
/-- one alone may come up: it is carried out -/
theorem wpV_one {i : Nat} {o : Oper} {f : Nat} {listed : Array Bool} {a : Act} {w : World} (hr : Region.ready md ops listed = [i]) (ho : ops[i]? = some o)
    (h : ∀ K' : Act → World → Prop, Hid (∀ a w, S w → wpV P md ops Q S f (listed.setIfInBounds i true) a w → K' a w) →
      if Region.wanted o (yielded ops a.tmps) = true then Oper.wp P o a w K' Q else K' (a.put o.dst undef) w) : wpV P md ops Q S (f + 1) listed a w := by
  refine ⟨fun h0 => (by rw [hr] at h0; cases h0), fun j hj => ?_⟩
  rw [hr] at hj
  obtain rfl : j = i := by simpa using hj
  exact wpOp_step ho (fun K' hK => h K' (fun a w hS hW => hK a w ⟨hS, hW⟩))

theorem wpV_done {listed : Array Bool} {a : Act} {w : World} (hr : Region.ready md ops listed = []) (h : Q .normal a w) : ∀ f, wpV P md ops Q S f listed a w
  | 0 => ⟨hr, h⟩
  | _ + 1 => ⟨fun _ => h, by rw [hr]; simp⟩

theorem wp_region_V {id : Nat} {a : Act} {w : World} (S : World → Prop) (hm : P.follows .mixedOrders = true)
    (h : wpV P .any ops Q S ops.size (Array.replicate ops.size false) a w.drew) : (Code.region id ops true).wp P Q a w :=
  wp_region_any hm (wpAny_of_V _ _ _ _ h)
end
end Go.Proofs.Ytgjphmlmndcaeaa

namespace Go.Proofs.Ytgjphmlmndcaeaa
open Go.RowKit
open Go.Lib (compareBytes)
theorem need_true (x y : Int) (w : World) : Calls Try.prog 75 #[.bool true, .int .i64 x, .int .i64 y] w fun e w' => e = .returned (.tuple #[]) ∧ w = w' := by
  go_enter Try.func75, Try.ntmps75
  go_wp2
  go_end0
  exact ⟨rfl, rfl⟩
/-- the number that a raw number speaks of -/
def pick (c n : Int) : Int := (if c < 0 then -(c + 1) else c) % n
theorem pick_lt {c n : Int} (hn : 1 ≤ n) : 0 ≤ pick c n ∧ pick c n < n := by
  unfold pick
  exact ⟨Int.emod_nonneg _ (by omega), Int.emod_lt_of_pos _ (by omega)⟩
theorem pick_any (c n : Int) (hc : -9223372036854775808 ≤ c) (hc2 : c ≤ 9223372036854775807) (hn : 1 ≤ n) (hn2 : n ≤ 100) (w : World) : Calls Try.prog 46 #[.int .i64 c, .int .i64 n] w fun e w' => e = .returned (.int .i64 (pick c n)) ∧ w = w' := by
  by_cases h : c < 0
  · have h1 := IntWalk.i64_in (c + 1) (by omega)
    have h2 := IntWalk.i64_in (-(c + 1)) (by omega)
    have hr := Int.emod_nonneg (-(c + 1)) (show n ≠ 0 by omega)
    have hr2 := Int.emod_lt_of_pos (-(c + 1)) (show 0 < n by omega)
    have ht : (-(c + 1)).tmod n = (-(c + 1)) % n := Int.tmod_eq_emod_of_nonneg (by omega)
    go_enter Try.func46, Try.ntmps46
    go_wp2
    go_ret
    exact ⟨nret_int (by simp only [pick, if_pos h]), rfl⟩
  · have hr := Int.emod_nonneg c (show n ≠ 0 by omega)
    have hr2 := Int.emod_lt_of_pos c (show 0 < n by omega)
    have ht : c.tmod n = c % n := Int.tmod_eq_emod_of_nonneg (by omega)
    go_enter Try.func46, Try.ntmps46
    go_wp2
    go_ret
    exact ⟨nret_int (by simp only [pick, if_neg (Int.not_lt.2 h)]), rfl⟩
/-- keys that rise -/
noncomputable def risingC : Code := codeOr (Try.f110.body.bind (regionAt 4))
set_option maxRecDepth 100000 in
theorem rising_cmp (F : Nat → Prop) (A : Option Addr) (b o n c i : Nat) (x y : List UInt8) (Ak Bk : Option Addr) (nk ck mk dk : Nat) (w : World) {u1 u2 u4 u5 u6 u7 u8 u9 u10 u11 u12 u13 u14 u15 u16 u17 u18 u19 u20 u21 u22 u23 u24 : Value} (Q : Exit → Act → World → Prop) (HQP : Hid (∀ c t (a : Act) w, Q (.panic c) ⟨t, a.defers⟩ w → Q (.panic c) a w))
    (hA : A = some ⟨b, o, none⟩) (hi : i + 1 < n) (hn : n ≤ 1152921504606) (c1 : w.cell? ⟨b, o + i, none⟩ = some (.slice Ak nk ck)) (c2 : w.cell? ⟨b, o + (i + 1), none⟩ = some (.slice Bk mk dk))
    (H1 : Hid (Rd w F 1 Ak nk (bvs x))) (l1 : Hid (nk = x.length)) (H2 : Hid (Rd w F 1 Bk mk (bvs y))) (l2 : Hid (mk = y.length)) (hlt : TLt x y)
    (hexit : ∀ (v13 v14 v15 v16 v17 v18 v19 v20 v21 v22 : Value) (w' : World), Below w.heap.size w w' → Q .normal ⟨(.slice A n c :: u1 :: u2 :: .int .i64 i :: u4 :: u5 :: u6 :: u7 :: u8 :: u9 :: u10 :: u11 :: u12 :: v13 :: v14 :: v15 :: v16 :: v17 :: v18 :: v19 :: v20 :: v21 :: v22 :: .bool false :: u24 :: []).toArray, []⟩ w') :
    Code.wp Try.prog risingC Q ⟨(.slice A n c :: u1 :: u2 :: .int .i64 i :: u4 :: u5 :: u6 :: u7 :: u8 :: u9 :: u10 :: u11 :: u12 :: u13 :: u14 :: u15 :: u16 :: u17 :: u18 :: u19 :: u20 :: u21 :: u22 :: u23 :: u24 :: []).toArray, []⟩ w := by
  subst hA
  have HEX := Lib.hid hexit
  have HLT := Lib.hid hlt
  have hw := IntWalk.i64_in ((i : Int) + 1) (by omega)
  have h1 : (i : Int) < (n : Int) := by omega
  have h2 : (i : Int) + 1 < (n : Int) := by omega
  have h3 : 0 ≤ (i : Int) + 1 := by omega
  have h4 : ((i : Int) + 1).toNat = i + 1 := by omega
  have S0 : w.drew.cell? ⟨b, o + i, none⟩ = some (.slice Ak nk ck) ∧ w.drew.cell? ⟨b, o + (i + 1), none⟩ = some (.slice Bk mk dk) := ⟨c1, c2⟩
  have hcb : compareBytes x y < 0 := hlt
  have hge : decide (0 ≤ compareBytes x y) = false := by simp; omega
  clear hexit c1 c2 hlt hcb
  conv => arg 2; whnf
  refine wp_region_V (fun w' => w'.cell? ⟨b, o + i, none⟩ = some (.slice Ak nk ck) ∧ w'.cell? ⟨b, o + (i + 1), none⟩ = some (.slice Bk mk dk)) (by kernel_rfl) ?_
  refine wpV_take (i := 0) (v := ?_) rfl (by kernel_rfl) (by kernel_rfl) (by kernel_rfl) (by first | exact fun _ _ _ h => h | exact fun c a w h => HQP.out c _ a w h) S0 (Or.inl ⟨by kernel_rfl, ?_⟩) ?_
  rotate_left
  · intro w hSw
    go_simp
    try with_reducible rfl
  try simp only [Act.put, List.setIfInBounds_toArray, List.set_cons_zero, List.set_cons_succ]
  refine wpV_take (i := 1) (v := ?_) rfl (by kernel_rfl) (by kernel_rfl) (by kernel_rfl) (by first | exact fun _ _ _ h => h | exact fun c a w h => HQP.out c _ a w h) S0 (Or.inl ⟨by kernel_rfl, ?_⟩) ?_
  rotate_left
  · intro w hSw
    go_simp
    try with_reducible rfl
  try simp only [Act.put, List.setIfInBounds_toArray, List.set_cons_zero, List.set_cons_succ]
  refine wpV_take (i := 2) (v := ?_) rfl (by kernel_rfl) (by kernel_rfl) (by kernel_rfl) (by first | exact fun _ _ _ h => h | exact fun c a w h => HQP.out c _ a w h) S0 (Or.inl ⟨by kernel_rfl, ?_⟩) ?_
  rotate_left
  · intro w hSw
    go_simp
    try with_reducible rfl
  try simp only [Act.put, List.setIfInBounds_toArray, List.set_cons_zero, List.set_cons_succ]
  refine wpV_take (i := 4) (v := ?_) rfl (by kernel_rfl) (by kernel_rfl) (by kernel_rfl) (by first | exact fun _ _ _ h => h | exact fun c a w h => HQP.out c _ a w h) S0 (Or.inl ⟨by kernel_rfl, ?_⟩) ?_
  rotate_left
  · intro w hSw
    go_simp
    try with_reducible rfl
  try simp only [Act.put, List.setIfInBounds_toArray, List.set_cons_zero, List.set_cons_succ]
  refine wpV_take (i := 5) (v := ?_) rfl (by kernel_rfl) (by kernel_rfl) (by kernel_rfl) (by first | exact fun _ _ _ h => h | exact fun c a w h => HQP.out c _ a w h) S0 (Or.inl ⟨by kernel_rfl, ?_⟩) ?_
  rotate_left
  · intro w hSw
    go_simp
    try with_reducible rfl
  try simp only [Act.put, List.setIfInBounds_toArray, List.set_cons_zero, List.set_cons_succ]
  refine wpV_take (i := 6) (v := ?_) rfl (by kernel_rfl) (by kernel_rfl) (by kernel_rfl) (by first | exact fun _ _ _ h => h | exact fun c a w h => HQP.out c _ a w h) S0 (Or.inl ⟨by kernel_rfl, ?_⟩) ?_
  rotate_left
  · intro w hSw
    go_simp
    try with_reducible rfl
  try simp only [Act.put, List.setIfInBounds_toArray, List.set_cons_zero, List.set_cons_succ]
  refine wpV_take (i := 7) (v := ?_) rfl (by kernel_rfl) (by kernel_rfl) (by kernel_rfl) (by first | exact fun _ _ _ h => h | exact fun c a w h => HQP.out c _ a w h) S0 (Or.inl ⟨by kernel_rfl, ?_⟩) ?_
  rotate_left
  · intro w hSw
    go_simp
    try with_reducible rfl
  try simp only [Act.put, List.setIfInBounds_toArray, List.set_cons_zero, List.set_cons_succ]
  refine wpV_take (i := 3) (v := ?_) rfl (by kernel_rfl) (by kernel_rfl) (by kernel_rfl) (by first | exact fun _ _ _ h => h | exact fun c a w h => HQP.out c _ a w h) S0 (Or.inl ⟨by kernel_rfl, ?_⟩) ?_
  rotate_left
  · intro w hSw
    obtain ⟨s0, s1⟩ := hSw
    go_simp
    try with_reducible rfl
  try simp only [Act.put, List.setIfInBounds_toArray, List.set_cons_zero, List.set_cons_succ]
  refine wpV_take (i := 8) (v := ?_) rfl (by kernel_rfl) (by kernel_rfl) (by kernel_rfl) (by first | exact fun _ _ _ h => h | exact fun c a w h => HQP.out c _ a w h) S0 (Or.inl ⟨by kernel_rfl, ?_⟩) ?_
  rotate_left
  · intro w hSw
    obtain ⟨s0, s1⟩ := hSw
    go_simp
    try with_reducible rfl
  try simp only [Act.put, List.setIfInBounds_toArray, List.set_cons_zero, List.set_cons_succ]
  refine wpV_one (i := 9) (by kernel_rfl) rfl (fun K hK => ?_)
  go_simp
  refine (compare_any _ _ _ _ _ _ F F x y _ (H1.out.below (Below.refl _ _).drew) l1.out (H2.out.below (Below.refl _ _).drew) l2.out).mono ?_; rintro e w' ⟨rfl, rfl⟩
  refine hK.out _ _ S0 ?_
  clear hK K
  try simp only [Act.put, List.setIfInBounds_toArray, List.set_cons_zero, List.set_cons_succ]
  refine wpV_take (i := 10) (v := ?_) rfl (by kernel_rfl) (by kernel_rfl) (by kernel_rfl) (by first | exact fun _ _ _ h => h | exact fun c a w h => HQP.out c _ a w h) S0 (Or.inl ⟨by kernel_rfl, ?_⟩) ?_
  rotate_left
  · intro w hSw
    go_simp
    try with_reducible rfl
  try simp only [Act.put, List.setIfInBounds_toArray, List.set_cons_zero, List.set_cons_succ]
  refine wpV_done (by kernel_rfl) ?_ _
  exact HEX.out _ _ _ _ _ _ _ _ _ _ _ (Below.refl _ _).drew

set_option maxRecDepth 100000 in
theorem rising_yes (F : Nat → Prop) (A : Option Addr) (n c : Nat) (ts : List (List UInt8)) (w : World) (h : Tx w F A n c ts) (hn : n ≤ 1152921504606) (hup : ∀ j a b, ts[j]? = some a → ts[j + 1]? = some b → TLt a b) :
    Calls Try.prog 110 #[.slice A n c] w fun e w' => e = .returned (.bool true) ∧ Below w.heap.size w w' := by
  have HT := Lib.hid h
  have HU := Lib.hid hup
  have hnc := h.1
  have hcm := h.2.1
  clear h hup
  obtain ⟨m, hm⟩ : ∃ m : Nat, m = n - (min 1 (n : Int)).toNat := ⟨_, rfl⟩
  have hmn : m = n - 1 := by omega
  go_enter Try.func110, Try.ntmps110
  go_wp2
  all_goals
    rw [← hm]
    go_loopg [10] m (fun g' iv wr => ∃ i : Nat, g' = m - i ∧ i ≤ m ∧ iv = .int .i64 i ∧ Below w.heap.size w wr)
    case atStart => exact ⟨0, by omega, by omega, rfl, Below.refl _ _⟩
    case round =>
      obtain ⟨i, hg, hi, rfl, hb⟩ := hrel
      have HG := Lib.hid hg
      have HB := Lib.hid hb
      rename World => wr
      clear hg hb
      by_cases hlt : i < m
      · have hlt' : (i : Int) < (m : Int) := by omega
        obtain ⟨b, o, Ak, nk, ck, x, hA, hF, he, c1, q1, q2, q3, q4⟩ := HT.out.at_ (k := i) (by omega)
        obtain ⟨b', o', Bk, mk, dk, y, hA', hF', he', c2, r1, r2, r3, r4⟩ := HT.out.at_ (k := i + 1) (by omega)
        have hbo : b' = b ∧ o' = o := by rw [hA] at hA'; injection hA' with hA'; injection hA' with e1 e2; exact ⟨e1.symm, e2.symm⟩
        obtain ⟨rfl, rfl⟩ := hbo
        have hxy := HU.out i x y he he'
        go_upto_region 4 with fail
        all_goals
          refine rising_cmp F A b' o' n c i x y Ak Bk nk ck mk dk wr _ (by exact Lib.hid (fun _ _ _ _ h => h)) hA (by omega) hn (bkeep HB.out c1) (bkeep HB.out c2) (Lib.hid (q4.below HB.out)) q3 (Lib.hid (r4.below HB.out)) r3 hxy ?_
          intro v13 v14 v15 v16 v17 v18 v19 v20 v21 v22 w' hbw
          have HB' := Lib.hid (HB.out.trans (hbw.mono HB.out.size))
          clear hbw
          go_wp2
          go_roundg (m - (i + 1))
          case measure => have := HG.out; omega
          case rel => exact ⟨i + 1, rfl, by omega, by go_num, HB'.out⟩
      · have hlt' : ¬ (i : Int) < (m : Int) := by omega
        go_wp2
        go_ret
        exact ⟨rfl, HB.out⟩
end Go.Proofs.Ytgjphmlmndcaeaa
