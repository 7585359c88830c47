/- Abstract values: a region that draws its order is reckoned in one order. -/
import Derived.Test.YtiallkiiofomgaaGreatVl
import Derived.OrdersHeld
namespace Go.Proofs.YtiallkiiofomgaaGreat
section
variable {P : Program} {ops : Array Oper} {Q : Exit → Act → World → Prop} {md : Region.Mode} {S : World → Prop} {b : Nat}
/-- number b is still to come (or there is none) -/
def pnd (b : Nat) (listed : Array Bool) : Bool := !(listed.getD b false)
/-- whatever order is picked from here on; S holds behind every operation, till number b has come up -/
def wpX (P : Program) (md : Region.Mode) (ops : Array Oper) (Q : Exit → Act → World → Prop) (S : World → Prop) (b : Nat) : Nat → Array Bool → Act → World → Prop
  | 0, listed, a, w => Region.ready md ops listed = [] ∧ Q .normal a w
  | f + 1, listed, a, w =>
    (Region.ready md ops listed = [] → Q .normal a w) ∧
    ∀ i ∈ Region.ready md ops listed, wpOp P ops Q i (fun a' w' => (pnd b (listed.setIfInBounds i true) = true → S w') ∧ wpX P md ops Q S b f (listed.setIfInBounds i true) a' w') a w
theorem wpAny_of_X : ∀ (f : Nat) (listed : Array Bool) (a : Act) (w : World), wpX P md ops Q S b f listed a w → wpAny P md ops Q f listed a w
  | 0, _, _, _, h => h
  | f + 1, _, _, _, h => ⟨h.1, fun i hi => wpOp_mono (fun a' w' h' => wpAny_of_X f _ a' w' h'.2) (h.2 i hi)⟩
theorem wpOp_monoQ {i : Nat} {a : Act} {w : World} {Q' : Exit → Act → World → Prop} {K K' : Act → World → Prop} (hK : ∀ a w, K a w → K' a w) (hQ : ∀ e a w, Q e a w → Q' e a w) (h : wpOp P ops Q i K a w) : wpOp P ops Q' i K' a w := by
  unfold wpOp at *
  split
  · rename_i e; rw [e] at h; exact hK _ _ h
  · rename_i o e
    rw [e] at h
    dsimp only at h
    split
    · rename_i hw; rw [if_pos hw] at h
      exact h.imp (oper_mono hK hQ) (fun ⟨h1, a, w, q⟩ => ⟨h1, a, w, hQ _ _ _ q⟩)
    · rename_i hw; rw [if_neg hw] at h; exact hK _ _ h
theorem wpX_mono {Q' : Exit → Act → World → Prop} {S' : World → Prop} (hQ : ∀ e a w, Q e a w → Q' e a w) (hS : ∀ w, S w → S' w) : ∀ (f : Nat) (listed : Array Bool) (a : Act) (w : World), wpX P md ops Q S b f listed a w → wpX P md ops Q' S' b f listed a w
  | 0, _, _, _, h => ⟨h.1, hQ _ _ _ h.2⟩
  | f + 1, _, _, _, h => ⟨fun e => hQ _ _ _ (h.1 e), fun i hi => wpOp_monoQ (fun a' w' h' => ⟨fun e => hS _ (h'.1 e), wpX_mono hQ hS f _ a' w' h'.2⟩) hQ (h.2 i hi)⟩
theorem pnd_keep {listed : Array Bool} (h : pnd b listed = false) (i : Nat) : pnd b (listed.setIfInBounds i true) = false := by
  unfold pnd at *
  simp only [Bool.not_eq_false'] at *
  simp only [Array.getD_eq_getD_getElem?, Array.getElem?_setIfInBounds] at *
  split
  · rename_i e; subst e
    split
    · rfl
    · rename_i hl; simp [Array.getElem?_eq_none (Nat.le_of_not_lt hl)] at h
  · exact h
/-- behind b nothing is asked any more -/
theorem wpX_past {S' : World → Prop} {b' : Nat} : ∀ (f : Nat) (listed : Array Bool) (a : Act) (w : World), pnd b listed = false → wpX P md ops Q S' b' f listed a w → wpX P md ops Q S b f listed a w
  | 0, _, _, _, _, h => h
  | f + 1, listed, _, _, hp, h => ⟨h.1, fun i hi => wpOp_mono (fun a' w' h' => ⟨fun e => (by rw [pnd_keep hp] at e; cases e), wpX_past f _ a' w' (pnd_keep hp i) h'.2⟩) (h.2 i hi)⟩
/-- number b waits for number i, at once or through others -/
def waitsR (md : Region.Mode) (ops : Array Oper) : Nat → Nat → Nat → Bool
  | 0, _, _ => false
  | n + 1, b, i => match ops[b]? with
    | some o => o.after.any fun e => Region.binds md e && (e.on == i || waitsR md ops n e.on i)
    | none => false
def waits (md : Region.Mode) (ops : Array Oper) (b i : Nat) : Bool :=
  match ops[b]? with
  | some _ => waitsR md ops 5 b i
  | none => true
/-- what is listed had all listed that it waits for -/
def Clsd (md : Region.Mode) (ops : Array Oper) (listed : Array Bool) : Prop := ∀ j o, listed.getD j false = true → ops[j]? = some o → ∀ e ∈ o.after, Region.binds md e = true → listed.getD e.on false = true
theorem Clsd.set {listed : Array Bool} (h : Clsd md ops listed) {i : Nat} (hi : i ∈ Region.ready md ops listed) : Clsd md ops (listed.setIfInBounds i true) := by
  obtain ⟨_, oi, hoi, hall⟩ := mem_ready.1 hi
  have mono : ∀ k, listed.getD k false = true → (listed.setIfInBounds i true).getD k false = true := fun k hk => by
    simp only [Array.getD_eq_getD_getElem?, Array.getElem?_setIfInBounds] at *
    split
    · split <;> simp_all
    · exact hk
  intro j o hj ho e he hb
  by_cases hji : i = j
  · subst hji
    rw [hoi] at ho; cases ho
    exact mono _ (hall e he hb)
  · refine mono _ (h j o ?_ ho e he hb)
    simpa only [Array.getD_eq_getD_getElem?, Array.getElem?_setIfInBounds, if_neg hji] using hj
theorem Clsd.of {listed : Array Bool} (hc : Clsd md ops listed) {i : Nat} : ∀ (n j : Nat), waitsR md ops n j i = true → listed.getD j false = true → listed.getD i false = true
  | 0, _, h, _ => by cases h
  | n + 1, j, h, hj => by
    unfold waitsR at h
    split at h
    · rename_i o ho
      obtain ⟨e, he, hx⟩ := Array.any_eq_true'.1 h
      simp only [Bool.and_eq_true, Bool.or_eq_true, beq_iff_eq] at hx
      have h1 := hc j o hj ho e he hx.1
      rcases hx.2 with h2 | h2
      · rw [h2] at h1; exact h1
      · exact Clsd.of hc n e.on h2 h1
    · cases h
theorem Clsd.none_ (n : Nat) : Clsd md ops (Array.replicate n false) := fun j o h => by
  simp only [Array.getD_eq_getD_getElem?, Array.getElem?_replicate] at h
  split at h <;> cases h
theorem waits_spec {i : Nat} (h : waits md ops b i = true) {listed : Array Bool} (hc : Clsd md ops listed) (hi : listed.getD i true = false) : b ∉ Region.ready md ops listed := by
  intro hb
  obtain ⟨_, o, ho, hall⟩ := mem_ready.1 hb
  have hif : listed.getD i false = false := by
    rcases Nat.lt_or_ge i listed.size with hl | hl
    · simp [hl] at hi ⊢; exact hi
    · simp [Array.getElem?_eq_none hl] at hi
  unfold waits at h
  rw [ho] at h
  unfold waitsR at h
  dsimp only at h
  rw [ho] at h
  obtain ⟨e, he, hx⟩ := Array.any_eq_true'.1 h
  simp only [Bool.and_eq_true, Bool.or_eq_true, beq_iff_eq] at hx
  have h1 := hall e he hx.1
  rcases hx.2 with h2 | h2
  · rw [h2, hif] at h1; cases h1
  · have := hc.of _ _ h2 h1
    rw [hif] at this; cases this
theorem pnd_ne {listed : Array Bool} {i : Nat} (h : i ≠ b) : pnd b (listed.setIfInBounds i true) = pnd b listed := by
  unfold pnd
  simp only [Array.getD_eq_getD_getElem?, Array.getElem?_setIfInBounds, if_neg h]
theorem getD_set_ne' {l : Array Bool} {i j : Nat} (h : i ≠ j) : (l.setIfInBounds i true).getD j true = l.getD j true := by
  simp only [Array.getD_eq_getD_getElem?, Array.getElem?_setIfInBounds, if_neg h]
/-- what yields its value while S holds (t: or always) may be taken first -/
theorem wpX_first {i : Nat} {oi : Oper} {v : Value} (t : Bool) (hi : ops[i]? = some oi) (hsel : ∀ (j : Nat) (o : Oper) cs c, ops[j]? = some o → o.op ≠ .select cs c)
    (hQ : ∀ c a w, Q (.panic c) (a.put oi.dst v) w → Q (.panic c) a w) (hib : i ≠ b) (hw : t = true ∨ waits md ops b i = true) :
    ∀ (f : Nat) (listed : Array Bool) (a : Act) (w : World),
      (∀ j oj, ops[j]? = some oj → j ≠ i → listed.getD j true = false → (∀ e ∈ oj.after, Region.binds md e = true → e.on ≠ i) → oi.apart ops oj = true) →
      Clsd md ops listed → i ∈ Region.ready md ops listed → (t = true ∨ pnd b listed = true) → YieldsIf P ops (fun w => t = true ∨ S w) oi v a → (pnd b listed = true → S w) →
      wpX P md ops Q S b f (listed.setIfInBounds i true) (a.put oi.dst v) w → wpX P md ops Q S b (f + 1) listed a w := by
  intro f
  induction f with
  | zero =>
    intro listed a w _ _ hr hb hy hS H
    refine ⟨fun h => (by rw [h] at hr; cases hr), fun j hj => ?_⟩
    by_cases hji : j = i
    · subst hji; exact hy.wpOp hi (hb.imp id hS) ⟨fun e => hS (by rw [pnd_ne hib] at e; exact e), H⟩
    · have h1 := ready_mono hj hji
      rw [H.1] at h1
      cases h1
  | succ f ih =>
    intro listed a w hfree hcl hr hb hy hS H
    refine ⟨fun h => (by rw [h] at hr; cases hr), fun j hj => ?_⟩
    by_cases hji : j = i
    · subst hji; exact hy.wpOp hi (hb.imp id hS) ⟨fun e => hS (by rw [pnd_ne hib] at e; exact e), H⟩
    · have h1 := H.2 j (ready_mono hj hji)
      have hil := (mem_ready.1 hr).1
      have hjb : t = true ∨ j ≠ b := hw.imp id (fun hw e => waits_spec hw hcl hil (e ▸ hj))
      obtain ⟨hjun, oj, hoj, hall⟩ := mem_ready.1 hj
      have hnot : ∀ e ∈ oj.after, Region.binds md e = true → e.on ≠ i := by
        intro e he hbd heq
        have h2 := hall e he hbd
        rw [heq] at h2
        rcases Nat.lt_or_ge i listed.size with hl | hl
        · simp [hl] at h2 hil; rw [hil] at h2; cases h2
        · simp [Array.getElem?_eq_none hl] at h2
      have h2 := wpOp_putIf hoj (hfree j oj hoj hji hjun hnot) (fun cs c => hsel i oi cs c hi) (fun cs c => hsel j oj cs c hoj) hQ hy h1
      have hbj : t = true ∨ pnd b (listed.setIfInBounds j true) = true := by
        rcases hjb with h | h
        · exact .inl h
        · rw [pnd_ne h]; exact hb
      have hfree' : ∀ k ok, ops[k]? = some ok → k ≠ i → (listed.setIfInBounds j true).getD k true = false → (∀ e ∈ ok.after, Region.binds md e = true → e.on ≠ i) → oi.apart ops ok = true := by
        intro k ok hk hki hun hno
        by_cases hjk : j = k
        · subst hjk; exact hfree _ ok hk hki hjun hno
        · rw [getD_set_ne' hjk] at hun; exact hfree k ok hk hki hun hno
      refine wpOp_mono (fun a' w' h3 => ?_) h2
      have hS' : pnd b (listed.setIfInBounds j true) = true → S w' := fun e => h3.2.1 (by
        rw [Array.setIfInBounds_comm _ _ (Ne.symm hji), pnd_ne hib]; exact e)
      refine ⟨hS', ih (listed.setIfInBounds j true) a' w' hfree' (hcl.set hj) (ready_mono hr (Ne.symm hji)) hbj h3.1 hS' ?_⟩
      rw [Array.setIfInBounds_comm _ _ hji]
      exact h3.2.2
/-- one alone may come up -/
theorem wpX_one {i : Nat} {f : Nat} {listed : Array Bool} {a : Act} {w : World} (hr : Region.ready md ops listed = [i])
    (h : wpOp P ops Q i (fun a' w' => (pnd b (listed.setIfInBounds i true) = true → S w') ∧ wpX P md ops Q S b f (listed.setIfInBounds i true) a' w') a w) : wpX P md ops Q S b (f + 1) listed a w :=
  ⟨fun h0 => (by rw [hr] at h0; cases h0), fun j hj => by rw [hr] at hj; obtain rfl : j = i := by simpa using hj
                                                          exact h⟩
end
/-- the next of some numbers -/
def nxt (hc : List Nat) (n : Nat) : List Nat → Nat
  | [] => n
  | i :: l => if hc.contains i then i else nxt hc n l
/-- how an operation may come up: 0: at any time; 1: while nothing is written; 2: alone -/
def okind (o : Oper) : Nat :=
  if isPure o.op then 0 else match o.op with
    | .load .. => 1
    | _ => 2
/-- may the operations be reckoned in this order? -/
def okD (ops : Array Oper) (hc : List Nat) (pu : Option Tmp → Bool) : Array Bool → List Nat → Bool
  | listed, [] => Region.ready .any ops listed == []
  | listed, i :: pl => (match ops[i]? with
      | some o => (match okind o with
        | 0 => (Region.ready .any ops listed).contains i && Region.free .any ops listed i && !hc.contains i
        | 1 => (Region.ready .any ops listed).contains i && Region.free .any ops listed i && !hc.contains i && waits .any ops (nxt hc ops.size pl) i
        | _ => (Region.ready .any ops listed == [i]) && (hc.contains i || !isW o.op && (!isCall o.op || pu o.dst)))
      | none => false) && !(listed.getD i true) && okD ops hc pu (listed.setIfInBounds i true) pl
/-- old blocks are as they were -/
def Sw (w w' : World) : Prop := w.heap.size ≤ w'.heap.size ∧ ∀ b, b < w.heap.size → w'.heap[b]? = w.heap[b]?
theorem Sw.refl (w : World) : Sw w w := ⟨Nat.le_refl _, fun _ _ => rfl⟩
theorem Sw.trans {w w1 w2 : World} (h : Sw w w1) (k : Sw w1 w2) : Sw w w2 := ⟨Nat.le_trans h.1 k.1, fun b hb => (k.2 b (Nat.lt_of_lt_of_le hb h.1)).trans (h.2 b hb)⟩
section
variable (P : Program) (Wr : Nat → Prop)
def aD (ops : Array Oper) (K : Kt) (b f : Nat) (listed : Array Bool) (fr : Fr) (H : Hp) : Prop := ∀ (w : World) (s : Sto) (own : Nat → Option Nat) (tm : Array Value) (ds : List Deferred), St w s own H → RepF s fr tm → (∀ m, w.heap.size ≤ m → Wr m) → ops.toList.all (Oper.bd ops tm.size) = true →
  wpX P .any ops (Post Wr K w s own tm.size ds) (Sw w) b f listed ⟨tm, ds⟩ w
end
section
variable {P : Program} {Wr : Nat → Prop}
theorem nxt_spec {hc : List Nat} {n i : Nat} {pl : List Nat} : nxt hc n (i :: pl) = if hc.contains i then i else nxt hc n pl := rfl
/-- a step that is taken while the world stands -/
theorem aD_first {ops : Array Oper} {K : Kt} {hc : List Nat} {i : Nat} {pl : List Nat} {o : Oper} {listed : Array Bool} {fr : Fr} {H : Hp} {w : World} {s : Sto} {own : Nat → Option Nat} {tm : Array Value} {ds : List Deferred} {v : Value} {a : AV} (t : Bool) (ho : ops[i]? = some o) (hs : Region.noSelect ops = true) (hcl : Clsd .any ops listed)
    (hr : (Region.ready .any ops listed).contains i = true) (hfree : Region.free .any ops listed i = true) (hh : hc.contains i = false) (hw : t = true ∨ waits .any ops (nxt hc ops.size pl) i = true) (hp : t = true ∨ pnd (nxt hc ops.size pl) listed = true) (hn : nxt hc ops.size pl ≠ i)
    (hst : St w s own H) (hfr : RepF s fr tm) (hf : ∀ m, w.heap.size ≤ m → Wr m) (hbd : ops.toList.all (Oper.bd ops tm.size) = true) (hy : YieldsIf P ops (fun w' => t = true ∨ Sw w w') o v ⟨tm, ds⟩) (ha : Rep s a v)
    (h : aD P Wr ops K (nxt hc ops.size pl) pl.length (listed.setIfInBounds i true) (fput fr o.dst a) H) :
    wpX P .any ops (Post Wr K w s own tm.size ds) (Sw w) (nxt hc ops.size (i :: pl)) (i :: pl).length listed ⟨tm, ds⟩ w := by
  rw [nxt_spec, hh]
  refine wpX_first t ho (Region.noSelect_spec hs) (fun c a w hq => ?_) (Ne.symm hn) hw pl.length listed _ w (Region.free_spec ho hfree) hcl (by simpa using hr) hp hy (fun _ => Sw.refl w) ?_
  · exact hq.1.elim
  · have hsz : (Act.put ⟨tm, ds⟩ o.dst v).tmps.size = tm.size := by cases o.dst <;> simp [Act.put]
    have := h w s own (Act.put ⟨tm, ds⟩ o.dst v).tmps ds hst (hfr.put o.dst ha) hf (by rw [hsz]; exact hbd)
    rw [hsz] at this
    have e : (⟨(Act.put ⟨tm, ds⟩ o.dst v).tmps, ds⟩ : Act) = Act.put ⟨tm, ds⟩ o.dst v := by cases o.dst <;> rfl
    rw [e] at this
    exact this
theorem okind_pure {o : Oper} (h : okind o = 0) : isPure o.op = true := by
  unfold okind at h
  split at h
  · assumption
  · split at h <;> cases h
theorem okind_load {o : Oper} (h : okind o = 1) : ∃ t x, o.op = .load t x := by
  unfold okind at h
  split at h
  · cases h
  · split at h
    · rename_i t x e; exact ⟨t, x, e⟩
    · cases h
theorem nxt_ne {hc : List Nat} {n i : Nat} : ∀ (pl : List Nat), i < n → i ∉ pl → nxt hc n pl ≠ i
  | [], h, _ => fun e => by have : n = i := e; omega
  | j :: pl, h, hn => by
    rw [nxt_spec]
    split
    · exact fun e => hn (by simp [e])
    · exact nxt_ne pl h (fun e => hn (by simp [e]))
/-- the numbers that are still to come are not listed -/
theorem okD_fresh {ops : Array Oper} {hc : List Nat} {pu : Option Tmp → Bool} : ∀ (pl : List Nat) (listed : Array Bool), okD ops hc pu listed pl = true → ∀ i ∈ pl, listed.getD i true = false
  | [], _, _, i, h => by cases h
  | j :: pl, listed, h, i, hi => by
    unfold okD at h
    simp only [Bool.and_eq_true, Bool.not_eq_true'] at h
    rcases List.mem_cons.1 hi with rfl | hi
    · exact h.1.2
    · have := okD_fresh pl _ h.2 i hi
      by_cases e : j = i
      · subst e; exact h.1.2
      · rw [getD_set_ne' e] at this; exact this
theorem okD_nodup {ops : Array Oper} {hc : List Nat} {pu : Option Tmp → Bool} : ∀ (pl : List Nat) (listed : Array Bool), okD ops hc pu listed pl = true → pl.Nodup
  | [], _, _ => List.nodup_nil
  | j :: pl, listed, h => by
    unfold okD at h
    simp only [Bool.and_eq_true, Bool.not_eq_true'] at h
    refine List.nodup_cons.2 ⟨fun hj => ?_, okD_nodup pl _ h.2⟩
    have h1 := okD_fresh pl _ h.2 j hj
    have h2 := h.1.2
    rcases Nat.lt_or_ge j listed.size with hl | hl
    · simp [hl] at h1
    · simp [Array.getElem?_eq_none hl] at h2
theorem pnd_of {listed : Array Bool} {b : Nat} (h : listed.getD b true = false) : pnd b listed = true := by
  unfold pnd
  rcases Nat.lt_or_ge b listed.size with hl | hl
  · simp [hl] at h ⊢; exact h
  · simp [Array.getElem?_eq_none hl] at h
theorem nxt_pnd {hc : List Nat} {n : Nat} {listed : Array Bool} : ∀ (pl : List Nat), (∀ i ∈ pl, listed.getD i true = false) → listed.size ≤ n → pnd (nxt hc n pl) listed = true
  | [], _, h => by show pnd n listed = true; simp [pnd, Array.getElem?_eq_none h]
  | j :: pl, h, hn => by
    rw [nxt_spec]
    split
    · exact pnd_of (h j (by simp))
    · exact nxt_pnd pl (fun i hi => h i (by simp [hi])) hn
/-- what may come up now and yields its value is taken first -/
theorem aD_step {ops : Array Oper} {K : Kt} {hc : List Nat} {i : Nat} {pl : List Nat} {o : Oper} {listed : Array Bool} {fr : Fr} {H : Hp} {w : World} {s : Sto} {own : Nat → Option Nat} {tm : Array Value} {ds : List Deferred} {pu : Option Tmp → Bool} (ho : ops[i]? = some o) (hsz : listed.size = ops.size) (hok : okD ops hc pu listed (i :: pl) = true) (hs : Region.noSelect ops = true) (hcl : Clsd .any ops listed)
    (hst : St w s own H) (hfr : RepF s fr tm) (hf : ∀ m, w.heap.size ≤ m → Wr m) (hbd : ops.toList.all (Oper.bd ops tm.size) = true) {v : Value} {a : AV} (ha : Rep s a v)
    (hy : okind o = 0 ∧ YieldsIf P ops (fun _ => True) o v ⟨tm, ds⟩ ∨ okind o = 1 ∧ YieldsIf P ops (Sw w) o v ⟨tm, ds⟩)
    (h : aD P Wr ops K (nxt hc ops.size pl) pl.length (listed.setIfInBounds i true) (fput fr o.dst a) H) :
    wpX P .any ops (Post Wr K w s own tm.size ds) (Sw w) (nxt hc ops.size (i :: pl)) (i :: pl).length listed ⟨tm, ds⟩ w := by
  have hfresh := okD_fresh _ _ hok
  have hnd := okD_nodup _ _ hok
  have hi : i < ops.size := (Array.getElem?_eq_some_iff.1 ho).1
  have hne := nxt_ne (hc := hc) pl hi (List.nodup_cons.1 hnd).1
  have hpn := nxt_pnd (hc := hc) (n := ops.size) pl (fun j hj => hfresh j (by simp [hj])) (by omega)
  unfold okD at hok
  rw [ho] at hok
  simp only [Bool.and_eq_true, Bool.not_eq_true'] at hok
  obtain ⟨⟨hk, _⟩, _⟩ := hok
  rcases hy with ⟨k0, hy⟩ | ⟨k1, hy⟩
  · rw [k0] at hk
    simp only [Bool.and_eq_true, Bool.not_eq_true'] at hk
    exact aD_first true ho hs hcl hk.1.1 hk.1.2 hk.2 (.inl rfl) (.inl rfl) hne hst hfr hf hbd (hy.imp (fun ⟨h1, h2⟩ => ⟨h1, fun w _ => h2 w trivial⟩) id) ha h
  · rw [k1] at hk
    simp only [Bool.and_eq_true, Bool.not_eq_true'] at hk
    exact aD_first false ho hs hcl hk.1.1.1 hk.1.1.2 hk.1.2 (.inr hk.2) (.inr hpn) hne hst hfr hf hbd (hy.imp (fun ⟨h1, h2⟩ => ⟨h1, fun w' hw => h2 w' (hw.elim (fun e => by cases e) id)⟩) id) ha h
/-- behind an operation that came up alone -/
theorem aD_alone {ops : Array Oper} {K : Kt} {hc : List Nat} {i : Nat} {pl : List Nat} {listed : Array Bool} {fr : Fr} {H' : Hp} {w w' : World} {s s' : Sto} {own own' : Nat → Option Nat} {tm : Array Value} {ds : List Deferred} {d : Option Tmp} {x : Value} {r : AV} (hsz : listed.size = ops.size) (hi : i < ops.size)
    (hfr : RepF s fr tm) (hf : ∀ m, w.heap.size ≤ m → Wr m) (hbd : ops.toList.all (Oper.bd ops tm.size) = true) (hx : Ext Wr w s own w' s' own') (hst' : St w' s' own' H') (hr : Rep s' r x)
    (hq : hc.contains i = true ∨ ∀ b, b < w.heap.size → w'.heap[b]? = w.heap[b]?)
    (h : aD P Wr ops K (nxt hc ops.size pl) pl.length (listed.setIfInBounds i true) (fput fr d r) H') :
    (pnd (nxt hc ops.size (i :: pl)) (listed.setIfInBounds i true) = true → Sw w w') ∧ wpX P .any ops (Post Wr K w s own tm.size ds) (Sw w) (nxt hc ops.size (i :: pl)) pl.length (listed.setIfInBounds i true) (Act.put ⟨tm, ds⟩ d x) w' := by
  have hts : (Act.put ⟨tm, ds⟩ d x).tmps.size = tm.size := by cases d <;> simp [Act.put]
  have h1 := h w' s' own' (Act.put ⟨tm, ds⟩ d x).tmps ds hst' ((hfr.mono hx.le).put d hr) (fun m hm => hf m (Nat.le_trans hx.size hm)) (by rw [hts]; exact hbd)
  rw [hts] at h1
  have e : (⟨(Act.put ⟨tm, ds⟩ d x).tmps, ds⟩ : Act) = Act.put ⟨tm, ds⟩ d x := by cases d <;> rfl
  rw [e] at h1
  rw [nxt_spec]
  by_cases hc' : hc.contains i = true
  · rw [if_pos hc']
    have hp : pnd i (listed.setIfInBounds i true) = false := by
      unfold pnd
      simp [Array.getElem?_setIfInBounds, hsz, hi]
    exact ⟨fun e => (by rw [hp] at e; cases e), wpX_past _ _ _ _ hp (wpX_mono (S' := Sw w') (fun e a w h => Post.back hx h) (fun _ h => h) _ _ _ _ h1)⟩
  · rw [if_neg hc']
    have hs : Sw w w' := ⟨hx.size, hq.resolve_left hc'⟩
    exact ⟨fun _ => hs, wpX_mono (fun e a w h => Post.back hx h) (fun _ h => hs.trans h) _ _ _ _ h1⟩
theorem pcl_pure {rv : Operand → AV} {c : Call} {k : AV → Prop} (h : pop P rv (.call c) k) : ∃ f, c.callee = .builtin f ∧ (f = .len ∨ f = .min ∨ f = .max ∨ f = .cap) := by
  have h : pcl P rv c.callee c.args.toList c.argTypes.toList k := h
  cases e : c.callee with
  | builtin f =>
    rw [e] at h
    cases f <;> first | exact ⟨_, rfl, .inl rfl⟩ | exact ⟨_, rfl, .inr (.inl rfl)⟩ | exact ⟨_, rfl, .inr (.inr (.inl rfl))⟩ | exact ⟨_, rfl, .inr (.inr (.inr rfl))⟩ | exact h.elim
  | _ => rw [e] at h; exact h.elim
/-- the reckoning of a region that draws its order is right -/
theorem eD_sound {ops : Array Oper} {K : Kt} {hc : List Nat} {pu : Option Tmp → Bool} (hs : Region.noSelect ops = true) : ∀ (pl : List Nat) (listed : Array Bool) (fr : Fr) (H : Hp), listed.size = ops.size → Clsd .any ops listed → okD ops hc pu listed pl = true →
    eO P Wr ops pu cD K (pl.map fun i => ops.getD i default) fr H → aD P Wr ops K (nxt hc ops.size pl) pl.length listed fr H
  | [], listed, fr, H, hsz, hcl, hok, h => fun w s own tm ds hst hfr hf hbd => by
    unfold okD at hok
    exact ⟨by simpa using hok, trivial, rfl, rfl, fr, s, own, H, Ext.refl .., hst, hfr, h⟩
  | i :: pl, listed, fr, H, hsz, hcl, hok, h => fun w s own tm ds hst hfr hf hbd => by
    have hok' := hok
    unfold okD at hok'
    simp only [Bool.and_eq_true] at hok'
    obtain ⟨⟨hk, _⟩, hokt⟩ := hok'
    cases ho : ops[i]? with
    | none => rw [ho] at hk; cases hk
    | some o =>
    rw [ho] at hk
    dsimp only at hk
    have hi : i < ops.size := (Array.getElem?_eq_some_iff.1 ho).1
    have hget : ops.getD i default = o := by simp [ho]
    rw [List.map_cons, hget] at h
    have hsz' : (listed.setIfInBounds i true).size = ops.size := by simp [hsz]
    have hin : i ∈ Region.ready .any ops listed := by
      split at hk
      · simp only [Bool.and_eq_true] at hk; simpa using hk.1.1
      · simp only [Bool.and_eq_true] at hk; simpa using hk.1.1.1
      · simp only [Bool.and_eq_true, beq_iff_eq] at hk; rw [hk.1]; simp
    have ih := fun fr H => eD_sound (K := K) hs pl (listed.setIfInBounds i true) fr H hsz' (hcl.set hin) hokt
    have hmem : o ∈ ops.toList := by rw [Array.mem_toList_iff]; exact Array.mem_of_getElem? ho
    have hbo := List.all_eq_true.1 hbd o hmem
    unfold Oper.bd at hbo
    simp only [Bool.and_eq_true] at hbo
    obtain ⟨⟨_, hbx⟩, hbg⟩ := hbo
    have hop : ∀ x ∈ o.op.operands, Rep s (aev fr x) (Act.eval ⟨tm, ds⟩ x) := fun x hx => hfr.eval (List.all_eq_true.1 hbx x (by simpa using hx))
    have alone : okind o ≠ 0 → okind o ≠ 1 → Region.ready .any ops listed = [i] ∧ (hc.contains i = true ∨ (isW o.op = false ∧ (isCall o.op = true → pu o.dst = true))) := fun k0 k1 => by
      split at hk
      · rename_i e; exact absurd e k0
      · rename_i e; exact absurd e k1
      · simp only [Bool.and_eq_true, Bool.or_eq_true, Bool.not_eq_true', beq_iff_eq] at hk
        refine ⟨hk.1, hk.2.imp id fun ⟨h1, h2⟩ => ⟨h1, fun hc => h2.resolve_left (by rw [hc]; simp)⟩⟩
    have kinds : okind o = 0 ∨ okind o = 1 ∨ (okind o ≠ 0 ∧ okind o ≠ 1) := by omega
    have wop : ∀ {K' : Act → World → Prop}, Region.wanted o (yielded ops tm) = true → Oper.wp P o ⟨tm, ds⟩ w K' (Post Wr K w s own tm.size ds) → wpOp P ops (Post Wr K w s own tm.size ds) i K' ⟨tm, ds⟩ w := fun hw hh => by
      unfold wpOp; rw [ho]; dsimp only; rw [if_pos hw]; exact .inl hh
    -- it comes up
    have run : Region.wanted o (yielded ops tm) = true → (match o.op with
        | .call c => if isCall (.call c) then ecl P Wr (pu o.dst) (aev fr) H c fun a H' => cD (pl.map fun i => ops.getD i default) (fput fr o.dst a) H' (eO P Wr ops pu cD K (pl.map fun i => ops.getD i default) (fput fr o.dst a) H')
          else eop P Wr (aev fr) H (.call c) fun a H' => eO P Wr ops pu cD K (pl.map fun i => ops.getD i default) (fput fr o.dst a) H'
        | op => eop P Wr (aev fr) H op fun a H' => eO P Wr ops pu cD K (pl.map fun i => ops.getD i default) (fput fr o.dst a) H') →
        wpX P .any ops (Post Wr K w s own tm.size ds) (Sw w) (nxt hc ops.size (i :: pl)) (i :: pl).length listed ⟨tm, ds⟩ w := fun hw h => by
      have plain : isCall o.op = false → eop P Wr (aev fr) H o.op (fun a H' => eO P Wr ops pu cD K (pl.map fun i => ops.getD i default) (fput fr o.dst a) H') → wpX P .any ops (Post Wr K w s own tm.size ds) (Sw w) (nxt hc ops.size (i :: pl)) (i :: pl).length listed ⟨tm, ds⟩ w := fun hnc h => by
        rcases kinds with k0 | k1 | ⟨k0, k1⟩
        · have hp := okind_pure k0
          have hpo : pop P (aev fr) o.op (fun a => eO P Wr ops pu cD K (pl.map fun i => ops.getD i default) (fput fr o.dst a) H) := by
            exact eop_pure hp h
          obtain ⟨v, a, h1, h2, h3⟩ := pop_sound hop hpo
          exact aD_step ho hsz hok hs hcl hst hfr hf hbd h2 (.inl ⟨k0, .inl ⟨hw, fun w _ => h1 w⟩⟩) (ih _ _ h3)
        · obtain ⟨t, x, hl⟩ := okind_load k1
          rw [hl] at h
          obtain ⟨v, a, h1, h2, h3⟩ := eld_sound hst (nrm_rep (hop x (by rw [hl]; simp [Op.operands]))) h
          refine aD_step ho hsz hok hs hcl hst hfr hf hbd h2 (.inr ⟨k1, .inl ⟨hw, fun w' hw' => ?_⟩⟩) (ih _ _ h3)
          simp only [execOp, hl, Sem.run_bind, h1 w' hw'.2]; rfl
        · obtain ⟨hr, hq⟩ := alone k0 k1
          refine wpX_one hr (wop hw ((eop_sound hst hf hop h).wp fun x w' s' own' H' r hx hsame hst' hrr hk => ?_))
          exact aD_alone hsz hi hfr hf hbd hx hst' hrr (hq.imp id fun hq => hsame hq.1) (ih _ _ hk)
      split at h
      · rename_i c hcc
        split at h
        · rename_i hic
          have k0 : okind o ≠ 0 := fun e => by
            have := okind_pure e
            rw [hcc] at this
            unfold isCall at hic; unfold isPure at this
            dsimp only at hic this
            split at hic <;> simp_all
          have k1 : okind o ≠ 1 := fun e => by obtain ⟨t, x, hl⟩ := okind_load e; rw [hcc] at hl; cases hl
          obtain ⟨hr, hq⟩ := alone k0 k1
          refine wpX_one hr (wop hw (ecl_sound hcc hst hf hop h fun x w' s' own' H' r hx hsame hst' hrr hk => ?_))
          exact aD_alone hsz hi hfr hf hbd hx hst' hrr (hq.imp id fun hq => hsame (hq.2 (by rw [hcc]; exact hic))) (ih _ _ hk)
        · rename_i hic
          exact plain (by rw [hcc]; simpa using hic) (by rw [hcc]; exact h)
      · rename_i hcc
        refine plain ?_ h
        cases hop' : o.op <;> first | rfl | exact absurd hop' (hcc _)
    -- it does not
    have skip : Region.wanted o (yielded ops tm) = false → eO P Wr ops pu cD K (pl.map fun i => ops.getD i default) (fput fr o.dst (.v undef)) H → wpX P .any ops (Post Wr K w s own tm.size ds) (Sw w) (nxt hc ops.size (i :: pl)) (i :: pl).length listed ⟨tm, ds⟩ w := fun hw h => by
      rcases kinds with k0 | k1 | ⟨k0, k1⟩
      · exact aD_step ho hsz hok hs hcl hst hfr hf hbd (.v undef) (.inl ⟨k0, .inr ⟨hw, rfl⟩⟩) (ih _ _ h)
      · exact aD_step ho hsz hok hs hcl hst hfr hf hbd (.v undef) (.inr ⟨k1, .inr ⟨hw, rfl⟩⟩) (ih _ _ h)
      · obtain ⟨hr, _⟩ := alone k0 k1
        refine wpX_one hr ?_
        unfold wpOp; rw [ho]; dsimp only
        rw [if_neg (by rw [hw]; simp)]
        exact aD_alone hsz hi hfr hf hbd (Ext.refl ..) hst (.v _) (.inr fun _ _ => rfl) (ih _ _ h)
    unfold eO at h
    dsimp only at h
    cases hg : o.guard with
    | none =>
      rw [hg] at h
      exact run (by simp [Region.wanted, hg]) h
    | some jw =>
      obtain ⟨j, wt⟩ := jw
      rw [hg] at h hbg
      dsimp only at h hbg
      unfold egd at h
      split at h
      · rename_i A hA
        have hy := hfr.gv hbg hA
        have hw : Region.wanted o (yielded ops tm) = (A == wt) := by
          simp only [Region.wanted, hg, hy]
          cases A <;> cases wt <;> rfl
        unfold eG at h
        rcases h with ⟨h1, h2⟩ | h3
        · cases e : A == wt with
          | true => exact run (hw.trans e) (h1 e)
          | false => exact skip (hw.trans e) (h2 e)
        · -- known under the guard
          split at h3
          · rename_i t x hl
            have k1 : okind o = 1 := by unfold okind; rw [hl]; rfl
            cases e : A == wt with
            | true =>
              obtain ⟨v, a, g1, g2, g3⟩ := eld_sound hst (nrm_rep (str_rep (hop x (by rw [hl]; simp [Op.operands])) e)) h3
              refine aD_step ho hsz hok hs hcl hst hfr hf hbd (.gd _ _ _ fun _ => g2) (.inr ⟨k1, .inl ⟨hw.trans e, fun w' hw' => ?_⟩⟩) (ih _ _ g3)
              simp only [execOp, hl, Sem.run_bind, g1 w' hw'.2]; rfl
            | false =>
              obtain ⟨a, g3⟩ := eld_ex h3
              exact aD_step ho hsz hok hs hcl hst hfr hf hbd (.gd _ _ _ fun e' => by rw [e] at e'; cases e') (.inr ⟨k1, .inr ⟨hw.trans e, rfl⟩⟩) (ih _ _ g3)
          · have k0 : okind o = 0 := by
              have hp : isPure o.op = true := by
                cases hop' : o.op <;> rw [hop'] at h3 <;> first | rfl | exact h3.elim | skip
                rename_i c
                obtain ⟨f, hf1, hf2⟩ := pcl_pure (k := fun a => eO P Wr ops pu cD K (pl.map fun i => ops.getD i default) (fput fr o.dst (.gd (A == wt) a)) H) h3
                obtain ⟨ce, ca, ct⟩ := c
                dsimp only at hf1
                subst hf1
                rcases hf2 with rfl | rfl | rfl | rfl <;> rfl
              unfold okind; rw [if_pos hp]
            cases e : A == wt with
            | true =>
              obtain ⟨v, a, g1, g2, g3⟩ := pop_sound (P := P) (fun x hx => str_rep (hop x hx) e) h3
              exact aD_step ho hsz hok hs hcl hst hfr hf hbd (.gd _ _ _ fun _ => g2) (.inl ⟨k0, .inl ⟨hw.trans e, fun w _ => g1 w⟩⟩) (ih _ _ g3)
            | false =>
              obtain ⟨a, g3⟩ := pop_ex h3
              exact aD_step ho hsz hok hs hcl hst hfr hf hbd (.gd _ _ _ fun e' => by rw [e] at e'; cases e') (.inl ⟨k0, .inr ⟨hw.trans e, rfl⟩⟩) (ih _ _ g3)
      · exact h.elim
def puD (hd : List Nat) (d : Option Tmp) : Bool := match d with | some d => !hd.contains d | none => true
/-- a region that draws its order, reckoned by a plan; hc: the numbers of what may write; hd: their temporaries -/
theorem aC.draw0 {id : Nat} {ops : Array Oper} {K : Kt} {fr : Fr} {H : Hp} (hc hd plan : List Nat) (hp : P.follows .mixedOrders = true)
    (hok : (plan.length == ops.size && Region.noSelect ops && okD ops hc (puD hd) (Array.replicate ops.size false) plan) = true)
    (h : eO P Wr ops (puD hd) cD K (plan.map fun i => ops.getD i default) fr H) : aC P Wr (.region id ops true) K fr H := by
  simp only [Bool.and_eq_true, beq_iff_eq] at hok
  obtain ⟨⟨hl, hs⟩, hok⟩ := hok
  have := eD_sound hs plan (Array.replicate ops.size false) fr H (by simp) (Clsd.none_ _) hok h
  intro w s own tm ds hst hfr hf hb
  have h1 := this { w with drawn := w.drawn + 1 } s own tm ds (hst.heap rfl) hfr hf hb
  refine wp_region_any hp (wpAny_of_X (Q := Post Wr K w s own tm.size ds) (S := Sw { w with drawn := w.drawn + 1 }) (b := nxt hc ops.size plan) _ _ _ _ ?_)
  rw [hl] at h1
  refine wpX_mono (fun e a w' h => ?_) (fun _ h => h) _ _ _ _ h1
  have x : Ext Wr w s own { w with drawn := w.drawn + 1 } s own := Ext.heap rfl
  exact Post.back x h
/-- in the order of the text -/
theorem plan_id (l : List Oper) : (List.range l.length).map (fun i => l.toArray.getD i default) = l := by
  refine List.ext_getElem (by simp) fun i h1 h2 => ?_
  simp at h1 h2
  simp [h2]
theorem sel_eq (l : List Oper) : ∀ p : List Nat, sel l p = p.map fun i => l.toArray.getD i default
  | [] => rfl
  | i :: p => by rw [sel, List.map_cons, sel_eq l p]; simp
/-- a region that draws its order, reckoned by a plan -/
theorem aC.draw {id : Nat} {l : List Oper} {K : Kt} {fr : Fr} {H : Hp} (hc hd plan : List Nat) (hp : P.follows .mixedOrders = true)
    (hok : (plan.length == l.length && Region.noSelect l.toArray && okD l.toArray hc (puD hd) (Array.replicate l.length false) plan) = true) (l' : List Oper) (hl : l' = sel l plan)
    (h : gO P Wr l.toArray (puD hd) cD K l' .mk fr H) : gA P Wr (.region id l.toArray true) K .mk fr H :=
  aC.draw0 hc hd plan hp (by simpa using hok) (by rw [← sel_eq, ← hl]; exact h)
theorem aC.drawn {id : Nat} {l : List Oper} {K : Kt} {fr : Fr} {H : Hp} (hc hd : List Nat) (hp : P.follows .mixedOrders = true)
    (hok : (Region.noSelect l.toArray && okD l.toArray hc (puD hd) (Array.replicate l.length false) (List.range l.length)) = true)
    (h : gO P Wr l.toArray (puD hd) cD K l .mk fr H) : gA P Wr (.region id l.toArray true) K .mk fr H :=
  aC.draw0 hc hd (List.range l.length) hp (by simpa using hok) (by rw [plan_id]; exact h)
end
end Go.Proofs.YtiallkiiofomgaaGreat
