/- Abstract values: what a value reads as; a heap of objects that may be written; what stands between. Over any program. -/
import Derived.OrdersHeld
import Derived.Tactics
import Derived.KernelRfl
import Derived.Laws.CopyRow
import Derived.Laws.Rows
import Derived.Laws.NewBlocks
namespace Go.Proofs.YtiallkiiofomgaaGreat
/-- what is said of a value: nothing; all; a row that is only read (x: no room behind it); a place in one; a struct; results; something, if a test said yes; some number -/
inductive AV where
  | any
  | v (x : Value)
  | sl (x : Bool) (l : List (List AV))
  | ep (l : List (List AV)) (i k : Nat)
  | agg (l : List AV)
  | tup (l : List AV)
  | gd (A : Bool) (x : AV)
  | wd (q : IntKind)
instance : Inhabited AV := ⟨.any⟩
/-- cells that nobody will write -/
abbrev Sto := Nat → Nat → Option Value
def Sto.le (s t : Sto) : Prop := ∀ b o x, s b o = some x → t b o = some x
theorem Sto.le.refl (s : Sto) : s.le s := fun _ _ _ h => h
theorem Sto.le.trans {s t u : Sto} (h : s.le t) (k : t.le u) : s.le u := fun _ _ _ e => k _ _ _ (h _ _ _ e)
inductive Rep (s : Sto) : AV → Value → Prop
  | any (x : Value) : Rep s .any x
  | v (x : Value) : Rep s (.v x) x
  | nil (x : Bool) (a : Option Addr) (c : Nat) (h : a = none → c = 0) (hx : x = true → c = 0) : Rep s (.sl x []) (.slice a 0 c)
  | sl (x : Bool) (l : List (List AV)) (b o es c : Nat) (f : Nat → Nat → Value) (h1 : ∀ r ∈ l, r.length = es) (h2 : ∀ i k r, l[i]? = some r → k < es → s b (o + i * es + k) = some (f i k)) (h3 : ∀ i k r a, l[i]? = some r → r[k]? = some a → Rep s a (f i k)) (h4 : l.length ≤ c) (h5 : x = true → c = l.length) : Rep s (.sl x l) (.slice (some ⟨b, o, none⟩) l.length c)
  | ep (l : List (List AV)) (i k b o es : Nat) (f : Nat → Nat → Value) (h1 : ∀ r ∈ l, r.length = es) (h2 : ∀ i k r, l[i]? = some r → k < es → s b (o + i * es + k) = some (f i k)) (h3 : ∀ i k r a, l[i]? = some r → r[k]? = some a → Rep s a (f i k)) : Rep s (.ep l i k) (.pointer (some ⟨b, o + i * es + k, none⟩))
  | agg (l : List AV) (vs : List Value) (h1 : vs.length = l.length) (h2 : ∀ x ∈ vs, x.oneCell' = true) (h3 : ∀ (i : Nat) a x, l[i]? = some a → vs[i]? = some x → Rep s a x) : Rep s (.agg l) (.agg vs.toArray)
  | tup (l : List AV) (vs : List Value) (h1 : vs.length = l.length) (h3 : ∀ (i : Nat) a x, l[i]? = some a → vs[i]? = some x → Rep s a x) : Rep s (.tup l) (.tuple vs.toArray)
  | gd (A : Bool) (a : AV) (x : Value) (h : A = true → Rep s a x) : Rep s (.gd A a) x
  | wd (q : IntKind) (n : Int) : Rep s (.wd q) (.int q n)
theorem Rep.mono {s t : Sto} (h : s.le t) {a : AV} {x : Value} (r : Rep s a x) : Rep t a x := by
  induction r with
  | any x => exact .any x
  | v x => exact .v x
  | nil x a c h hx => exact .nil x a c h hx
  | sl x l b o es c f h1 h2 _ h4 h5 ih => exact .sl x l b o es c f h1 (fun i k r e g => h _ _ _ (h2 i k r e g)) ih h4 h5
  | ep l i k b o es f h1 h2 _ ih => exact .ep l i k b o es f h1 (fun i k r e g => h _ _ _ (h2 i k r e g)) ih
  | agg l vs h1 h2 _ ih => exact .agg l vs h1 h2 ih
  | tup l vs h1 _ ih => exact .tup l vs h1 ih
  | gd A a x _ ih => exact .gd A a x ih
  | wd q n => exact .wd q n
theorem Rep.nil0 (s : Sto) (x : Bool) : Rep s (.sl x []) (.slice none 0 0) := .nil x none 0 (fun _ => rfl) (fun _ => rfl)
/-- values read as a list -/
def Reps (s : Sto) (l : List AV) (vs : List Value) : Prop := vs.length = l.length ∧ ∀ (i : Nat) a x, l[i]? = some a → vs[i]? = some x → Rep s a x
theorem Reps.mono {s t : Sto} (h : s.le t) {l : List AV} {vs : List Value} (r : Reps s l vs) : Reps t l vs := ⟨r.1, fun i a x e g => (r.2 i a x e g).mono h⟩
theorem Reps.nil (s : Sto) : Reps s [] [] := ⟨rfl, by simp⟩
theorem Reps.cons {s : Sto} {a : AV} {x : Value} {l : List AV} {vs : List Value} (h : Rep s a x) (r : Reps s l vs) : Reps s (a :: l) (x :: vs) := ⟨by simp [r.1], fun i => by
  cases i with
  | zero => intro b y e g; simp at e g; subst e g; exact h
  | succ i => intro b y e g; exact r.2 i b y (by simpa using e) (by simpa using g)⟩
theorem Reps.cons_inv {s : Sto} {a : AV} {l : List AV} {vs : List Value} (r : Reps s (a :: l) vs) : ∃ x ws, vs = x :: ws ∧ Rep s a x ∧ Reps s l ws := by
  cases vs with
  | nil => have := r.1; simp at this
  | cons x ws => exact ⟨x, ws, rfl, r.2 0 a x rfl rfl, by have := r.1; simpa using this, fun i b y e g => r.2 (i + 1) b y (by simpa using e) (by simpa using g)⟩
theorem Reps.nil_inv {s : Sto} {vs : List Value} (r : Reps s [] vs) : vs = [] := by have := r.1; simpa using this
theorem Reps.get {s : Sto} {l : List AV} {vs : List Value} (r : Reps s l vs) {i : Nat} {a : AV} (h : l[i]? = some a) : ∃ x, vs[i]? = some x ∧ Rep s a x := by
  have hi : i < vs.length := by rw [r.1]; exact (List.getElem?_eq_some_iff.1 h).1
  exact ⟨vs[i], List.getElem?_eq_getElem hi, r.2 i a _ h (List.getElem?_eq_getElem hi)⟩
theorem Reps.append {s : Sto} {l m : List AV} {vs ws : List Value} (h : Reps s l vs) (k : Reps s m ws) : Reps s (l ++ m) (vs ++ ws) := ⟨by simp [h.1, k.1], fun i a x e g => by
  rw [List.getElem?_append] at e g
  rw [h.1] at g
  split at e
  · rw [if_pos (by assumption)] at g; exact h.2 i a x e g
  · rw [if_neg (by assumption)] at g; exact k.2 _ a x e g⟩
theorem Reps.take {s : Sto} {l : List AV} {vs : List Value} (h : Reps s l vs) (n : Nat) : Reps s (l.take n) (vs.take n) := ⟨by simp [h.1], fun i a x e g => by
  rw [List.getElem?_take] at e g
  split at e
  · rw [if_pos (by assumption)] at g; exact h.2 i a x e g
  · cases e⟩
theorem Reps.drop {s : Sto} {l : List AV} {vs : List Value} (h : Reps s l vs) (n : Nat) : Reps s (l.drop n) (vs.drop n) := ⟨by simp [h.1], fun i a x e g => by
  rw [List.getElem?_drop] at e g
  exact h.2 _ a x e g⟩
theorem Reps.anys (s : Sto) (vs : List Value) : Reps s (List.replicate vs.length .any) vs := ⟨by simp, fun i a x e _ => by
  rw [List.getElem?_replicate] at e
  split at e <;> cases e
  exact .any x⟩
/-- an object: cells of a type; a map from numbers to numbers; one of many blocks, of which only this is known -/
inductive AO where
  | cells (T : TypeId) (l : List AV)
  | mp (l : List (Int × Int × Nat)) (c : Nat)
  | abs (A : (Nat → Option (TypeId × List AV)) → Prop)
abbrev Hp := Nat → Option AO
def hset (H : Hp) (m : Nat) (o : AO) : Hp := fun b => if b = m then some o else H b
def hdel (H : Hp) (m : Nat) : Hp := fun b => if b = m then none else H b
def Sub (H G : Hp) : Prop := ∀ m O, H m = some O → G m = some O
def CellsAt (s : Sto) (w : World) (b : Nat) (T : TypeId) (l : List AV) : Prop := ∃ vs, w.heap[b]? = some (.cells vs.toArray T (0, 0)) ∧ Reps s l vs ∧ ∀ x ∈ vs, x.oneCell' = true
def AO.at_ (s : Sto) (w : World) (own : Nat → Option Nat) (m : Nat) : AO → Prop
  | .cells T l => own m = some m ∧ CellsAt s w m T l
  | .mp l c => own m = some m ∧ w.heap[m]? = some (.map (l.map fun e => ⟨.int .i64 e.1, .int .i64 e.2.1, e.2.2⟩).toArray c)
  | .abs A => own m = some m ∧ ∃ h : Nat → Option (TypeId × List AV), A h ∧ ∀ b T l, h b = some (T, l) → own b = some m ∧ CellsAt s w b T l
/-- what is known of a world: cells that stay; whose a block is; the objects -/
structure St (w : World) (s : Sto) (own : Nat → Option Nat) (H : Hp) : Prop where
  imm : ∀ b o x, s b o = some x → own b = none ∧ w.cell? ⟨b, o, none⟩ = some x ∧ x.oneCell' = true
  lt : ∀ b m, own b = some m → b < w.heap.size ∧ m < w.heap.size
  idem : ∀ b m, own b = some m → own m = some m
  obj : ∀ m O, H m = some O → O.at_ s w own m
/-- what lies outside of memory is as it was -/
def Out (w w' : World) : Prop := w'.os = w.os ∧ w'.tape = w.tape ∧ w'.output = w.output
theorem Out.trans {w w1 w2 : World} (h : Out w w1) (k : Out w1 w2) : Out w w2 := ⟨k.1.trans h.1, k.2.1.trans h.2.1, k.2.2.trans h.2.2⟩
/-- what may have come about: nobody's blocks, and those of objects that may not be written, are as they were -/
structure Ext (Wr : Nat → Prop) (w : World) (s : Sto) (own : Nat → Option Nat) (w' : World) (s' : Sto) (own' : Nat → Option Nat) : Prop where
  le : s.le s'
  size : w.heap.size ≤ w'.heap.size
  out : Out w w'
  keep : ∀ b, b < w.heap.size → (∀ m, own b = some m → ¬ Wr m) → w'.heap[b]? = w.heap[b]? ∧ own' b = own b
theorem Ext.refl (Wr : Nat → Prop) (w : World) (s : Sto) (own : Nat → Option Nat) : Ext Wr w s own w s own := ⟨Sto.le.refl s, Nat.le_refl _, ⟨rfl, rfl, rfl⟩, fun _ _ _ => ⟨rfl, rfl⟩⟩
theorem Ext.trans {Wr : Nat → Prop} {w w1 w2 : World} {s s1 s2 : Sto} {own own1 own2 : Nat → Option Nat} (h : Ext Wr w s own w1 s1 own1) (k : Ext Wr w1 s1 own1 w2 s2 own2) : Ext Wr w s own w2 s2 own2 :=
  ⟨h.le.trans k.le, Nat.le_trans h.size k.size, h.out.trans k.out, fun b hb hn => by
    obtain ⟨h1, h2⟩ := h.keep b hb hn
    obtain ⟨k1, k2⟩ := k.keep b (Nat.lt_of_lt_of_le hb h.size) (fun m e => hn m (h2 ▸ e))
    exact ⟨k1.trans h1, k2.trans h2⟩⟩
theorem Ext.mono {Wr Wr' : Nat → Prop} {w w' : World} {s s' : Sto} {own own' : Nat → Option Nat} (h : Ext Wr w s own w' s' own') (hw : ∀ b m, b < w.heap.size → own b = some m → Wr m → Wr' m) : Ext Wr' w s own w' s' own' :=
  ⟨h.le, h.size, h.out, fun b hb hn => h.keep b hb (fun m e k => hn m e (hw b m hb e k))⟩
section
variable {w : World} {s : Sto} {own : Nat → Option Nat} {H : Hp} {Wr : Nat → Prop}
theorem St.drop {G : Hp} (h : St w s own H) (k : Sub G H) : St w s own G := ⟨h.imm, h.lt, h.idem, fun m O e => h.obj m O (k m O e)⟩
/-- another world with the same heap -/
theorem CellsAt.heap {w' : World} {b : Nat} {T : TypeId} {l : List AV} (h : CellsAt s w b T l) (e : w'.heap[b]? = w.heap[b]?) : CellsAt s w' b T l := by
  obtain ⟨vs, h1, h2⟩ := h
  exact ⟨vs, e.trans h1, h2⟩
theorem CellsAt.mono {t : Sto} {b : Nat} {T : TypeId} {l : List AV} (h : CellsAt s w b T l) (k : s.le t) : CellsAt t w b T l := by
  obtain ⟨vs, h1, h2⟩ := h
  exact ⟨vs, h1, h2.1.mono k, h2.2⟩
theorem AO.at_.keep {t : Sto} {w' : World} {own' : Nat → Option Nat} {m : Nat} {O : AO} (h : O.at_ s w own m) (k : s.le t) (hk : ∀ b, own b = some m → w'.heap[b]? = w.heap[b]? ∧ own' b = some m) : O.at_ t w' own' m := by
  cases O with
  | cells T l => exact ⟨(hk m h.1).2, (h.2.heap (hk m h.1).1).mono k⟩
  | mp l c => exact ⟨(hk m h.1).2, (hk m h.1).1.trans h.2⟩
  | abs A =>
    obtain ⟨h1, g, h2, h3⟩ := h
    exact ⟨(hk m h1).2, g, h2, fun b T l e => ⟨(hk b (h3 b T l e).1).2, ((h3 b T l e).2.heap (hk b (h3 b T l e).1).1).mono k⟩⟩
theorem cell_heap {w w' : World} {b o : Nat} (e : w'.heap[b]? = w.heap[b]?) : w'.cell? ⟨b, o, none⟩ = w.cell? ⟨b, o, none⟩ := by unfold World.cell?; rw [e]
theorem cell_lt {w : World} {b o : Nat} {x : Value} (h : w.cell? ⟨b, o, none⟩ = some x) : b < w.heap.size := by
  rcases Nat.lt_or_ge b w.heap.size with hl | hl
  · exact hl
  · simp [World.cell?, Array.getElem?_eq_none hl] at h
theorem St.heap {w' : World} (h : St w s own H) (e : w'.heap = w.heap) : St w' s own H :=
  ⟨fun b o x k => ⟨(h.imm b o x k).1, (cell_heap (by rw [e])).trans (h.imm b o x k).2.1, (h.imm b o x k).2.2⟩, fun b m k => by rw [e]; exact h.lt b m k, h.idem, fun m O k => (h.obj m O k).keep (Sto.le.refl s) (fun b hb => ⟨by rw [e], hb⟩)⟩
theorem Ext.heap {w' : World} (e : w'.heap = w.heap) (o : Out w w' := by exact ⟨rfl, rfl, rfl⟩) : Ext Wr w s own w' s own := ⟨Sto.le.refl s, by rw [e]; exact Nat.le_refl _, o, fun _ _ _ => ⟨by rw [e], rfl⟩⟩
/-- blocks that stood and are as they were -/
theorem St.same {w' : World} (h : St w s own H) (hs : w.heap.size ≤ w'.heap.size) (e : ∀ b, b < w.heap.size → w'.heap[b]? = w.heap[b]?) : St w' s own H :=
  ⟨fun b o x k => ⟨(h.imm b o x k).1, by rw [cell_heap (e b (cell_lt (h.imm b o x k).2.1))]; exact (h.imm b o x k).2⟩, fun b m k => ⟨Nat.lt_of_lt_of_le (h.lt b m k).1 hs, Nat.lt_of_lt_of_le (h.lt b m k).2 hs⟩, h.idem, fun m O k => (h.obj m O k).keep (Sto.le.refl s) (fun b hb => ⟨e b (h.lt b m hb).1, hb⟩)⟩
theorem St.fresh (h : St w s own H) : own w.heap.size = none ∧ H w.heap.size = none ∧ ∀ o, s w.heap.size o = none := by
  refine ⟨?_, ?_, fun o => ?_⟩
  · cases e : own w.heap.size with
    | none => rfl
    | some m => have := (h.lt _ _ e).1; omega
  · cases e : H w.heap.size with
    | none => rfl
    | some O => have h1 := h.obj _ _ e; cases O <;> (have := (h.lt _ _ h1.1).1; omega)
  · cases e : s w.heap.size o with
    | none => rfl
    | some x => have := cell_lt (h.imm _ _ _ e).2.1; omega
theorem alloc_old (w : World) (o : Obj) {b : Nat} (h : b < w.heap.size) : (w.alloc o).heap[b]? = w.heap[b]? := (Array.getElem?_push (xs := w.heap)).trans (if_neg (Nat.ne_of_lt h))
theorem alloc_at (w : World) (o : Obj) : (w.alloc o).heap[w.heap.size]? = some o := (Array.getElem?_push (xs := w.heap)).trans (if_pos rfl)
/-- a new object -/
theorem St.alloc (h : St w s own H) (T : TypeId) {l : List AV} {vs : List Value} (r : Reps s l vs) (r1 : ∀ x ∈ vs, x.oneCell' = true) :
    St (w.alloc (.cells vs.toArray T)) s (fun b => if b = w.heap.size then some w.heap.size else own b) (hset H w.heap.size (.cells T l)) ∧ Ext Wr w s own (w.alloc (.cells vs.toArray T)) s (fun b => if b = w.heap.size then some w.heap.size else own b) := by
  have hsz : (w.alloc (.cells vs.toArray T)).heap.size = w.heap.size + 1 := Array.size_push ..
  refine ⟨⟨fun b o x e => ?_, fun b m e => ?_, fun b m e => ?_, fun m O e => ?_⟩, Sto.le.refl s, by omega, ⟨rfl, rfl, rfl⟩, fun b hb _ => ⟨alloc_old w _ hb, if_neg (by omega)⟩⟩
  · have h1 := h.imm b o x e
    have h2 := cell_lt h1.2.1
    exact ⟨by rw [if_neg (by omega)]; exact h1.1, by rw [cell_heap (alloc_old w _ h2)]; exact h1.2⟩
  · split at e
    · cases e; omega
    · have := h.lt b m e; omega
  · split at e
    · cases e; exact if_pos rfl
    · have := (h.lt b m e).2
      rw [if_neg (by omega)]; exact h.idem b m e
  · unfold hset at e
    split at e
    · rename_i hm
      cases e; subst hm
      exact ⟨if_pos rfl, vs, alloc_at w _, r, r1⟩
    · exact (h.obj m O e).keep (Sto.le.refl s) (fun b hb => ⟨alloc_old w _ (h.lt b m hb).1, by have := (h.lt b m hb).1; rw [if_neg (by omega)]; exact hb⟩)
/-- new cells that nobody will write -/
def Sto.put (s : Sto) (b : Nat) (vs : List Value) : Sto := fun c o => if c = b then vs[o]? else s c o
theorem Sto.put_le {s : Sto} {b : Nat} (vs : List Value) (h : ∀ o, s b o = none) : s.le (s.put b vs) := fun c o x e => by
  unfold Sto.put
  split
  · rename_i hc; subst hc; rw [h] at e; cases e
  · exact e
theorem St.allocImm (h : St w s own H) (T : TypeId) (vs : List Value) (r1 : ∀ x ∈ vs, x.oneCell' = true) :
    St (w.alloc (.cells vs.toArray T)) (s.put w.heap.size vs) own H ∧ Ext Wr w s own (w.alloc (.cells vs.toArray T)) (s.put w.heap.size vs) own := by
  have hsz : (w.alloc (.cells vs.toArray T)).heap.size = w.heap.size + 1 := Array.size_push ..
  have hle := Sto.put_le (s := s) vs h.fresh.2.2
  refine ⟨⟨fun b o x e => ?_, fun b m e => ?_, h.idem, fun m O e => ?_⟩, hle, by omega, ⟨rfl, rfl, rfl⟩, fun b hb _ => ⟨alloc_old w _ hb, rfl⟩⟩
  · unfold Sto.put at e
    split at e
    · rename_i hb; subst hb
      exact ⟨h.fresh.1, by unfold World.cell?; rw [alloc_at]; simpa using e, r1 x (List.mem_of_getElem? e)⟩
    · have h1 := h.imm b o x e
      exact ⟨h1.1, by rw [cell_heap (alloc_old w _ (cell_lt h1.2.1))]; exact h1.2⟩
  · have := h.lt b m e; omega
  · exact (h.obj m O e).keep hle (fun b hb => ⟨alloc_old w _ (h.lt b m hb).1, hb⟩)
/-- an object's row is another one -/
theorem St.setRow (h : St w s own H) {m : Nat} {T : TypeId} {l l' : List AV} {vs : List Value} (hm : H m = some (.cells T l)) (hw : Wr m) (r : Reps s l' vs) (r1 : ∀ x ∈ vs, x.oneCell' = true) :
    St (w.setRow m vs.toArray) s own (hset H m (.cells T l')) ∧ Ext Wr w s own (w.setRow m vs.toArray) s own := by
  obtain ⟨ho, us, hu, _⟩ := h.obj m _ hm
  have hsz : (w.setRow m vs.toArray).heap.size = w.heap.size := size_setRow w m _
  have hoth : ∀ b, b ≠ m → (w.setRow m vs.toArray).heap[b]? = w.heap[b]? := fun b hb => setRow_other w m b _ (by omega)
  refine ⟨⟨fun b o x e => ?_, fun b k e => ?_, h.idem, fun k O e => ?_⟩, Sto.le.refl s, by omega, ⟨rfl, rfl, rfl⟩, fun b hb hn => ⟨hoth b (fun e => hn m (e ▸ ho) hw), rfl⟩⟩
  · have h1 := h.imm b o x e
    exact ⟨h1.1, by rw [cell_heap (hoth b (fun e => by rw [e, ho] at h1; cases h1.1))]; exact h1.2⟩
  · have := h.lt b k e; omega
  · unfold hset at e
    split at e
    · rename_i hk
      cases e; subst hk
      exact ⟨ho, vs, setRow_heap w k us.toArray vs.toArray T (0, 0) hu, r, r1⟩
    · rename_i hk
      exact (h.obj k O e).keep (Sto.le.refl s) (fun b hb => ⟨hoth b (fun e => hk (by rw [e, ho] at hb; cases hb; rfl)), hb⟩)
/-- an object that nobody will write from here on -/
theorem St.freeze (h : St w s own H) {m : Nat} {T : TypeId} {l : List AV} (hm : H m = some (.cells T l)) (hw : Wr m) :
    ∃ s' own' vs, St w s' own' (hdel H m) ∧ Ext Wr w s own w s' own' ∧ Reps s' l vs ∧ ∀ o x, vs[o]? = some x → s' m o = some x := by
  obtain ⟨ho, us, hu, hr, hr1⟩ := h.obj m _ hm
  have hs : ∀ o, s m o = none := fun o => by
    cases e : s m o with
    | none => rfl
    | some x => have := (h.imm m o x e).1; rw [ho] at this; cases this
  have hle := Sto.put_le us hs
  refine ⟨s.put m us, fun b => if own b = some m then none else own b, us, ⟨fun b o x e => ?_, fun b k e => ?_, fun b k e => ?_, fun k O e => ?_⟩, ⟨hle, Nat.le_refl _, ⟨rfl, rfl, rfl⟩, fun b hb hn => ⟨rfl, if_neg (fun e => hn m e hw)⟩⟩, hr.mono hle, fun o x e => by simp [Sto.put, e]⟩
  · unfold Sto.put at e
    split at e
    · rename_i hb; subst hb
      exact ⟨if_pos ho, by simp [World.cell?, hu, e], hr1 x (List.mem_of_getElem? e)⟩
    · have h1 := h.imm b o x e
      exact ⟨by rw [if_neg (by rw [h1.1]; simp)]; exact h1.1, h1.2⟩
  · split at e
    · cases e
    · exact h.lt b k e
  · split at e
    · cases e
    · rename_i hk
      have := h.idem b k e
      rw [if_neg (by rw [this]; intro q; cases q; exact hk e)]; exact this
  · unfold hdel at e
    split at e
    · cases e
    · rename_i hk
      exact (h.obj k O e).keep hle (fun b hb => ⟨rfl, by rw [if_neg (by rw [hb]; intro e; cases e; exact hk rfl)]; exact hb⟩)
/-- an object of many blocks is opened: each of them is one of its own -/
def hopen (H : Hp) (m : Nat) (g : Nat → Option (TypeId × List AV)) : Hp := fun b => match g b with | some (T, l) => some (.cells T l) | none => if b = m then none else H b
theorem St.open_ (h : St w s own H) {m : Nat} {A : (Nat → Option (TypeId × List AV)) → Prop} (hm : H m = some (.abs A)) :
    ∃ g, A g ∧ (∀ b, (g b).isSome = true → own b = some m) ∧ St w s (fun b => if (g b).isSome then some b else own b) (hopen H m g) := by
  obtain ⟨ho, g, hA, hg⟩ := h.obj m _ hm
  have hgm : ∀ b, (g b).isSome = true → own b = some m := fun b hb => by
    obtain ⟨⟨T, l⟩, e⟩ := Option.isSome_iff_exists.1 hb
    exact (hg b T l e).1
  refine ⟨g, hA, hgm, ⟨fun b o x e => ?_, fun b k e => ?_, fun b k e => ?_, fun k O e => ?_⟩⟩
  · have h1 := h.imm b o x e
    refine ⟨?_, h1.2⟩
    rw [if_neg (fun q => by rw [hgm b q] at h1; cases h1.1)]; exact h1.1
  · split at e
    · rename_i q; cases e; have := h.lt b m (hgm b q); omega
    · exact h.lt b k e
  · split at e
    · rename_i q; cases e; exact if_pos q
    · have := h.idem b k e
      split
      · rfl
      · exact this
  · unfold hopen at e
    split at e
    · rename_i T l hk
      cases e
      exact ⟨by simp [hk], (hg k T l hk).2⟩
    · rename_i hk
      split at e
      · cases e
      · rename_i hkm
        refine (h.obj k O e).keep (Sto.le.refl s) (fun b hb => ⟨rfl, ?_⟩)
        rw [if_neg (fun q => hkm (by rw [hgm b q] at hb; cases hb; rfl))]; exact hb
/-- some objects become one -/
theorem St.close (h : St w s own H) {m : Nat} {A : (Nat → Option (TypeId × List AV)) → Prop} {g : Nat → Option (TypeId × List AV)} (hA : A g) (hg : ∀ b T l, g b = some (T, l) → H b = some (.cells T l) ∧ Wr b) (hm : (g m).isSome = true) {G : Hp} (hG : ∀ b, b ≠ m → ∀ O, G b = some O → g b = none ∧ H b = some O) (hGm : ∀ O, G m = some O → O = .abs A) :
    ∃ own', St w s own' G ∧ Ext Wr w s own w s own' := by
  have hgo : ∀ b, (g b).isSome = true → own b = some b ∧ Wr b := fun b hb => by
    obtain ⟨⟨T, l⟩, e⟩ := Option.isSome_iff_exists.1 hb
    exact ⟨(h.obj b _ (hg b T l e).1).1, (hg b T l e).2⟩
  let f : Nat → Option Nat := fun b => match own b with | some k => if (g k).isSome then some m else some k | none => none
  have f1 : ∀ b k, own b = some k → (g k).isSome = true → f b = some m := fun b k e q => by simp only [f, e, if_pos q]
  have f2 : ∀ b k, own b = some k → ¬ (g k).isSome = true → f b = some k := fun b k e q => by simp only [f, e, if_neg q]
  have f3 : ∀ b, own b = none → f b = none := fun b e => by simp only [f, e]
  have hfm : f m = some m := f1 m m (hgo m hm).1 hm
  refine ⟨f, ⟨fun b o x e => ?_, fun b k e => ?_, fun b k e => ?_, fun k O e => ?_⟩, Sto.le.refl s, Nat.le_refl _, ⟨rfl, rfl, rfl⟩, fun b hb hn => ⟨rfl, ?_⟩⟩
  · have h1 := h.imm b o x e
    exact ⟨f3 b h1.1, h1.2⟩
  · cases hb : own b with
    | none => rw [f3 b hb] at e; cases e
    | some j =>
      have := h.lt b j hb
      have hmm := (h.lt m m (hgo m hm).1).1
      by_cases q : (g j).isSome = true
      · rw [f1 b j hb q] at e; cases e; omega
      · rw [f2 b j hb q] at e; cases e; omega
  · cases hb : own b with
    | none => rw [f3 b hb] at e; cases e
    | some j =>
      by_cases q : (g j).isSome = true
      · rw [f1 b j hb q] at e; cases e; exact hfm
      · rw [f2 b j hb q] at e; cases e; exact f2 k k (h.idem b k hb) q
  · by_cases hkm : k = m
    · subst hkm
      cases hGm O e
      refine ⟨hfm, g, hA, fun b T l hb => ?_⟩
      have h1 := h.obj b _ (hg b T l hb).1
      exact ⟨f1 b b h1.1 (by rw [hb]; rfl), h1.2⟩
    · obtain ⟨q, e⟩ := hG k hkm O e
      refine (h.obj k O e).keep (Sto.le.refl s) (fun b hb => ⟨rfl, f2 b k hb (by rw [q]; simp)⟩)
  · cases hb : own b with
    | none => exact f3 b hb
    | some j => exact f2 b j hb (fun q => hn j hb (hgo j q).2)
end
end Go.Proofs.YtiallkiiofomgaaGreat
