/- A run that is reckoned out: maps from numbers to numbers, and every operation that is no call. -/
import Derived.Test.YtiallkiiofomgaaGreatYe
namespace Go.Proofs.YtiallkiiofomgaaGreat
/-- an entry -/
def mpE (e : Int × Int × Nat) : MapEntry := ⟨.int .i64 e.1, .int .i64 e.2.1, e.2.2⟩
def mpIdx (k : Int) : List (Int × Int × Nat) → Option Nat
  | [] => none
  | e :: l => if e.1 = k then some 0 else (mpIdx k l).map (· + 1)
theorem mpFind_idx (k : Int) : ∀ l : List (Int × Int × Nat), mpFind k l = (mpIdx k l).bind fun i => (l[i]?).map (·.2.1)
  | [] => rfl
  | (a, v, s) :: l => by
    unfold mpFind mpIdx
    by_cases e : a = k
    · subst e; simp
    · have : (a == k) = false := by simpa using e
      rw [this]
      simp only [cond_false, if_neg e, mpFind_idx k l]
      cases mpIdx k l <;> simp
theorem mpIdx_spec {k : Int} : ∀ {l : List (Int × Int × Nat)} {i : Nat}, mpIdx k l = some i → ∃ e, l[i]? = some e ∧ e.1 = k
  | [], i, h => by cases h
  | e :: l, i, h => by
    unfold mpIdx at h
    split at h
    · cases h; exact ⟨e, rfl, by assumption⟩
    · rw [Option.map_eq_some_iff] at h
      obtain ⟨j, hj, rfl⟩ := h
      exact mpIdx_spec (l := l) hj
theorem findNow_mp {q : IntKind} (k : Int) : ∀ (l : List (Int × Int × Nat)) (i : Nat), Instr.findNow (.int q) (.int .i64 k) (l.map mpE) i = some ((mpIdx k l).map fun j => (i + j, (l.map mpE)[j]?.elim .nilIface (·.val)))
  | [], i => rfl
  | e :: l, i => by
    rw [List.map_cons]
    unfold Instr.findNow
    have hs : Instr.sameNow (.int q) (.int .i64 k) (mpE e).key = some (k == e.1) := by simp [Instr.sameNow, mpE]
    rw [hs]
    by_cases h : e.1 = k
    · subst h
      simp [mpIdx]
    · have : (k == e.1) = false := by simpa using fun q => h q.symm
      rw [this, findNow_mp k l (i + 1), show mpIdx k (e :: l) = (mpIdx k l).map (· + 1) from if_neg h]
      cases mpIdx k l with
      | none => rfl
      | some j => simp [Nat.add_comm, Nat.add_left_comm]
theorem mpSet_idx {k v : Int} : ∀ {l : List (Int × Int × Nat)} {i : Nat}, mpIdx k l = some i → (l.map mpE).modify i (fun e => { e with key := .int .i64 k, val := .int .i64 v }) = (mpSet k v l).map mpE
  | [], i, h => by cases h
  | (a, u, t) :: l, i, h => by
    unfold mpIdx at h
    unfold mpSet
    split at h
    · rename_i e
      cases h
      have e : a = k := e
      subst e
      simp [mpE]
    · rename_i e
      have e : ¬ a = k := e
      rw [Option.map_eq_some_iff] at h
      obtain ⟨j, hj, rfl⟩ := h
      have : (a == k) = false := by simpa using e
      rw [this]
      simp [mpSet_idx hj]
section
variable {P : Program} {s : Sto} {w : World} {own : Nat → Option Nat} {H : Hp} {Wr : Nat → Prop}
theorem tM_spec {t : TypeId} (h : tM P t = true) : ∃ k e q, P.underlying t = some (.map k e) ∧ P.underlying k = some (.int q) ∧ ∀ w, (zeroValue e).run P w = .ok (.int .i64 0) w := by
  unfold tM at h
  split at h
  · rename_i k e hu
    split at h
    · rename_i h1 h2
      refine ⟨k, e, _, hu, h1, fun w => ?_⟩
      unfold tZ at h2
      cases hi : P.info? e with
      | none => simp [hi] at h2
      | some i => simp [hi] at h2; simp [zeroValue, typeInfo, hi, h2]
    · cases h
  · cases h
theorem checkKey_int {em : Bool} {kt : TypeId} {q : IntKind} (h : P.underlying kt = some (.int q)) (n : Nat) (x : Value) : (Instr.checkKey em (n + 1) kt x).run P w = .ok () w := by
  unfold Instr.checkKey
  simp [run_underlying h]
/-- a new object of any kind -/
theorem St.allocO (h : St w s own H) {o : Obj} {O : AO} (hO : O.at_ s (w.alloc o) (fun b => if b = w.heap.size then some w.heap.size else own b) w.heap.size) :
    St (w.alloc o) s (fun b => if b = w.heap.size then some w.heap.size else own b) (hset H w.heap.size O) ∧ Ext Wr w s own (w.alloc o) s (fun b => if b = w.heap.size then some w.heap.size else own b) := by
  have hsz : (w.alloc o).heap.size = w.heap.size + 1 := Array.size_push ..
  refine ⟨⟨fun b o x e => ?_, fun b m e => ?_, fun b m e => ?_, fun m O e => ?_⟩, Sto.le.refl s, by omega, ⟨rfl, rfl, rfl⟩, fun b hb _ => ⟨alloc_old w _ hb, if_neg (by omega)⟩⟩
  · have h1 := h.imm b o x e
    have h2 := cell_lt h1.2.1
    exact ⟨by rw [if_neg (by omega)]; exact h1.1, by rw [cell_heap (alloc_old w _ h2)]; exact h1.2⟩
  · split at e
    · cases e; omega
    · have := h.lt b m e; omega
  · split at e
    · cases e; exact if_pos rfl
    · have := (h.lt b m e).2
      rw [if_neg (by omega)]; exact h.idem b m e
  · unfold hset at e
    split at e
    · rename_i hm
      cases e; subst hm
      exact hO
    · exact (h.obj m O e).keep (Sto.le.refl s) (fun b hb => ⟨alloc_old w _ (h.lt b m hb).1, by have := (h.lt b m hb).1; rw [if_neg (by omega)]; exact hb⟩)
/-- an object becomes another, where it lies -/
theorem St.setO (h : St w s own H) {m : Nat} {O : AO} (ho : own m = some m) (hw : Wr m) {w' : World} (hsz : w'.heap.size = w.heap.size) (hout : Out w w') (hoth : ∀ b, b ≠ m → w'.heap[b]? = w.heap[b]?) (hO : O.at_ s w' own m) :
    St w' s own (hset H m O) ∧ Ext Wr w s own w' s own := by
  refine ⟨⟨fun b o x e => ?_, fun b k e => ?_, h.idem, fun k O e => ?_⟩, Sto.le.refl s, by omega, hout, fun b hb hn => ⟨hoth b (fun e => hn m (e ▸ ho) hw), rfl⟩⟩
  · have h1 := h.imm b o x e
    exact ⟨h1.1, by rw [cell_heap (hoth b (fun e => by rw [e, ho] at h1; cases h1.1))]; exact h1.2⟩
  · have := h.lt b k e; omega
  · unfold hset at e
    split at e
    · rename_i hk
      cases e; subst hk
      exact hO
    · rename_i hk
      exact (h.obj k O e).keep (Sto.le.refl s) (fun b hb => ⟨hoth b (fun e => hk (by rw [e, ho] at hb; cases hb; rfl)), hb⟩)
theorem run_getObj_mp {r : Nat} {es : Array MapEntry} {c : Nat} (h : w.heap[r]? = some (.map es c)) : (getObj r).run P w = .ok (.map es c) w := by
  show (Sem.getObj r .pure).run P w = _
  unfold Sem.run
  rw [h]
  rfl
theorem run_setObj_mp {r : Nat} {es : Array MapEntry} {c : Nat} (h : w.heap[r]? = some (.map es c)) (o : Obj) : (setObj r o).run P w = .ok () { w with heap := w.heap.setIfInBounds r o } := by
  show (Sem.setObj r o (.pure ())).run P w = _
  unfold Sem.run
  rw [h]
  rfl
variable {lo : Nat} {ρ : Rho} {hp : XH} {nx : Nat}
theorem lookup_run {t : TypeId} (ht : tM P t = true) {b : Nat} {l : List (Int × Int × Nat)} {cl : Nat} (hb : w.heap[b]? = some (.map (l.map mpE).toArray cl)) (k : Int) (c : Bool) :
    (Instr.lookup t (.map (some b)) (.int .i64 k) c).run P w = .ok (if c then .tuple #[.int .i64 ((mpFind k l).getD 0), .bool (mpFind k l).isSome] else .int .i64 ((mpFind k l).getD 0)) w := by
  obtain ⟨kt, et, q, h1, h2, h3⟩ := tM_spec ht
  have hf := findNow_mp (q := q) k l 0
  simp only [Instr.lookup, Sem.run_bind, run_underlying h1, Result.andThen_ok, run_getObj_mp hb, Sem.run_pure, checkKey_int h2, Instr.findKey, run_underlying h2, hf]
  rw [mpFind_idx]
  cases hi : mpIdx k l with
  | none =>
    simp only [Option.map_none, Sem.run_pure, Result.andThen_ok, Sem.run_bind, h3 w]
    cases c <;> rfl
  | some i =>
    obtain ⟨e, he, _⟩ := mpIdx_spec hi
    simp only [Option.map_some, Sem.run_pure, Result.andThen_ok, Sem.run_bind]
    simp [he, mpE]
theorem mapUpdate_run {t : TypeId} (ht : tM P t = true) {b : Nat} {l : List (Int × Int × Nat)} {cl : Nat} (hb : w.heap[b]? = some (.map (l.map mpE).toArray cl)) (k v : Int) :
    (Instr.mapUpdate t (.map (some b)) (.int .i64 k) (.int .i64 v)).run P w = .ok () { w with heap := w.heap.setIfInBounds b (match mpFind k l with
      | some _ => .map ((mpSet k v l).map mpE).toArray cl
      | none => .map ((l ++ [(k, v, cl)]).map mpE).toArray (cl + 1)) } := by
  obtain ⟨kt, et, q, h1, h2, h3⟩ := tM_spec ht
  have hf := findNow_mp (q := q) k l 0
  simp only [Instr.mapUpdate, Sem.run_bind, run_underlying h1, Result.andThen_ok, run_getObj_mp hb, Sem.run_pure, checkKey_int h2, Instr.findKey, run_underlying h2, hf]
  rw [mpFind_idx]
  cases hi : mpIdx k l with
  | none =>
    simp only [Option.map_none, Sem.run_pure, Result.andThen_ok, Sem.run_bind, run_setObj_mp hb]
    simp [mpE]
  | some i =>
    obtain ⟨e, he, rfl⟩ := mpIdx_spec hi
    have hk : (((l.map mpE).toArray[0 + i]?).map (·.key)).getD (.int .i64 e.1) = .int .i64 e.1 := by simp [he, mpE]
    have hst : (Instr.keyThatStays (.int .i64 e.1) (.int .i64 e.1)).run P w = .ok (.int .i64 e.1) w := by
      unfold Instr.keyThatStays
      have : Instr.sameBits 10000 (.int .i64 e.1) (.int .i64 e.1) = true := by simp [Instr.sameBits]
      rw [if_pos this]; rfl
    have hm : (l.map mpE).toArray.modify (0 + i) (fun x => { x with key := .int .i64 e.1, val := .int .i64 v }) = ((mpSet e.1 v l).map mpE).toArray := by
      rw [← mpSet_idx hi]
      simp
    simp only [Option.map_some, Sem.run_pure, Result.andThen_ok, Sem.run_bind]
    simp only [hk, hst, Result.andThen_ok, run_setObj_mp hb, hm]
    simp [he]
end
end Go.Proofs.YtiallkiiofomgaaGreat
