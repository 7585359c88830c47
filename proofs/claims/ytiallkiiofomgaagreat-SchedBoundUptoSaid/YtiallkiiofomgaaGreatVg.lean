/- Abstract values: memory: loads, stores, new objects. -/
import Derived.Test.YtiallkiiofomgaaGreatVf
namespace Go.Proofs.YtiallkiiofomgaaGreat
def ldO : Option AO → Option Nat → Nat → (AV → Prop) → Prop
  | some (.cells _ l), tk, o, k => pick1 tk l o k
  | _, _, _, _ => False
def ldR : Option (List AV) → Option Nat → Nat → (AV → Prop) → Prop
  | some r, tk, o, k => pick1 tk r o k
  | _, _, _, _ => False
def stO (Wr : Nat → Prop) (n b o : Nat) (m : List AV) (H : Hp) : Option AO → (Hp → Prop) → Prop
  | some (.cells T l), k => (Wr b ∧ m.length = n ∧ o + n ≤ l.length) ∧ k (hset H b (.cells T (splice l o m)))
  | _, _ => False
theorem ldO_inv {O : Option AO} {tk : Option Nat} {o : Nat} {k : AV → Prop} (h : ldO O tk o k) : ∃ T l, O = some (.cells T l) ∧ pick1 tk l o k := by
  cases O with
  | none => exact h.elim
  | some O => cases O with
    | cells T l => exact ⟨T, l, rfl, h⟩
    | mp _ _ => exact h.elim
    | abs A => exact h.elim
theorem ldR_inv {O : Option (List AV)} {tk : Option Nat} {o : Nat} {k : AV → Prop} (h : ldR O tk o k) : ∃ l, O = some l ∧ pick1 tk l o k := by
  cases O with
  | none => exact h.elim
  | some l => exact ⟨l, rfl, h⟩
theorem stO_inv {Wr : Nat → Prop} {n b o : Nat} {m : List AV} {H : Hp} {O : Option AO} {k : Hp → Prop} (h : stO Wr n b o m H O k) : ∃ T l, O = some (.cells T l) ∧ (Wr b ∧ m.length = n ∧ o + n ≤ l.length) ∧ k (hset H b (.cells T (splice l o m))) := by
  cases O with
  | none => exact h.elim
  | some O => cases O with
    | cells T l => exact ⟨T, l, rfl, h⟩
    | mp _ _ => exact h.elim
    | abs A => exact h.elim
def eld (tk : Option (Option Nat)) (x : AV) (H : Hp) (k : AV → Prop) : Prop := match tk, x with
  | some tk, .v (.pointer (some ⟨b, o, none⟩)) => ldO (H b) tk o k
  | some tk, .ep l i j => ldR l[i]? tk j k
  | _, _ => False
def est (n : Option Nat) (Wr : Nat → Prop) (x y : AV) (H : Hp) (k : Hp → Prop) : Prop := match n, x, avc y with
  | some n, .v (.pointer (some ⟨b, o, none⟩)), some m => stO Wr n b o m H (H b) k
  | _, _, _ => False
/-- a new object -/
def enew (T : TypeId) (Wr : Nat → Prop) (m : Option (List AV)) (H : Hp) (k : AV → Hp → Prop) : Prop := match m with
  | some m => ∀ b, H b = none → Wr b → k (.v (.pointer (some ⟨b, 0, none⟩))) (hset H b (.cells T m))
  | none => False
/-- a row that is written out -/
def brow (ev : Operand → AV) (sz : Nat) : Nat → List (Nat × Operand) → Option (List (List AV))
  | _, [] => some []
  | i, (j, x) :: r => if j = i then match avc (ev x), brow ev sz (i + 1) r with
    | some m, some t => if m.length = sz then some (m :: t) else none
    | _, _ => none
    else none
def ebs (zk : Bool) (e : Option (TypeId × Nat × Nat)) (len : Nat) (ev : Operand → AV) (ps : List (Nat × Operand)) (k : AV → Prop) : Prop := match e with
  | some (_, sz, _) => match brow ev sz 0 ps with
    | some l => (l.length = len ∧ len * sz ≤ 16777216 ∧ zk = true) ∧ k (.sl true l)
    | none => False
  | none => False
/-- an element's zero is as large as the element -/
def tEz (P : Program) (t : TypeId) : Bool := match tE P t with
  | some (e, n, _) => match tZ P e with
    | some z => z.cells.size == n && z.cells.toList.all (·.oneCell')
    | none => false
  | none => false
theorem tEz_spec {P : Program} {t e : TypeId} {n b : Nat} (h : tEz P t = true) (he : tE P t = some (e, n, b)) : ∃ z, tZ P e = some z ∧ z.cells.size = n ∧ ∀ y ∈ z.cells.toList, y.oneCell' = true := by
  unfold tEz at h
  rw [he] at h
  dsimp only at h
  split at h
  · rename_i z hz
    simp only [Bool.and_eq_true, beq_iff_eq] at h
    exact ⟨z, hz, h.1, fun y hy => List.all_eq_true.1 h.2 y hy⟩
  · cases h
section
variable {P : Program} {s : Sto} {w : World} {own : Nat → Option Nat} {H : Hp} {Wr : Nat → Prop}
theorem run_load_cell {a : Addr} {x : Value} (h : w.cell? a = some x) : (load a).run P w = .ok x w := by rw [run_load, h]
/-- cells in a row, loaded -/
theorem run_loadAt' {t : TypeId} {tk : Option Nat} (hk : tK P t = some tk) {b o : Nat} {vs : List Value} (hc : ∀ j y, vs[j]? = some y → w.cell? ⟨b, o + j, none⟩ = some y) :
    (tk = none → ∀ y, vs[0]? = some y → (Instr.loadAt t (.pointer (some ⟨b, o, none⟩))).run P w = .ok y w) ∧ (∀ n, tk = some n → vs.length = n → (Instr.loadAt t (.pointer (some ⟨b, o, none⟩))).run P w = .ok (.agg vs.toArray) w) := by
  refine ⟨fun e y hy => ?_, fun n e hn => ?_⟩
  · subst e
    have h1 := hc 0 y hy
    rw [Nat.add_zero] at h1
    simp only [Instr.loadAt, Instr.sureAddr, Sem.run_bind, Sem.run_pure, Result.andThen_ok, loadVar, (tK_spec hk).1]
    exact run_load_cell h1
  · subst e
    have hl : (loadCells ⟨b, o, none⟩ vs.length).run P w = .ok vs.toArray w :=
      run_loadCells_list (P := P) w ⟨b, o, none⟩ vs (fun j y hy => by rw [addr_add]; exact hc j y hy)
    simp only [Instr.loadAt, Instr.sureAddr, Sem.run_bind, Sem.run_pure, Result.andThen_ok, loadVar, (tK_spec hk).1, Option.isSome_some, if_true, run_sizeOf' ((tK_spec hk).2 n rfl)]
    rw [← hn, hl]
    rfl
theorem eld_sound {t : TypeId} {x : AV} {v : Value} {k : AV → Prop} (hst : St w s own H) (r : Rep s x v) (h : eld (tK P t) x H k) :
    ∃ y a, (∀ w' : World, (∀ b, b < w.heap.size → w'.heap[b]? = w.heap[b]?) → (Instr.loadAt t v).run P w' = .ok y w') ∧ Rep s a y ∧ k a := by
  -- from cells that read as a list
  have key : ∀ {tk : Option Nat} {l : List AV} {vs : List Value} {b o p : Nat}, tK P t = some tk → b < w.heap.size → Reps s l vs → (∀ x ∈ vs, x.oneCell' = true) → (∀ j y, vs[j]? = some y → w.cell? ⟨b, p + j, none⟩ = some y) → pick1 tk l o k →
      ∃ y a, (∀ w' : World, (∀ b, b < w.heap.size → w'.heap[b]? = w.heap[b]?) → (Instr.loadAt t (.pointer (some ⟨b, p + o, none⟩))).run P w' = .ok y w') ∧ Rep s a y ∧ k a := by
    intro tk l vs b o p hk hb rl r1 hc hp
    have hp := pick1_sound hk rl r1 hp
    have hc' : ∀ w' : World, w'.heap[b]? = w.heap[b]? → ∀ n j y, ((vs.drop o).take n)[j]? = some y → w'.cell? ⟨b, p + o + j, none⟩ = some y := by
      intro w' e n j y hy
      rw [cell_heap e, Nat.add_assoc]
      apply hc
      rw [List.getElem?_take] at hy
      split at hy
      · rw [List.getElem?_drop] at hy; exact hy
      · cases hy
    cases tk with
    | none =>
      obtain ⟨a, y, hy, hr, hk'⟩ := hp.1 rfl
      refine ⟨y, a, fun w' e => (run_loadAt' hk (vs := (vs.drop o).take 1) (hc' w' (e b hb) 1)).1 rfl y (by simpa [List.getElem?_take, List.getElem?_drop] using hy), hr, hk'⟩
    | some n =>
      obtain ⟨hl, hr, hk'⟩ := hp.2 n rfl
      exact ⟨_, _, fun w' e => (run_loadAt' hk (vs := (vs.drop o).take n) (hc' w' (e b hb) n)).2 n rfl (by simp; omega), hr, hk'⟩
  unfold eld at h
  split at h
  · rename_i tk b o hk
    cases r.v_inv
    obtain ⟨T, l, hb, h⟩ := ldO_inv h
    obtain ⟨ho, vs, hv, rl, r1⟩ := hst.obj b _ hb
    have := key (b := b) (o := o) (p := 0) hk (hst.lt _ _ ho).1 rl r1 (fun j y hy => by simp [World.cell?, hv, hy]) h
    simpa using this
  · rename_i tk l i j hk
    cases r with
    | ep _ _ _ b p es f h1 h2 h3 =>
      obtain ⟨rw_, hrw, h'⟩ := ldR_inv h
      clear h
      have h := h'
      clear h'
      have hes := h1 rw_ (List.mem_of_getElem? hrw)
      rcases Nat.eq_zero_or_pos es with h0 | h0
      · -- no cells
        have he : rw_ = [] := List.eq_nil_of_length_eq_zero (by omega)
        subst he
        cases tk with
        | none =>
          have h : optk ([] : List AV)[j]? k := h
          obtain ⟨_, h, _⟩ := optk_inv h
          simp at h
        | some n =>
          obtain ⟨hn, h⟩ := h
          have hz : n = 0 := by simp at hn; omega
          subst hz
          exact ⟨.agg #[], _, fun w' _ => (run_loadAt' (w := w') hk (vs := []) (fun j y hy => by simp at hy)).2 0 rfl rfl, .agg _ [] (by simp) (by simp) (by simp), h⟩
      · have hvs : ∀ k, k < es → s b (p + i * es + k) = some (f i k) := fun k hk => h2 i k rw_ hrw hk
        have hb : b < w.heap.size := cell_lt (hst.imm b _ _ (hvs 0 h0)).2.1
        have hget : ∀ k y, ((List.range es).map (f i))[k]? = some y → k < es ∧ y = f i k := by
          intro k y hy
          rw [List.getElem?_map, Option.map_eq_some_iff] at hy
          obtain ⟨z, hz, rfl⟩ := hy
          obtain ⟨hlt, hz⟩ := List.getElem?_eq_some_iff.1 hz
          simp at hlt hz
          exact ⟨hlt, by rw [hz]⟩
        have := key (l := rw_) (vs := (List.range es).map (f i)) (b := b) (o := j) (p := p + i * es) hk hb ⟨by simp [hes], fun k a y e g => by
          obtain ⟨_, rfl⟩ := hget k y g
          exact h3 i k rw_ a hrw e⟩ (fun y hy => by
            obtain ⟨k, hk, rfl⟩ := List.mem_map.1 hy
            exact (hst.imm b _ _ (hvs k (by simpa using hk))).2.2) (fun k y hy => by
            obtain ⟨hk, rfl⟩ := hget k y hy
            exact (hst.imm b _ _ (hvs k hk)).2.1) h
        exact this
  · exact h.elim
theorem est_sound {t : TypeId} {x y : AV} {v u : Value} {k : Hp → Prop} (hst : St w s own H) (r : Rep s x v) (ry : Rep s y u) (h : est (tS P t) Wr x y H k) :
    ∃ w' H', (Instr.storeAt t v u).run P w = .ok () w' ∧ St w' s own H' ∧ Ext Wr w s own w' s own ∧ k H' := by
  unfold est at h
  split at h
  · rename_i n b o m hn hm
    cases r.v_inv
    obtain ⟨T, l, hb, h⟩ := stO_inv h
    obtain ⟨⟨hw, h1, h2⟩, h3⟩ := h
    obtain ⟨ra, ra1⟩ := avc_sound ry hm
    obtain ⟨ho, vs, hv, rl, r1⟩ := hst.obj b _ hb
    have hul : u.cells.toList.length = n := by rw [ra.1]; exact h1
    have hrun := run_storeCells_at (P := P) b o T u.cells.toList 0 vs.toArray w hv (by simp; rw [rl.1]; simp at hul; omega) ra1
    have rs := rl.splice ra (o := o) (by omega)
    have r2 : ∀ y ∈ vs.take o ++ u.cells.toList ++ vs.drop (o + u.cells.toList.length), y.oneCell' = true := fun y hy => by
      simp only [List.append_assoc, List.mem_append] at hy
      rcases hy with hy | hy | hy
      · exact r1 y (List.mem_of_mem_take hy)
      · exact ra1 y hy
      · exact r1 y (List.mem_of_mem_drop hy)
    obtain ⟨g1, g2⟩ := hst.setRow hb hw rs r2
    refine ⟨_, _, ?_, g1, g2, h3⟩
    simp only [Instr.storeAt, Instr.sureAddr, Sem.run_bind, Sem.run_pure, Result.andThen_ok, storeVar, run_sizeOf' hn]
    rw [if_neg (by simp at hul; simp [hul])]
    simpa using hrun
  · exact h.elim
theorem enew_sound {T : TypeId} {m : Option (List AV)} {u : Value} {k : AV → Hp → Prop} (hst : St w s own H) (hf : ∀ m, w.heap.size ≤ m → Wr m) (hm : ∀ l, m = some l → Reps s l u.cells.toList ∧ ∀ y ∈ u.cells.toList, y.oneCell' = true) (h : enew T Wr m H k) :
    ∃ w' own' H' x a, (do pure (Value.pointer (some (← newVar T u))) : Sem Value).run P w = .ok x w' ∧ St w' s own' H' ∧ Ext Wr w s own w' s own' ∧ Rep s a x ∧ k a H' ∧ ∀ b, b < w.heap.size → w'.heap[b]? = w.heap[b]? := by
  unfold enew at h
  split at h
  · rename_i l
    obtain ⟨ra, ra1⟩ := hm l rfl
    obtain ⟨g1, g2⟩ := hst.alloc (Wr := Wr) T ra ra1
    refine ⟨_, _, _, _, _, ?_, g1, g2, .v _, h w.heap.size hst.fresh.2.1 (hf _ (Nat.le_refl _)), fun b hb => alloc_old w _ hb⟩
    simp only [newVar, newRow, Sem.run_bind, run_newObj, Result.andThen_ok, Sem.run_pure]
    rfl
  · exact h.elim
/-- parts one behind the other -/
theorem brow_sound {rv : Operand → AV} {ρ : Operand → Value} {sz : Nat} : ∀ (ps : List (Nat × Operand)) (i : Nat) (l : List (List AV)) (vs : List Value), (∀ p ∈ ps, Rep s (rv p.2) (ρ p.2)) → brow rv sz i ps = some l → i * sz + l.length * sz = vs.length →
    (∀ x ∈ vs, x.oneCell' = true) → ∃ ws : List Value, Instr.fill (fun i => some (i * sz, sz)) vs.toArray (ps.map fun (i, x) => (i, ρ x)) = some (vs.take (i * sz) ++ ws).toArray ∧ Reps s l.flatten ws ∧ (∀ x ∈ ws, x.oneCell' = true) ∧ (∀ r ∈ l, r.length = sz) ∧ ws.length = l.length * sz
  | [], i, l, vs, _, h, hl, _ => by
    cases h
    refine ⟨[], ?_, Reps.nil s, by simp, by simp, by simp⟩
    simp at hl
    simp [Instr.fill, hl]
  | (j, x) :: ps, i, l, vs, hr, h, hl, h1 => by
    unfold brow at h
    split at h
    · rename_i hij
      subst hij
      split at h
      · rename_i m t hm ht
        split at h
        · rename_i hsz
          cases h
          obtain ⟨ra, ra1⟩ := avc_sound (hr (j, x) (by simp)) hm
          have hcl : (ρ x).cells.toList.length = sz := by rw [ra.1]; exact hsz
          have hcs : (ρ x).cells.size = sz := by simpa using hcl
          simp only [List.length_cons, Nat.add_mul, Nat.one_mul] at hl
          obtain ⟨ws, e, rw_, rw1, hrs, hwl⟩ := brow_sound ps (j + 1) t (vs.take (j * sz) ++ (ρ x).cells.toList ++ vs.drop (j * sz + sz)) (fun p hp => hr p (by simp [hp])) ht (by
            simp [Nat.add_mul]; omega) (fun y hy => by
            simp only [List.append_assoc, List.mem_append] at hy
            rcases hy with hy | hy | hy
            · exact h1 y (List.mem_of_mem_take hy)
            · exact ra1 y hy
            · exact h1 y (List.mem_of_mem_drop hy))
          refine ⟨(ρ x).cells.toList ++ ws, ?_, ?_, fun y hy => ?_, fun r hr' => ?_, by simp [hwl, Nat.add_mul]; omega⟩
          · simp only [List.map_cons, Instr.fill, hcs]
            rw [if_neg (by simp; omega)]
            have hfd := fold_set (j * sz) (ρ x).cells.toList 0 vs.toArray (by simp; omega)
            have hzi : (ρ x).cells.zipIdx.foldl (fun cs (c, k) => cs.setIfInBounds (j * sz + k) c) vs.toArray = ((ρ x).cells.toList.zipIdx 0).foldl (fun cs (c, k) => cs.setIfInBounds (j * sz + k) c) vs.toArray := by
              rw [← Array.foldl_toList]; simp
            rw [hzi, hfd]
            simp only [hcl, Nat.add_zero]
            rw [e]
            congr 2
            rw [Nat.add_mul, Nat.one_mul, List.take_append_of_le_length (by simp; omega), List.take_of_length_le (by simp; omega)]
            simp
          · simp only [List.flatten_cons]
            exact ra.append rw_
          · rcases List.mem_append.1 hy with hy | hy
            · exact ra1 y hy
            · exact rw1 y hy
          · rcases List.mem_cons.1 hr' with rfl | hr'
            · exact hsz
            · exact hrs r hr'
        · cases h
      · cases h
    · cases h
/-- a row in a new block that nobody will write -/
theorem imm_row {l : List (List AV)} {vs : List Value} {es b c : Nat} {e : Bool} (hst : Reps s l.flatten vs) (hes : ∀ r ∈ l, r.length = es) {rest : List Value} {t : Sto} (ht : s.le t) (hb : ∀ o x, (vs ++ rest)[o]? = some x → t b o = some x) (hc : l.length ≤ c) (he : e = true → c = l.length) :
    Rep t (.sl e l) (.slice (some ⟨b, 0, none⟩) l.length c) := by
  have idx : ∀ (l : List (List AV)), (∀ r ∈ l, r.length = es) → ∀ i k r a, l[i]? = some r → r[k]? = some a → l.flatten[i * es + k]? = some a := by
    intro l
    induction l with
    | nil => intro _ i k r a h; simp at h
    | cons q l ih =>
      intro hes i k r a h ha
      have hq := hes q (by simp)
      cases i with
      | zero =>
        simp at h; subst h
        have hk : k < q.length := (List.getElem?_eq_some_iff.1 ha).1
        simp only [List.flatten_cons, Nat.zero_mul, Nat.zero_add]
        rw [List.getElem?_append_left hk]; exact ha
      | succ i =>
        simp only [List.flatten_cons]
        rw [List.getElem?_append_right (by rw [hq, Nat.add_mul]; omega)]
        have e : (i + 1) * es + k - q.length = i * es + k := by rw [hq, Nat.add_mul]; omega
        rw [e]
        exact ih (fun r hr => hes r (by simp [hr])) i k r a (by simpa using h) ha
  refine .sl e l b 0 es c (fun i k => vs.getD (i * es + k) undef) hes (fun i k r hr hk => ?_) (fun i k r a hr ha => ?_) hc he
  · have hkl : k < r.length := by rw [hes r (List.mem_of_getElem? hr)]; exact hk
    have h1 := idx l hes i k r r[k] hr (List.getElem?_eq_getElem hkl)
    obtain ⟨x, hx, _⟩ := hst.get h1
    have := hb (i * es + k) x (by rw [List.getElem?_append_left (List.getElem?_eq_some_iff.1 hx).1]; exact hx)
    rw [Nat.zero_add, this, List.getD_eq_getElem?_getD, hx]; rfl
  · have h1 := idx l hes i k r a hr ha
    obtain ⟨x, hx, hrx⟩ := hst.get h1
    rw [List.getD_eq_getElem?_getD, hx]
    exact hrx.mono ht
theorem ebs_sound {t : TypeId} {len : Nat} {rv : Operand → AV} {ρ : Operand → Value} {ps : Array (Nat × Operand)} {k : AV → Prop} (hst : St w s own H) (hr : ∀ p ∈ ps.toList, Rep s (rv p.2) (ρ p.2)) (h : ebs (tEz P t) (tE P t) len rv ps.toList k) :
    ∃ w' s' x a, (Instr.buildSlice t len (ps.map fun (i, x) => (i, ρ x))).run P w = .ok x w' ∧ St w' s' own H ∧ Ext Wr w s own w' s' own ∧ Rep s' a x ∧ k a ∧ ∀ b, b < w.heap.size → w'.heap[b]? = w.heap[b]? := by
  unfold ebs at h
  split at h
  · rename_i e sz b he
    split at h
    · rename_i l hl
      obtain ⟨⟨h1, h2, hzk⟩, h3⟩ := h
      obtain ⟨z, hz, hzs, hz1⟩ := tEz_spec hzk he
      obtain ⟨i, hu, hi, rfl, rfl, hs⟩ := tE_spec he
      have hzi : i.zero = some z := by simpa [tZ, hi] using hz
      -- the zeros ahead
      obtain ⟨zero, hzr, hzo⟩ : ∃ zero : Array Value, ((len * i.size = 0 → zero = #[]) ∧ (len * i.size ≠ 0 → zero = z.cells)) ∧ ∀ y ∈ ((Array.range (len * i.size)).map (zero[· % zero.size]!)).toList, y.oneCell' = true := by
        by_cases h0 : len * i.size = 0
        · exact ⟨#[], ⟨fun _ => rfl, fun e => absurd h0 e⟩, by simp [h0]⟩
        · refine ⟨z.cells, ⟨fun e => absurd e h0, fun _ => rfl⟩, fun y hy => ?_⟩
          simp only [Array.toList_map, List.mem_map] at hy
          obtain ⟨j, _, rfl⟩ := hy
          have hlt : j % z.cells.size < z.cells.size := Nat.mod_lt _ (by rw [hzs]; exact Nat.pos_of_ne_zero (fun e => h0 (by rw [e]; rfl)))
          rw [getElem!_pos z.cells _ hlt]
          exact hz1 _ (Array.mem_toList_iff.2 (Array.getElem_mem hlt))
      obtain ⟨zs, hzs'⟩ : ∃ zs : List Value, (Array.range (len * i.size)).map (zero[· % zero.size]!) = zs.toArray := ⟨_, Array.toArray_toList.symm⟩
      have hzl : zs.length = len * i.size := by rw [← List.size_toArray, ← hzs']; simp
      rw [hzs'] at hzo
      obtain ⟨ws, ef, rws, rw1, hrs, hwl⟩ := brow_sound ps.toList 0 l zs hr hl (by rw [hzl, h1]; simp) hzo
      simp only [Nat.zero_mul, List.take_zero, List.nil_append] at ef
      obtain ⟨g1, g2⟩ := hst.allocImm (Wr := Wr) e ws rw1
      refine ⟨_, _, _, _, ?_, g1, g2, imm_row (rest := []) (e := true) (c := l.length) rws hrs g2.le (b := w.heap.size) (fun o x hx => by simpa [Sto.put] using hx) (Nat.le_refl _) (fun _ => rfl), h3, fun b hb => alloc_old w _ hb⟩
      have hps : (ps.map fun (i, x) => (i, ρ x)).toList = ps.toList.map fun (i, x) => (i, ρ x) := by simp
      unfold Instr.buildSlice
      simp only [Sem.run_bind, und hu, Result.andThen_ok, run_sizeOf' hs]
      rw [if_neg (by omega)]
      have hzv : (zeroValue e).run P w = .ok z w := by simp [zeroValue, typeInfo, hi, hzi]
      split
      · rename_i h0
        rw [hzr.1 h0] at hzs'
        simp only [Sem.run_bind, Sem.run_pure, Result.andThen_ok, hps, hzs', ef, newRow, run_newObj, h1]
        rfl
      · rename_i h0
        rw [hzr.2 h0] at hzs'
        simp only [Sem.run_bind, Sem.run_pure, Result.andThen_ok, hzv, hps, hzs', ef, newRow, run_newObj, h1]
        rfl
    · exact h.elim
  · exact h.elim
end
end Go.Proofs.YtiallkiiofomgaaGreat
