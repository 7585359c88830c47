/- What SchedBound reads: a script that came in, as an abstract value. -/
import Derived.Test.YtiallkiiofomgaaGreatRows
import Derived.Test.YtiallkiiofomgaaGreatBdC
import Derived.Test.YtiallkiiofomgaaGreatRowW
import Derived.ProofKit
namespace Go.Proofs.YtiallkiiofomgaaGreat
open Go.RowKit Go.Deep Go.ChangeShapes Go.WideShapes
set_option maxRecDepth 100000
theorem bulkOne {H : Type} (d : DataW H) : 1 ≤ Rows.uptoBulk d := by
  cases d with
  | lit l => cases l <;> simp [Rows.uptoBulk]
  | _ => simp [Rows.uptoBulk]
theorem bulkLen {H : Type} (l : List (DataW H)) : l.length ≤ Rows.uptoBulkAll l := by
  induction l with
  | nil => simp [Rows.uptoBulkAll]
  | cons x r ih => have := bulkOne x; simp only [Rows.uptoBulkAll, List.length_cons]; omega
theorem bulkSum {H : Type} (D : Nat → DataW H) (f : Nat → Int) : ∀ l : List Nat, (∀ i ∈ l, f i + 1 ≤ Rows.uptoBulk (D i)) → (l.map f).sum ≤ Rows.uptoBulkAll (l.map D)
  | [], _ => by simp [Rows.uptoBulkAll]
  | a :: l, h => by
    have h1 := h a (List.mem_cons_self ..)
    have h2 := bulkSum D f l fun i m => h i (List.mem_cons_of_mem _ m)
    simp only [List.map_cons, List.sum_cons, Rows.uptoBulkAll]
    omega
theorem c3 : Tryz.prog.cellsOf 3 = 1 := by kernel_rfl
theorem c5 : Tryz.prog.cellsOf 5 = 1 := by kernel_rfl
theorem c23 : Tryz.prog.cellsOf 23 = 5 := by kernel_rfl
theorem c24 : Tryz.prog.cellsOf 24 = 1 := by kernel_rfl
theorem c25 : Tryz.prog.cellsOf 25 = 1 := by kernel_rfl
theorem c26 : Tryz.prog.cellsOf 26 = 1 := by kernel_rfl
theorem c28 : Tryz.prog.cellsOf 28 = 8 := by kernel_rfl
theorem c33 : Tryz.prog.cellsOf 33 = 1 := by kernel_rfl
theorem c34 : Tryz.prog.cellsOf 34 = 1 := by kernel_rfl
theorem c36 : Tryz.prog.cellsOf 36 = 7 := by kernel_rfl
section
variable {H : Type} {enc : TypeId × Value → H} {w : World} {base : Nat} {sp : Nat → Bool} {hd : Bool}
theorem op_open {n : Nat} {cs : List Value} {x : DataW H × List MemPlace} (h : DataW.trod enc Tryz.prog w base sp hd n 36 cs = some x) :
    cs.length = 7 ∧ (∀ v ∈ cs, v.oneCell' = true) ∧ ∃ (tk : List (List AV)) (v5 : Value), cs[5]? = some v5 ∧ (∀ s, Rep s (.sl false tk) v5) ∧ (tk.length : Int) + 1 ≤ Rows.uptoBulk x.1 := by
  obtain ⟨xs, m, rfl, rfl, hl, hxl, hf⟩ := DataW.trod_struct Tryz.underlying36 h
  rw [c36] at hl
  have h0 : DataW.trod enc Tryz.prog w base sp hd m 33 ((cs.drop 0).take (Tryz.prog.cellsOf 33)) = xs[0]? := hf 0 _ rfl
  have h1 : DataW.trod enc Tryz.prog w base sp hd m 34 ((cs.drop 1).take (Tryz.prog.cellsOf 34)) = xs[1]? := hf 1 _ rfl
  have h2 : DataW.trod enc Tryz.prog w base sp hd m 34 ((cs.drop 2).take (Tryz.prog.cellsOf 34)) = xs[2]? := hf 2 _ rfl
  have h3 : DataW.trod enc Tryz.prog w base sp hd m 34 ((cs.drop 3).take (Tryz.prog.cellsOf 34)) = xs[3]? := hf 3 _ rfl
  have h4 : DataW.trod enc Tryz.prog w base sp hd m 3 ((cs.drop 4).take (Tryz.prog.cellsOf 3)) = xs[4]? := hf 4 _ rfl
  have h5 : DataW.trod enc Tryz.prog w base sp hd m 26 ((cs.drop 5).take (Tryz.prog.cellsOf 26)) = xs[5]? := hf 5 _ rfl
  have h6 : DataW.trod enc Tryz.prog w base sp hd m 3 ((cs.drop 6).take (Tryz.prog.cellsOf 3)) = xs[6]? := hf 6 _ rfl
  rw [c33] at h0
  rw [c34] at h1 h2 h3
  rw [c3] at h4 h6
  rw [c26] at h5
  match cs, hl with
  | [k0, k1, k2, k3, k4, k5, k6], _ =>
    match xs, hxl with
    | [x0, x1, x2, x3, x4, x5, x6], _ =>
      simp at h0 h1 h2 h3 h4 h5 h6
      obtain ⟨n0, e0, _⟩ := DataW.trod_int Tryz.underlying33 h0
      obtain ⟨a1, l1, p1, _, _, e1, _⟩ := slice_free Tryz.underlying34 (by rw [c5]; decide) h1
      obtain ⟨a2, l2, p2, _, _, e2, _⟩ := slice_free Tryz.underlying34 (by rw [c5]; decide) h2
      obtain ⟨a3, l3, p3, _, _, e3, _⟩ := slice_free Tryz.underlying34 (by rw [c5]; decide) h3
      obtain ⟨n4, e4, _⟩ := DataW.trod_int Tryz.underlying3 h4
      obtain ⟨a5, l5, p5, D, E, e5, hr, hb⟩ := slice_free Tryz.underlying26 (by rw [c3]; decide) h5
      obtain ⟨n6, e6, _⟩ := DataW.trod_int Tryz.underlying3 h6
      simp at e0 e1 e2 e3 e4 e5 e6
      subst e0 e1 e2 e3 e4 e5 e6
      refine ⟨rfl, by simp [Value.oneCell'], List.replicate l5 [], _, rfl, hr, ?_⟩
      simp only [List.map_cons, List.map_nil, Rows.uptoBulk, Rows.uptoBulkAll, List.length_replicate]
      have q5 := bulkOne x5.1
      rcases hb with rfl | ⟨hb, hb2⟩
      · omega
      · have := bulkLen D
        rw [hb]
        simp only [Rows.uptoBulk]
        omega
theorem client_open {n : Nat} {v : Value} {x : DataW H × List MemPlace} (h : DataW.trod enc Tryz.prog w base sp hd n 24 [v] = some x) :
    v.oneCell' = true ∧ ∃ c : Cl, Rep (stoOf w) (.sl false (c.map OpA.row)) v ∧ tC c + 1 ≤ Rows.uptoBulk x.1 := by
  rcases open_slice Tryz.underlying24 h with ⟨e, rfl⟩ | ⟨a, len, cap, m, n', D, Pl, e, hb, hl, hm, hmm, rfl, hx⟩
  · simp at e
    subst e
    exact ⟨rfl, [], .nil false none 0 (fun _ => rfl) (fun _ => rfl), by simp [tC, Rows.uptoBulk]⟩
  · simp at e
    subst e
    have hlm : len ≤ m := by rw [hmm]; split <;> omega
    rw [c36] at hx
    obtain ⟨C, hC⟩ := choose_lt (α := List Value) (p := fun i c => w.cells? base (a.add (i * 7)) 7 = some c ∧ DataW.trod enc Tryz.prog w base sp hd n' 36 c = some (D i, Pl i)) (fun i (hi : i < len) => hx i (by omega))
    obtain ⟨T, hT⟩ := choose_lt (α := List (List AV)) (p := fun i tk => ∃ v5 : Value, (C i)[5]? = some v5 ∧ (∀ s, Rep s (.sl false tk) v5) ∧ (tk.length : Int) + 1 ≤ Rows.uptoBulk (D i)) (fun i (hi : i < len) => (op_open (hC i hi).2).2.2)
    have hr := rows_rep (w := w) (a := a) (len := len) (cap := cap) (es := 7) (by omega) hl C (fun i => [.any, .any, .any, .any, .any, .sl false (T i), .any]) (fun i hi => by
      obtain ⟨h7, h1c, _⟩ := op_open (hC i hi).2
      refine ⟨h7, rfl, fun k hk => ?_, h1c, fun k x v hx hv => ?_⟩
      · have := (World.cells?_some (hC i hi).1).2.2 k hk
        rwa [add_add] at this
      · by_cases h5 : k = 5
        · subst h5
          obtain ⟨v5, h5, h6, _⟩ := hT i hi
          rw [h5] at hv
          cases hv
          simp at hx
          subst hx
          exact h6 _
        · have : x = .any := by
            match k, hx, h5 with
            | 0, hx, _ => simpa using hx.symm
            | 1, hx, _ => simpa using hx.symm
            | 2, hx, _ => simpa using hx.symm
            | 3, hx, _ => simpa using hx.symm
            | 4, hx, _ => simpa using hx.symm
            | 6, hx, _ => simpa using hx.symm
            | k + 7, hx, _ => simp at hx
          subst this
          exact .any _)
    refine ⟨rfl, (List.range len).map fun i => ⟨.any, .any, .any, .any, .any, T i, .any⟩, ?_, ?_⟩
    · rw [List.map_map]
      exact hr
    · have := bulkSum D (fun i => ((T i).length : Int)) (List.range len) fun i hi => by
        obtain ⟨_, _, _, h⟩ := hT i (List.mem_range.1 hi)
        exact h
      simp only [tC, List.map_map, Rows.uptoBulk]
      have e : ((fun o : OpA => (o.tk.length : Int)) ∘ fun i => (⟨.any, .any, .any, .any, .any, T i, .any⟩ : OpA)) = fun i => ((T i).length : Int) := rfl
      rw [e]
      omega
theorem clients_open {n : Nat} {v : Value} {x : DataW H × List MemPlace} (h : DataW.trod enc Tryz.prog w base sp hd n 25 [v] = some x) :
    v.oneCell' = true ∧ ∃ cl : List Cl, Rep (stoOf w) (.sl false (cl.map clRow)) v ∧ (cl.length : Int) ≤ Rows.uptoBulk x.1 ∧ tkS cl ≤ Rows.uptoBulk x.1 := by
  rcases open_slice1 Tryz.underlying25 c24 h with ⟨e, rfl⟩ | ⟨a, len, cap, m, n', V, D, Pl, e, hb, hl, hm, hmm, rfl, hx⟩
  · simp at e
    subst e
    exact ⟨rfl, [], .nil false none 0 (fun _ => rfl) (fun _ => rfl), by simp, by simp [tkS]⟩
  · simp at e
    subst e
    have hlm : len ≤ m := by rw [hmm]; split <;> omega
    obtain ⟨C, hC⟩ := choose_lt (α := Cl) (p := fun i c => Rep (stoOf w) (.sl false (c.map OpA.row)) (V i) ∧ tC c + 1 ≤ Rows.uptoBulk (D i)) (fun i (hi : i < len) => (client_open (hx i (by omega)).2).2)
    have hr := rows_rep (w := w) (a := a) (len := len) (cap := cap) (es := 1) (by omega) hl (fun i => [V i]) (fun i => clRow (C i)) (fun i hi => by
      refine ⟨rfl, rfl, fun k hk => ?_, fun v hv => ?_, fun k x v hx hv => ?_⟩
      · obtain rfl : k = 0 := by omega
        rw [Nat.mul_one]
        exact (hx i (by omega)).1
      · simp at hv
        subst hv
        exact (client_open (hx i (by omega)).2).1
      · cases k with
        | zero =>
          simp [clRow] at hx hv
          subst hx hv
          exact (hC i hi).1
        | succ k => simp at hv)
    refine ⟨rfl, (List.range len).map C, ?_, ?_, ?_⟩
    · rw [List.map_map]
      exact hr
    · have := bulkLen ((List.range len).map D)
      simp at this
      simp only [List.length_map, List.length_range, Rows.uptoBulk]
      omega
    · have := bulkSum D (fun i => tC (C i)) (List.range len) fun i hi => (hC i (List.mem_range.1 hi)).2
      simp only [tkS, List.map_map, Rows.uptoBulk]
      have e : (tC ∘ C) = fun i => tC (C i) := rfl
      rw [e]
      omega
theorem script_open {n : Nat} {cs : List Value} {x : DataW H × List MemPlace} (h : DataW.trod enc Tryz.prog w base sp hd n 28 cs = some x) :
    ∃ s : ScA, Rep (stoOf w) (.agg s.cells) (.agg cs.toArray) ∧ (s.cl.length : Int) ≤ Rows.uptoBulk x.1 ∧ tkS s.cl ≤ Rows.uptoBulk x.1 := by
  obtain ⟨xs, m, rfl, rfl, hl, hxl, hf⟩ := DataW.trod_struct Tryz.underlying28 h
  rw [c28] at hl
  have h0 : DataW.trod enc Tryz.prog w base sp hd m 23 ((cs.drop 0).take (Tryz.prog.cellsOf 23)) = xs[0]? := hf 0 _ rfl
  have h1 : DataW.trod enc Tryz.prog w base sp hd m 24 ((cs.drop 5).take (Tryz.prog.cellsOf 24)) = xs[1]? := hf 1 _ rfl
  have h2 : DataW.trod enc Tryz.prog w base sp hd m 25 ((cs.drop 6).take (Tryz.prog.cellsOf 25)) = xs[2]? := hf 2 _ rfl
  have h3 : DataW.trod enc Tryz.prog w base sp hd m 26 ((cs.drop 7).take (Tryz.prog.cellsOf 26)) = xs[3]? := hf 3 _ rfl
  rw [c23] at h0
  rw [c24] at h1
  rw [c25] at h2
  rw [c26] at h3
  match cs, hl with
  | [k0, k1, k2, k3, k4, k5, k6, k7], _ =>
    match xs, hxl with
    | [x0, x1, x2, x3], _ =>
      simp at h0 h1 h2 h3
      obtain ⟨ys, m', rfl, rfl, hyl, hyxl, hg⟩ := DataW.trod_struct Tryz.underlying23 h0
      have g0 : DataW.trod enc Tryz.prog w base sp hd m' 3 (([k0, k1, k2, k3, k4].drop 0).take (Tryz.prog.cellsOf 3)) = ys[0]? := hg 0 _ rfl
      have g1 : DataW.trod enc Tryz.prog w base sp hd m' 3 (([k0, k1, k2, k3, k4].drop 1).take (Tryz.prog.cellsOf 3)) = ys[1]? := hg 1 _ rfl
      have g2 : DataW.trod enc Tryz.prog w base sp hd m' 3 (([k0, k1, k2, k3, k4].drop 2).take (Tryz.prog.cellsOf 3)) = ys[2]? := hg 2 _ rfl
      have g3 : DataW.trod enc Tryz.prog w base sp hd m' 3 (([k0, k1, k2, k3, k4].drop 3).take (Tryz.prog.cellsOf 3)) = ys[3]? := hg 3 _ rfl
      have g4 : DataW.trod enc Tryz.prog w base sp hd m' 3 (([k0, k1, k2, k3, k4].drop 4).take (Tryz.prog.cellsOf 3)) = ys[4]? := hg 4 _ rfl
      rw [c3] at g0 g1 g2 g3 g4
      match ys, hyxl with
      | [y0, y1, y2, y3, y4], _ =>
        simp at g0 g1 g2 g3 g4
        obtain ⟨n0, e0, _⟩ := DataW.trod_int Tryz.underlying3 g0
        obtain ⟨n1, e1, _⟩ := DataW.trod_int Tryz.underlying3 g1
        obtain ⟨n2, e2, _⟩ := DataW.trod_int Tryz.underlying3 g2
        obtain ⟨n3, e3, _⟩ := DataW.trod_int Tryz.underlying3 g3
        obtain ⟨n4, e4, _⟩ := DataW.trod_int Tryz.underlying3 g4
        obtain ⟨a5, l5, p5, _, _, e5, hr5, _⟩ := slice_free Tryz.underlying24 (by rw [c36]; decide) h1
        obtain ⟨o6, cl, hr6, hb1, hb2⟩ := clients_open h2
        obtain ⟨a7, l7, p7, _, _, e7, _⟩ := slice_free Tryz.underlying26 (by rw [c3]; decide) h3
        simp at e0 e1 e2 e3 e4 e5 e7
        subst e0 e1 e2 e3 e4 e5 e7
        refine ⟨⟨n0, n1, n2, n3, n4, List.replicate l5 [], cl, .any⟩, ?_, ?_, ?_⟩
        · refine .agg _ _ rfl (by intro x hx; simp only [List.mem_cons, List.not_mem_nil, or_false] at hx; rcases hx with rfl | rfl | rfl | rfl | rfl | rfl | rfl | rfl <;> first | rfl | exact o6) fun i a x ha hx => ?_
          match i, ha, hx with
          | 0, ha, hx => simp at ha hx; subst ha hx; exact .v _
          | 1, ha, hx => simp at ha hx; subst ha hx; exact .v _
          | 2, ha, hx => simp at ha hx; subst ha hx; exact .v _
          | 3, ha, hx => simp at ha hx; subst ha hx; exact .v _
          | 4, ha, hx => simp at ha hx; subst ha hx; exact .v _
          | 5, ha, hx => simp at ha hx; subst ha hx; exact hr5 _
          | 6, ha, hx => simp at ha hx; subst ha hx; exact hr6
          | 7, ha, hx => simp at ha hx; subst ha hx; exact .any _
          | i + 8, ha, hx => simp at ha
        · simp only [List.map_cons, List.map_nil, Rows.uptoBulk, Rows.uptoBulkAll]
          omega
        · simp only [List.map_cons, List.map_nil, Rows.uptoBulk, Rows.uptoBulkAll]
          omega
end
end Go.Proofs.YtiallkiiofomgaaGreat
