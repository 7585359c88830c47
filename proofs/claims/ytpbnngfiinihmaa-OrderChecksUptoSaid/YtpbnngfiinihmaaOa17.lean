/- Calls that come in, opened to cells; what the bound says of them. A struct of six one-cell fields by value, opened field by field (a block of the guide's page, copied as it says). -/
import Derived.Test.YtpbnngfiinihmaaOa16
import Derived.Test.YtpbnngfiinihmaaOa04
import Derived.Lib.SmallJoins
import Derived.Deep.Fields
import Derived.RowKit
import Derived.WideShapes
set_option linter.unusedVariables false
set_option linter.unusedSimpArgs false
namespace Go.Proofs.Ytpbnngfiinihmaa
open Go.ChangeShapes Go.WideShapes Go.Deep Go.RowKit
theorem list17 {α : Type} {l : List α} (h : l.length = 17) : ∃ a b c d e f g i j k m n o p q r s, l = [a, b, c, d, e, f, g, i, j, k, m, n, o, p, q, r, s] := by
  match l, h with
  | [a, b, c, d, e, f, g, i, j, k, m, n, o, p, q, r, s], _ => exact ⟨a, b, c, d, e, f, g, i, j, k, m, n, o, p, q, r, s, rfl⟩
theorem list11 {α : Type} {l : List α} (h : l.length = 11) : ∃ a b c d e f g i j k m, l = [a, b, c, d, e, f, g, i, j, k, m] := by
  match l, h with
  | [a, b, c, d, e, f, g, i, j, k, m], _ => exact ⟨a, b, c, d, e, f, g, i, j, k, m, rfl⟩
theorem list7 {α : Type} {l : List α} (h : l.length = 7) : ∃ a b c d e f g, l = [a, b, c, d, e, f, g] := by
  match l, h with
  | [a, b, c, d, e, f, g], _ => exact ⟨a, b, c, d, e, f, g, rfl⟩
section
variable {H : Type} {enc : TypeId × Value → H} {w : World} {base : Nat} {held : Bool}
theorem int_of_trod {t : TypeId} (ht : Try.prog.underlying t = some (.int .i64)) {fuel : Nat} {v : Value} {y : DataW H × List MemPlace} (h : DataW.trod enc Try.prog w base (fun _ => true) held fuel t [v] = some y) : ∃ z, v = .int .i64 z := by
  obtain ⟨z, hz, _⟩ := DataW.trod_int ht h
  exact ⟨z, by simpa using hz⟩
theorem bool_of_trod {fuel : Nat} {v : Value} {y : DataW H × List MemPlace} (h : DataW.trod enc Try.prog w base (fun _ => true) held fuel 4 [v] = some y) : ∃ z, v = .bool z := by
  obtain ⟨z, hz, _⟩ := DataW.trod_bool Try.underlying4 h
  exact ⟨z, by simpa using hz⟩
theorem slice_of_trod {t e : TypeId} (ht : Try.prog.underlying t = some (.slice e)) {fuel : Nat} {v : Value} {y : DataW H × List MemPlace} (h : DataW.trod enc Try.prog w base (fun _ => true) held fuel t [v] = some y) : ∃ A n c, v = .slice A n c := by
  rcases open_slice ht h with ⟨hcs, _⟩ | ⟨a, len, cap, m, k, D, Pl, hcs, _⟩
  · exact ⟨_, _, _, by simpa using hcs⟩
  · exact ⟨_, _, _, by simpa using hcs⟩
theorem call_of_trod {fuel : Nat} {cs : List Value} {y : DataW H × List MemPlace} (h : DataW.trod enc Try.prog w base (fun _ => true) held fuel 48 cs = some y) :
    ∃ c x, cs = (callCs c x).toList ∧ CallW w (fun _ => True) c x ∧ c.key.length ≤ Rows.uptoBulk y.1 := by
  obtain ⟨ys, n, _, hy, hl, hyl, hf⟩ := DataW.trod_struct Try.underlying48 h
  rw [show Try.prog.cellsOf 48 = 17 from by kernel_rfl] at hl
  obtain ⟨c0, c1, c2, c3, c4, c5, c6, c7, c8, c9, c10, c11, c12, c13, c14, c15, c16, rfl⟩ := list17 hl
  obtain ⟨y0, y1, y2, y3, y4, y5, y6, y7, y8, y9, y10, rfl⟩ := list11 hyl
  have t0 : DataW.trod enc Try.prog w base (fun _ => true) held n 3 (List.take (Try.prog.cellsOf 3) [c0, c1, c2, c3, c4, c5, c6, c7, c8, c9, c10, c11, c12, c13, c14, c15, c16]) = some y0 := hf 0 _ rfl
  have t1 : DataW.trod enc Try.prog w base (fun _ => true) held n 3 (List.take (Try.prog.cellsOf 3) [c1, c2, c3, c4, c5, c6, c7, c8, c9, c10, c11, c12, c13, c14, c15, c16]) = some y1 := hf 1 _ rfl
  have t2 : DataW.trod enc Try.prog w base (fun _ => true) held n 46 (List.take (Try.prog.cellsOf 46) [c2, c3, c4, c5, c6, c7, c8, c9, c10, c11, c12, c13, c14, c15, c16]) = some y2 := hf 2 _ rfl
  have t3 : DataW.trod enc Try.prog w base (fun _ => true) held n 3 (List.take (Try.prog.cellsOf 3) [c9, c10, c11, c12, c13, c14, c15, c16]) = some y3 := hf 3 _ rfl
  have t4 : DataW.trod enc Try.prog w base (fun _ => true) held n 3 (List.take (Try.prog.cellsOf 3) [c10, c11, c12, c13, c14, c15, c16]) = some y4 := hf 4 _ rfl
  have t5 : DataW.trod enc Try.prog w base (fun _ => true) held n 3 (List.take (Try.prog.cellsOf 3) [c11, c12, c13, c14, c15, c16]) = some y5 := hf 5 _ rfl
  have t6 : DataW.trod enc Try.prog w base (fun _ => true) held n 4 (List.take (Try.prog.cellsOf 4) [c12, c13, c14, c15, c16]) = some y6 := hf 6 _ rfl
  have t7 : DataW.trod enc Try.prog w base (fun _ => true) held n 30 (List.take (Try.prog.cellsOf 30) [c13, c14, c15, c16]) = some y7 := hf 7 _ rfl
  have t8 : DataW.trod enc Try.prog w base (fun _ => true) held n 4 (List.take (Try.prog.cellsOf 4) [c14, c15, c16]) = some y8 := hf 8 _ rfl
  have t9 : DataW.trod enc Try.prog w base (fun _ => true) held n 36 (List.take (Try.prog.cellsOf 36) [c15, c16]) = some y9 := hf 9 _ rfl
  have t10 : DataW.trod enc Try.prog w base (fun _ => true) held n 27 (List.take (Try.prog.cellsOf 27) [c16]) = some y10 := hf 10 _ rfl
  rw [show Try.prog.cellsOf 3 = 1 from by kernel_rfl] at t0 t1 t3 t4 t5
  rw [show Try.prog.cellsOf 4 = 1 from by kernel_rfl] at t6 t8
  rw [show Try.prog.cellsOf 30 = 1 from by kernel_rfl] at t7
  rw [show Try.prog.cellsOf 36 = 1 from by kernel_rfl] at t9
  rw [show Try.prog.cellsOf 27 = 1 from by kernel_rfl] at t10
  rw [show Try.prog.cellsOf 46 = 7 from by kernel_rfl] at t2
  obtain ⟨cl, rfl⟩ := int_of_trod Try.underlying3 t0
  obtain ⟨nu, rfl⟩ := int_of_trod Try.underlying3 t1
  obtain ⟨fst, rfl⟩ := int_of_trod Try.underlying3 t3
  obtain ⟨lst, rfl⟩ := int_of_trod Try.underlying3 t4
  obtain ⟨pt, rfl⟩ := int_of_trod Try.underlying3 t5
  obtain ⟨dn, rfl⟩ := bool_of_trod t6
  obtain ⟨er, rfl⟩ := int_of_trod Try.underlying30 t7
  obtain ⟨th, rfl⟩ := bool_of_trod t8
  obtain ⟨s9, b9⟩ := sb_of_trod (show DataW.trod enc Try.prog w base (fun _ => true) held n 36 [c15] = some y9 from t9)
  obtain ⟨eA, en, ec, rfl⟩ := slice_of_trod Try.underlying27 t10
  obtain ⟨zs, m, _, hz, _, hzl, hg⟩ := DataW.trod_struct Try.underlying46 t2
  obtain ⟨z0, z1, z2, z3, z4, z5, z6, rfl⟩ := list7 hzl
  have u0 : DataW.trod enc Try.prog w base (fun _ => true) held m 44 (List.take (Try.prog.cellsOf 44) [c2, c3, c4, c5, c6, c7, c8]) = some z0 := hg 0 _ rfl
  have u1 : DataW.trod enc Try.prog w base (fun _ => true) held m 36 (List.take (Try.prog.cellsOf 36) [c3, c4, c5, c6, c7, c8]) = some z1 := hg 1 _ rfl
  have u2 : DataW.trod enc Try.prog w base (fun _ => true) held m 36 (List.take (Try.prog.cellsOf 36) [c4, c5, c6, c7, c8]) = some z2 := hg 2 _ rfl
  have u3 : DataW.trod enc Try.prog w base (fun _ => true) held m 36 (List.take (Try.prog.cellsOf 36) [c5, c6, c7, c8]) = some z3 := hg 3 _ rfl
  have u4 : DataW.trod enc Try.prog w base (fun _ => true) held m 3 (List.take (Try.prog.cellsOf 3) [c6, c7, c8]) = some z4 := hg 4 _ rfl
  have u5 : DataW.trod enc Try.prog w base (fun _ => true) held m 24 (List.take (Try.prog.cellsOf 24) [c7, c8]) = some z5 := hg 5 _ rfl
  have u6 : DataW.trod enc Try.prog w base (fun _ => true) held m 3 (List.take (Try.prog.cellsOf 3) [c8]) = some z6 := hg 6 _ rfl
  rw [show Try.prog.cellsOf 44 = 1 from by kernel_rfl] at u0
  rw [show Try.prog.cellsOf 36 = 1 from by kernel_rfl] at u1 u2 u3
  rw [show Try.prog.cellsOf 3 = 1 from by kernel_rfl] at u4 u6
  rw [show Try.prog.cellsOf 24 = 1 from by kernel_rfl] at u5
  obtain ⟨kd, rfl⟩ := int_of_trod Try.underlying44 u0
  obtain ⟨s1, b1⟩ := sb_of_trod (show DataW.trod enc Try.prog w base (fun _ => true) held m 36 [c3] = some z1 from u1)
  obtain ⟨s2, b2⟩ := sb_of_trod (show DataW.trod enc Try.prog w base (fun _ => true) held m 36 [c4] = some z2 from u2)
  obtain ⟨hA, hn, hc, rfl⟩ := slice_of_trod Try.underlying36 (show DataW.trod enc Try.prog w base (fun _ => true) held m 36 [c5] = some z3 from u3)
  obtain ⟨mo, rfl⟩ := int_of_trod Try.underlying3 u4
  obtain ⟨tA, tn, tc, rfl⟩ := slice_of_trod Try.underlying24 (show DataW.trod enc Try.prog w base (fun _ => true) held m 24 [c7] = some z5 from u5)
  obtain ⟨fa, rfl⟩ := int_of_trod Try.underlying3 u6
  obtain ⟨kA, kn, kc, rfl, k1, k2, k3, k4⟩ := s1
  obtain ⟨vA, vn, vc, rfl, v1, v2, v3, v4⟩ := s2
  obtain ⟨aA, an, ac, rfl, a1, a2, a3, a4⟩ := s9
  refine ⟨⟨cl, kd, _, _, fst, lst, pt, dn, er, th, _⟩, ⟨nu, mo, fa, kA, kn, kc, vA, vn, vc, hA, hn, hc, tA, tn, tc, aA, an, ac, eA, en, ec⟩, rfl, ⟨k1, k2, k3, k4, v1, v2, v3, v4, a1, a2, a3, a4⟩, ?_⟩
  rw [hz] at hy
  subst hy
  show (readBytes w (.slice kA kn kc)).length ≤ _
  simp only [List.map, Rows.uptoBulk, Rows.uptoBulkAll]
  omega
theorem calls_of_trod {fuel : Nat} {A : Option Addr} {n c : Nat} {x : DataW H × List MemPlace} (h : DataW.trod enc Try.prog w base (fun _ => true) held fuel 22 [.slice A n c] = some x) (hb : Rows.uptoBulk x.1 ≤ 1048576) :
    ∃ l : List CallD, CallsM w (fun _ => True) A n l ∧ n ≤ c ∧ n ≤ 1048576 ∧ ∀ e ∈ l, e.key.length ≤ 1048576 := by
  rcases open_slice Try.underlying22 h with ⟨hcs, rfl⟩ | ⟨a, len, cap, m, k, D, Pl, hcs, _, hl, hm, hmm, rfl, hel⟩
  · simp only [List.cons.injEq, Value.slice.injEq, and_true] at hcs
    obtain ⟨rfl, rfl, rfl⟩ := hcs
    exact ⟨[], CallsM.nil _ _ _, Nat.le_refl _, by omega, by simp⟩
  · simp only [List.cons.injEq, Value.slice.injEq, and_true] at hcs
    obtain ⟨rfl, rfl, rfl⟩ := hcs
    rw [show Try.prog.cellsOf 48 = 17 from by kernel_rfl] at hel
    have hmn : n ≤ m := by rw [hmm]; split <;> omega
    have hb : Rows.uptoBulk (.slice ((List.range n).map D) ((List.range (m - n)).map fun j => D (n + j))) ≤ 1048576 := hb
    have hbs := bulk_slice ((List.range n).map D) ((List.range (m - n)).map fun j => D (n + j))
    have hlen := bulk_len ((List.range n).map D)
    rw [List.length_map, List.length_range] at hlen
    have hn : n ≤ 1048576 := by omega
    have hone : ∀ i : Nat, ∃ p : CallD × CallX, i < n → CallW w (fun _ => True) p.1 p.2 ∧ (∀ j v, (callCs p.1 p.2)[j]? = some v → w.cell? (a.add (i * 17 + j)) = some v) ∧ p.1.key.length ≤ 1048576 := by
      intro i
      by_cases hi : i < n
      · obtain ⟨cs', hc, ht⟩ := hel i (by omega)
        obtain ⟨c0, x0, rfl, hw, hk⟩ := call_of_trod ht
        have hDi : Rows.uptoBulk (D i) ≤ 1048576 := by
          have := bulk_part (d := D i) (l := (List.range n).map D) (List.mem_map.2 ⟨i, by simpa using hi, rfl⟩)
          omega
        obtain ⟨_, _, hat⟩ := World.cells?_some hc
        refine ⟨(c0, x0), fun _ => ⟨hw, fun j v hj => ?_, Nat.le_trans hk hDi⟩⟩
        have hj17 : j < 17 := by have := (Array.getElem?_eq_some_iff.1 hj).1; simpa using this
        have := hat (i := j) hj17
        rw [← Go.Deep.add_add, this]
        simpa using hj
      · exact ⟨(⟨0, 0, [], [], 0, 0, 0, false, 0, false, []⟩, ⟨0, 0, 0, none, 0, 0, none, 0, 0, none, 0, 0, none, 0, 0, none, 0, 0, none, 0, 0⟩), fun h => absurd h hi⟩
    obtain ⟨f, hf⟩ := Classical.axiomOfChoice hone
    refine ⟨(List.range n).map (fun i => (f i).1), ⟨(by show n = _; simp), fun i => (f i).2, fun i e he => ?_⟩, hl, hn, fun e he => ?_⟩
    · have hi : i < n := by have := (List.getElem?_eq_some_iff.1 he).1; simpa using this
      rw [List.getElem?_map, List.getElem?_range hi] at he
      have he : (f i).1 = e := by simpa using he
      subst he
      obtain ⟨hw, hc, _⟩ := hf i hi
      have hsp : a = ⟨a.block, a.off, none⟩ := cell_bt ((hf 0 (by omega)).2.1 0 _ rfl)
      have hcell : ∀ j v, (callCs (f i).1 (f i).2)[j]? = some v → w.cell? ⟨a.block, a.off + (i * 17 + j), none⟩ = some v := fun j v hj => by
        have := hc j v hj
        rw [hsp, add_eq] at this
        exact this
      refine ⟨hw, a.block, a.off, by rw [← hsp], trivial, ?_⟩
      simp only [← Nat.add_assoc] at hcell
      exact ⟨hcell 0 _ rfl, hcell 1 _ rfl, hcell 2 _ rfl, hcell 3 _ rfl, hcell 4 _ rfl, hcell 5 _ rfl, hcell 6 _ rfl, hcell 7 _ rfl, hcell 8 _ rfl, hcell 9 _ rfl, hcell 10 _ rfl, hcell 11 _ rfl, hcell 12 _ rfl, hcell 13 _ rfl, hcell 14 _ rfl, hcell 15 _ rfl, hcell 16 _ rfl⟩
    · obtain ⟨i, hi, rfl⟩ := List.mem_map.1 he
      exact (hf i (by simpa using hi)).2.2
end
end Go.Proofs.Ytpbnngfiinihmaa

namespace Go.Proofs.Ytpbnngfiinihmaa
open Go.Joins Go.ChangeShapes Go.WideShapes Go.RowKit Go.Deep
section
variable {H : Type} {enc : TypeId × Value → H} {P : Program} {w : World} {base : Nat} {spare : Nat → Bool} {held : Bool}
theorem open_agg6 {r : Reach} {b0 : Nat} {t : TypeId} {f0 f1 f2 f3 f4 f5 : Field} {v : Value} {d : DataW H} {p : List MemPlace} (hs : P.underlying t = some (.struct #[f0, f1, f2, f3, f4, f5])) (hone : oneCellFields P #[f0, f1, f2, f3, f4, f5] = true) (hC : P.cellsOf t = 6)
    (hv : Value.okWide P w r b0 t v) (h : DataW.Trod enc P w base spare held t v d p) :
    ∃ (v0 v1 v2 v3 v4 v5 : Value) (y0 y1 y2 y3 y4 y5 : DataW H × List MemPlace) (n : Nat), v = .agg #[v0, v1, v2, v3, v4, v5] ∧ d = .agg [y0.1, y1.1, y2.1, y3.1, y4.1, y5.1] ∧ p = y0.2 ++ (y1.2 ++ (y2.2 ++ (y3.2 ++ (y4.2 ++ y5.2)))) ∧
      DataW.trod enc P w base spare held n f0.type [v0] = some y0 ∧ DataW.trod enc P w base spare held n f1.type [v1] = some y1 ∧ DataW.trod enc P w base spare held n f2.type [v2] = some y2 ∧ DataW.trod enc P w base spare held n f3.type [v3] = some y3 ∧ DataW.trod enc P w base spare held n f4.type [v4] = some y4 ∧ DataW.trod enc P w base spare held n f5.type [v5] = some y5 := by
  obtain ⟨cs, rfl, hsz⟩ := okWide_struct hs hv
  obtain ⟨l⟩ := cs
  match l, hsz.trans hC with
  | [c0, c1, c2, c3, c4, c5], _ =>
    obtain ⟨fuel, hf⟩ := h
    obtain ⟨xs, n, _, hx, _, hlen, hg⟩ := DataW.trod_struct hs hf
    obtain ⟨o0, k0⟩ := hone_of hone 0 f0 rfl
    obtain ⟨o1, k1⟩ := hone_of hone 1 f1 rfl
    obtain ⟨o2, k2⟩ := hone_of hone 2 f2 rfl
    obtain ⟨o3, k3⟩ := hone_of hone 3 f3 rfl
    obtain ⟨o4, k4⟩ := hone_of hone 4 f4 rfl
    obtain ⟨o5, k5⟩ := hone_of hone 5 f5 rfl
    match xs, hlen with
    | [y0, y1, y2, y3, y4, y5], _ =>
      simp only [Prod.mk.injEq] at hx
      exact ⟨c0, c1, c2, c3, c4, c5, y0, y1, y2, y3, y4, y5, n, rfl, by simpa using hx.1, by simpa using hx.2, by simpa [Value.cells, o0, k0] using hg 0 f0 rfl, by simpa [Value.cells, o1, k1] using hg 1 f1 rfl, by simpa [Value.cells, o2, k2] using hg 2 f2 rfl, by simpa [Value.cells, o3, k3] using hg 3 f3 rfl, by simpa [Value.cells, o4, k4] using hg 4 f4 rfl, by simpa [Value.cells, o5, k5] using hg 5 f5 rfl⟩
end
end Go.Proofs.Ytpbnngfiinihmaa
