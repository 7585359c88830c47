/- Calls that come in, opened to cells; what the bound says of them. A struct of six one-cell fields by value, opened field by field (a block of the guide's page, copied as it says). A look that comes in, opened to cells; what the bound says of it. WALKS: coppicelaw20.head. -/
import Derived.Test.YtpbnngfiinihmaaOc22
import Derived.Test.YtpbnngfiinihmaaOc02
import Derived.Lib.SmallJoins
import Derived.Deep.Fields
import Derived.RowKit
import Derived.WideShapes
import Derived.Test.YtpbnngfiinihmaaOc07
import Derived.Test.YtpbnngfiinihmaaOc20
set_option linter.unusedVariables false
set_option linter.unusedSimpArgs false
namespace Go.Proofs.Ytpbnngfiinihmaa
open Go.ChangeShapes Go.WideShapes Go.Deep Go.RowKit
theorem list17 {α : Type} {l : List α} (h : l.length = 17) : ∃ a b c d e f g i j k m n o p q r s, l = [a, b, c, d, e, f, g, i, j, k, m, n, o, p, q, r, s] := by
  match l, h with
  | [a, b, c, d, e, f, g, i, j, k, m, n, o, p, q, r, s], _ => exact ⟨a, b, c, d, e, f, g, i, j, k, m, n, o, p, q, r, s, rfl⟩
theorem list11 {α : Type} {l : List α} (h : l.length = 11) : ∃ a b c d e f g i j k m, l = [a, b, c, d, e, f, g, i, j, k, m] := by
  match l, h with
  | [a, b, c, d, e, f, g, i, j, k, m], _ => exact ⟨a, b, c, d, e, f, g, i, j, k, m, rfl⟩
theorem list7 {α : Type} {l : List α} (h : l.length = 7) : ∃ a b c d e f g, l = [a, b, c, d, e, f, g] := by
  match l, h with
  | [a, b, c, d, e, f, g], _ => exact ⟨a, b, c, d, e, f, g, rfl⟩
section
variable {H : Type} {enc : TypeId × Value → H} {w : World} {base : Nat} {held : Bool}
theorem int_of_trod {t : TypeId} (ht : Try.prog.underlying t = some (.int .i64)) {fuel : Nat} {v : Value} {y : DataW H × List MemPlace} (h : DataW.trod enc Try.prog w base (fun _ => true) held fuel t [v] = some y) : ∃ z, v = .int .i64 z := by
  obtain ⟨z, hz, _⟩ := DataW.trod_int ht h
  exact ⟨z, by simpa using hz⟩
theorem bool_of_trod {fuel : Nat} {v : Value} {y : DataW H × List MemPlace} (h : DataW.trod enc Try.prog w base (fun _ => true) held fuel 4 [v] = some y) : ∃ z, v = .bool z := by
  obtain ⟨z, hz, _⟩ := DataW.trod_bool Try.underlying4 h
  exact ⟨z, by simpa using hz⟩
theorem slice_of_trod {t e : TypeId} (ht : Try.prog.underlying t = some (.slice e)) {fuel : Nat} {v : Value} {y : DataW H × List MemPlace} (h : DataW.trod enc Try.prog w base (fun _ => true) held fuel t [v] = some y) : ∃ A n c, v = .slice A n c := by
  rcases open_slice ht h with ⟨hcs, _⟩ | ⟨a, len, cap, m, k, D, Pl, hcs, _⟩
  · exact ⟨_, _, _, by simpa using hcs⟩
  · exact ⟨_, _, _, by simpa using hcs⟩
theorem call_of_trod {fuel : Nat} {cs : List Value} {y : DataW H × List MemPlace} (h : DataW.trod enc Try.prog w base (fun _ => true) held fuel 48 cs = some y) :
    ∃ c x, cs = (callCs c x).toList ∧ CallW w (fun _ => True) c x ∧ c.key.length ≤ Rows.uptoBulk y.1 := by
  obtain ⟨ys, n, _, hy, hl, hyl, hf⟩ := DataW.trod_struct Try.underlying48 h
  rw [show Try.prog.cellsOf 48 = 17 from by kernel_rfl] at hl
  obtain ⟨c0, c1, c2, c3, c4, c5, c6, c7, c8, c9, c10, c11, c12, c13, c14, c15, c16, rfl⟩ := list17 hl
  obtain ⟨y0, y1, y2, y3, y4, y5, y6, y7, y8, y9, y10, rfl⟩ := list11 hyl
  have t0 : DataW.trod enc Try.prog w base (fun _ => true) held n 3 (List.take (Try.prog.cellsOf 3) [c0, c1, c2, c3, c4, c5, c6, c7, c8, c9, c10, c11, c12, c13, c14, c15, c16]) = some y0 := hf 0 _ rfl
  have t1 : DataW.trod enc Try.prog w base (fun _ => true) held n 3 (List.take (Try.prog.cellsOf 3) [c1, c2, c3, c4, c5, c6, c7, c8, c9, c10, c11, c12, c13, c14, c15, c16]) = some y1 := hf 1 _ rfl
  have t2 : DataW.trod enc Try.prog w base (fun _ => true) held n 46 (List.take (Try.prog.cellsOf 46) [c2, c3, c4, c5, c6, c7, c8, c9, c10, c11, c12, c13, c14, c15, c16]) = some y2 := hf 2 _ rfl
  have t3 : DataW.trod enc Try.prog w base (fun _ => true) held n 3 (List.take (Try.prog.cellsOf 3) [c9, c10, c11, c12, c13, c14, c15, c16]) = some y3 := hf 3 _ rfl
  have t4 : DataW.trod enc Try.prog w base (fun _ => true) held n 3 (List.take (Try.prog.cellsOf 3) [c10, c11, c12, c13, c14, c15, c16]) = some y4 := hf 4 _ rfl
  have t5 : DataW.trod enc Try.prog w base (fun _ => true) held n 3 (List.take (Try.prog.cellsOf 3) [c11, c12, c13, c14, c15, c16]) = some y5 := hf 5 _ rfl
  have t6 : DataW.trod enc Try.prog w base (fun _ => true) held n 4 (List.take (Try.prog.cellsOf 4) [c12, c13, c14, c15, c16]) = some y6 := hf 6 _ rfl
  have t7 : DataW.trod enc Try.prog w base (fun _ => true) held n 30 (List.take (Try.prog.cellsOf 30) [c13, c14, c15, c16]) = some y7 := hf 7 _ rfl
  have t8 : DataW.trod enc Try.prog w base (fun _ => true) held n 4 (List.take (Try.prog.cellsOf 4) [c14, c15, c16]) = some y8 := hf 8 _ rfl
  have t9 : DataW.trod enc Try.prog w base (fun _ => true) held n 36 (List.take (Try.prog.cellsOf 36) [c15, c16]) = some y9 := hf 9 _ rfl
  have t10 : DataW.trod enc Try.prog w base (fun _ => true) held n 27 (List.take (Try.prog.cellsOf 27) [c16]) = some y10 := hf 10 _ rfl
  rw [show Try.prog.cellsOf 3 = 1 from by kernel_rfl] at t0 t1 t3 t4 t5
  rw [show Try.prog.cellsOf 4 = 1 from by kernel_rfl] at t6 t8
  rw [show Try.prog.cellsOf 30 = 1 from by kernel_rfl] at t7
  rw [show Try.prog.cellsOf 36 = 1 from by kernel_rfl] at t9
  rw [show Try.prog.cellsOf 27 = 1 from by kernel_rfl] at t10
  rw [show Try.prog.cellsOf 46 = 7 from by kernel_rfl] at t2
  obtain ⟨cl, rfl⟩ := int_of_trod Try.underlying3 t0
  obtain ⟨nu, rfl⟩ := int_of_trod Try.underlying3 t1
  obtain ⟨fst, rfl⟩ := int_of_trod Try.underlying3 t3
  obtain ⟨lst, rfl⟩ := int_of_trod Try.underlying3 t4
  obtain ⟨pt, rfl⟩ := int_of_trod Try.underlying3 t5
  obtain ⟨dn, rfl⟩ := bool_of_trod t6
  obtain ⟨er, rfl⟩ := int_of_trod Try.underlying30 t7
  obtain ⟨th, rfl⟩ := bool_of_trod t8
  obtain ⟨s9, b9⟩ := sb_of_trod (show DataW.trod enc Try.prog w base (fun _ => true) held n 36 [c15] = some y9 from t9)
  obtain ⟨eA, en, ec, rfl⟩ := slice_of_trod Try.underlying27 t10
  obtain ⟨zs, m, _, hz, _, hzl, hg⟩ := DataW.trod_struct Try.underlying46 t2
  obtain ⟨z0, z1, z2, z3, z4, z5, z6, rfl⟩ := list7 hzl
  have u0 : DataW.trod enc Try.prog w base (fun _ => true) held m 44 (List.take (Try.prog.cellsOf 44) [c2, c3, c4, c5, c6, c7, c8]) = some z0 := hg 0 _ rfl
  have u1 : DataW.trod enc Try.prog w base (fun _ => true) held m 36 (List.take (Try.prog.cellsOf 36) [c3, c4, c5, c6, c7, c8]) = some z1 := hg 1 _ rfl
  have u2 : DataW.trod enc Try.prog w base (fun _ => true) held m 36 (List.take (Try.prog.cellsOf 36) [c4, c5, c6, c7, c8]) = some z2 := hg 2 _ rfl
  have u3 : DataW.trod enc Try.prog w base (fun _ => true) held m 36 (List.take (Try.prog.cellsOf 36) [c5, c6, c7, c8]) = some z3 := hg 3 _ rfl
  have u4 : DataW.trod enc Try.prog w base (fun _ => true) held m 3 (List.take (Try.prog.cellsOf 3) [c6, c7, c8]) = some z4 := hg 4 _ rfl
  have u5 : DataW.trod enc Try.prog w base (fun _ => true) held m 24 (List.take (Try.prog.cellsOf 24) [c7, c8]) = some z5 := hg 5 _ rfl
  have u6 : DataW.trod enc Try.prog w base (fun _ => true) held m 3 (List.take (Try.prog.cellsOf 3) [c8]) = some z6 := hg 6 _ rfl
  rw [show Try.prog.cellsOf 44 = 1 from by kernel_rfl] at u0
  rw [show Try.prog.cellsOf 36 = 1 from by kernel_rfl] at u1 u2 u3
  rw [show Try.prog.cellsOf 3 = 1 from by kernel_rfl] at u4 u6
  rw [show Try.prog.cellsOf 24 = 1 from by kernel_rfl] at u5
  obtain ⟨kd, rfl⟩ := int_of_trod Try.underlying44 u0
  obtain ⟨s1, b1⟩ := sb_of_trod (show DataW.trod enc Try.prog w base (fun _ => true) held m 36 [c3] = some z1 from u1)
  obtain ⟨s2, b2⟩ := sb_of_trod (show DataW.trod enc Try.prog w base (fun _ => true) held m 36 [c4] = some z2 from u2)
  obtain ⟨hA, hn, hc, rfl⟩ := slice_of_trod Try.underlying36 (show DataW.trod enc Try.prog w base (fun _ => true) held m 36 [c5] = some z3 from u3)
  obtain ⟨mo, rfl⟩ := int_of_trod Try.underlying3 u4
  obtain ⟨tA, tn, tc, rfl⟩ := slice_of_trod Try.underlying24 (show DataW.trod enc Try.prog w base (fun _ => true) held m 24 [c7] = some z5 from u5)
  obtain ⟨fa, rfl⟩ := int_of_trod Try.underlying3 u6
  obtain ⟨kA, kn, kc, rfl, k1, k2, k3, k4⟩ := s1
  obtain ⟨vA, vn, vc, rfl, v1, v2, v3, v4⟩ := s2
  obtain ⟨aA, an, ac, rfl, a1, a2, a3, a4⟩ := s9
  refine ⟨⟨cl, kd, _, _, fst, lst, pt, dn, er, th, _⟩, ⟨nu, mo, fa, kA, kn, kc, vA, vn, vc, hA, hn, hc, tA, tn, tc, aA, an, ac, eA, en, ec⟩, rfl, ⟨k1, k2, k3, k4, v1, v2, v3, v4, a1, a2, a3, a4⟩, ?_⟩
  rw [hz] at hy
  subst hy
  show (readBytes w (.slice kA kn kc)).length ≤ _
  simp only [List.map, Rows.uptoBulk, Rows.uptoBulkAll]
  omega
theorem calls_of_trod {fuel : Nat} {A : Option Addr} {n c : Nat} {x : DataW H × List MemPlace} (h : DataW.trod enc Try.prog w base (fun _ => true) held fuel 22 [.slice A n c] = some x) (hb : Rows.uptoBulk x.1 ≤ 1048576) :
    ∃ l : List CallD, CallsM w (fun _ => True) A n l ∧ n ≤ c ∧ n ≤ 1048576 ∧ ∀ e ∈ l, e.key.length ≤ 1048576 := by
  rcases open_slice Try.underlying22 h with ⟨hcs, rfl⟩ | ⟨a, len, cap, m, k, D, Pl, hcs, _, hl, hm, hmm, rfl, hel⟩
  · simp only [List.cons.injEq, Value.slice.injEq, and_true] at hcs
    obtain ⟨rfl, rfl, rfl⟩ := hcs
    exact ⟨[], CallsM.nil _ _ _, Nat.le_refl _, by omega, by simp⟩
  · simp only [List.cons.injEq, Value.slice.injEq, and_true] at hcs
    obtain ⟨rfl, rfl, rfl⟩ := hcs
    rw [show Try.prog.cellsOf 48 = 17 from by kernel_rfl] at hel
    have hmn : n ≤ m := by rw [hmm]; split <;> omega
    have hb : Rows.uptoBulk (.slice ((List.range n).map D) ((List.range (m - n)).map fun j => D (n + j))) ≤ 1048576 := hb
    have hbs := bulk_slice ((List.range n).map D) ((List.range (m - n)).map fun j => D (n + j))
    have hlen := bulk_len ((List.range n).map D)
    rw [List.length_map, List.length_range] at hlen
    have hn : n ≤ 1048576 := by omega
    have hone : ∀ i : Nat, ∃ p : CallD × CallX, i < n → CallW w (fun _ => True) p.1 p.2 ∧ (∀ j v, (callCs p.1 p.2)[j]? = some v → w.cell? (a.add (i * 17 + j)) = some v) ∧ p.1.key.length ≤ 1048576 := by
      intro i
      by_cases hi : i < n
      · obtain ⟨cs', hc, ht⟩ := hel i (by omega)
        obtain ⟨c0, x0, rfl, hw, hk⟩ := call_of_trod ht
        have hDi : Rows.uptoBulk (D i) ≤ 1048576 := by
          have := bulk_part (d := D i) (l := (List.range n).map D) (List.mem_map.2 ⟨i, by simpa using hi, rfl⟩)
          omega
        obtain ⟨_, _, hat⟩ := World.cells?_some hc
        refine ⟨(c0, x0), fun _ => ⟨hw, fun j v hj => ?_, Nat.le_trans hk hDi⟩⟩
        have hj17 : j < 17 := by have := (Array.getElem?_eq_some_iff.1 hj).1; simpa using this
        have := hat (i := j) hj17
        rw [← Go.Deep.add_add, this]
        simpa using hj
      · exact ⟨(⟨0, 0, [], [], 0, 0, 0, false, 0, false, []⟩, ⟨0, 0, 0, none, 0, 0, none, 0, 0, none, 0, 0, none, 0, 0, none, 0, 0, none, 0, 0⟩), fun h => absurd h hi⟩
    obtain ⟨f, hf⟩ := Classical.axiomOfChoice hone
    refine ⟨(List.range n).map (fun i => (f i).1), ⟨(by show n = _; simp), fun i => (f i).2, fun i e he => ?_⟩, hl, hn, fun e he => ?_⟩
    · have hi : i < n := by have := (List.getElem?_eq_some_iff.1 he).1; simpa using this
      rw [List.getElem?_map, List.getElem?_range hi] at he
      have he : (f i).1 = e := by simpa using he
      subst he
      obtain ⟨hw, hc, _⟩ := hf i hi
      have hsp : a = ⟨a.block, a.off, none⟩ := cell_bt ((hf 0 (by omega)).2.1 0 _ rfl)
      have hcell : ∀ j v, (callCs (f i).1 (f i).2)[j]? = some v → w.cell? ⟨a.block, a.off + (i * 17 + j), none⟩ = some v := fun j v hj => by
        have := hc j v hj
        rw [hsp, add_eq] at this
        exact this
      refine ⟨hw, a.block, a.off, by rw [← hsp], trivial, ?_⟩
      simp only [← Nat.add_assoc] at hcell
      exact ⟨hcell 0 _ rfl, hcell 1 _ rfl, hcell 2 _ rfl, hcell 3 _ rfl, hcell 4 _ rfl, hcell 5 _ rfl, hcell 6 _ rfl, hcell 7 _ rfl, hcell 8 _ rfl, hcell 9 _ rfl, hcell 10 _ rfl, hcell 11 _ rfl, hcell 12 _ rfl, hcell 13 _ rfl, hcell 14 _ rfl, hcell 15 _ rfl, hcell 16 _ rfl⟩
    · obtain ⟨i, hi, rfl⟩ := List.mem_map.1 he
      exact (hf i (by simpa using hi)).2.2
end
end Go.Proofs.Ytpbnngfiinihmaa

namespace Go.Proofs.Ytpbnngfiinihmaa
open Go.Joins Go.ChangeShapes Go.WideShapes Go.RowKit Go.Deep
section
variable {H : Type} {enc : TypeId × Value → H} {P : Program} {w : World} {base : Nat} {spare : Nat → Bool} {held : Bool}
theorem open_agg6 {r : Reach} {b0 : Nat} {t : TypeId} {f0 f1 f2 f3 f4 f5 : Field} {v : Value} {d : DataW H} {p : List MemPlace} (hs : P.underlying t = some (.struct #[f0, f1, f2, f3, f4, f5])) (hone : oneCellFields P #[f0, f1, f2, f3, f4, f5] = true) (hC : P.cellsOf t = 6)
    (hv : Value.okWide P w r b0 t v) (h : DataW.Trod enc P w base spare held t v d p) :
    ∃ (v0 v1 v2 v3 v4 v5 : Value) (y0 y1 y2 y3 y4 y5 : DataW H × List MemPlace) (n : Nat), v = .agg #[v0, v1, v2, v3, v4, v5] ∧ d = .agg [y0.1, y1.1, y2.1, y3.1, y4.1, y5.1] ∧ p = y0.2 ++ (y1.2 ++ (y2.2 ++ (y3.2 ++ (y4.2 ++ y5.2)))) ∧
      DataW.trod enc P w base spare held n f0.type [v0] = some y0 ∧ DataW.trod enc P w base spare held n f1.type [v1] = some y1 ∧ DataW.trod enc P w base spare held n f2.type [v2] = some y2 ∧ DataW.trod enc P w base spare held n f3.type [v3] = some y3 ∧ DataW.trod enc P w base spare held n f4.type [v4] = some y4 ∧ DataW.trod enc P w base spare held n f5.type [v5] = some y5 := by
  obtain ⟨cs, rfl, hsz⟩ := okWide_struct hs hv
  obtain ⟨l⟩ := cs
  match l, hsz.trans hC with
  | [c0, c1, c2, c3, c4, c5], _ =>
    obtain ⟨fuel, hf⟩ := h
    obtain ⟨xs, n, _, hx, _, hlen, hg⟩ := DataW.trod_struct hs hf
    obtain ⟨o0, k0⟩ := hone_of hone 0 f0 rfl
    obtain ⟨o1, k1⟩ := hone_of hone 1 f1 rfl
    obtain ⟨o2, k2⟩ := hone_of hone 2 f2 rfl
    obtain ⟨o3, k3⟩ := hone_of hone 3 f3 rfl
    obtain ⟨o4, k4⟩ := hone_of hone 4 f4 rfl
    obtain ⟨o5, k5⟩ := hone_of hone 5 f5 rfl
    match xs, hlen with
    | [y0, y1, y2, y3, y4, y5], _ =>
      simp only [Prod.mk.injEq] at hx
      exact ⟨c0, c1, c2, c3, c4, c5, y0, y1, y2, y3, y4, y5, n, rfl, by simpa using hx.1, by simpa using hx.2, by simpa [Value.cells, o0, k0] using hg 0 f0 rfl, by simpa [Value.cells, o1, k1] using hg 1 f1 rfl, by simpa [Value.cells, o2, k2] using hg 2 f2 rfl, by simpa [Value.cells, o3, k3] using hg 3 f3 rfl, by simpa [Value.cells, o4, k4] using hg 4 f4 rfl, by simpa [Value.cells, o5, k5] using hg 5 f5 rfl⟩
end
end Go.Proofs.Ytpbnngfiinihmaa

namespace Go.Proofs.Ytpbnngfiinihmaa
open Go.ChangeShapes Go.WideShapes Go.Deep Go.RowKit
theorem list6 {α : Type} {l : List α} (h : l.length = 6) : ∃ a b c d e f, l = [a, b, c, d, e, f] := by
  match l, h with
  | [a, b, c, d, e, f], _ => exact ⟨a, b, c, d, e, f, rfl⟩
/-- what is asked, in memory -/
structure LookW (w : World) (sA cA lA aA hA : Option Addr) (sn cn ln an hn : Nat) (ac hc : Nat) (a b : Int) (start l : List Ent) (cs : List CallD) (lo hi : List UInt8) : Prop where
  hS : Ents w Any sA sn start
  hL : CallsM w Any cA cn cs
  hE : Ents w Any lA ln l
  hlo : SB w Any (.slice aA an ac) lo
  hhi : SB w Any (.slice hA hn hc) hi
  b1 : sn ≤ 1048576
  b2 : cn ≤ 1048576
  b3 : ln ≤ 1048576
  hsh : Short 1048576 start
  hsl : Short 1048576 l
  hks : ∀ c ∈ cs, c.key.length ≤ 1048576
  hbm : b < 9223372036854775808
  ham : -9223372036854775808 ≤ a
  han : an ≤ 1152921504606
  hhn : hn ≤ 1152921504606
section
variable {H : Type} {enc : TypeId × Value → H} {w : World} {base : Nat} {held : Bool}
theorem intw_of_trod {fuel : Nat} {v : Value} {y : DataW H × List MemPlace} (h : DataW.trod enc Try.prog w base (fun _ => true) held fuel 3 [v] = some y) : ∃ z, v = .int .i64 z ∧ -9223372036854775808 ≤ z ∧ z < 9223372036854775808 := by
  obtain ⟨z, hz, _, hw⟩ := DataW.trod_int Try.underlying3 h
  refine ⟨z, by simpa using hz, ?_⟩
  unfold Lit.wf at hw
  simp only [Bool.and_eq_true, decide_eq_true_eq] at hw
  have h1 : IntKind.i64.min = -9223372036854775808 := by kernel_rfl
  have h2 : IntKind.i64.max = 9223372036854775807 := by kernel_rfl
  rw [h1, h2] at hw
  omega
set_option maxRecDepth 100000 in
theorem look_of_trod {fuel : Nat} {vs : List Value} {y : DataW H × List MemPlace} (h : DataW.trod enc Try.prog w base (fun _ => true) held fuel 41 vs = some y) (hb : Rows.uptoBulk y.1 ≤ 1048576) :
    ∃ (sA cA lA aA hA : Option Addr) (sn sc cn cc ln lc an ac hn hc : Nat) (h2 h3 h4 h5 : Value) (a b : Int) (start l : List Ent) (cs : List CallD) (lo hi : List UInt8),
      vs = [.slice sA sn sc, .slice cA cn cc, h2, h3, h4, h5, .slice lA ln lc, .slice aA an ac, .slice hA hn hc, .int .i64 a, .int .i64 b] ∧ LookW w sA cA lA aA hA sn cn ln an hn ac hc a b start l cs lo hi := by
  obtain ⟨ys, n, _, hy, hl, hyl, hf⟩ := DataW.trod_struct Try.underlying41 h
  rw [show Try.prog.cellsOf 41 = 11 from by kernel_rfl] at hl
  obtain ⟨c0, c1, c2, c3, c4, c5, c6, c7, c8, c9, c10, rfl⟩ := list11 hl
  obtain ⟨y0, y1, y2, y3, y4, y5, rfl⟩ := list6 hyl
  have t0 : DataW.trod enc Try.prog w base (fun _ => true) held n 29 (List.take (Try.prog.cellsOf 29) [c0, c1, c2, c3, c4, c5, c6, c7, c8, c9, c10]) = some y0 := hf 0 _ rfl
  have t1 : DataW.trod enc Try.prog w base (fun _ => true) held n 27 (List.take (Try.prog.cellsOf 27) [c6, c7, c8, c9, c10]) = some y1 := hf 1 _ rfl
  have t2 : DataW.trod enc Try.prog w base (fun _ => true) held n 36 (List.take (Try.prog.cellsOf 36) [c7, c8, c9, c10]) = some y2 := hf 2 _ rfl
  have t3 : DataW.trod enc Try.prog w base (fun _ => true) held n 36 (List.take (Try.prog.cellsOf 36) [c8, c9, c10]) = some y3 := hf 3 _ rfl
  have t4 : DataW.trod enc Try.prog w base (fun _ => true) held n 3 (List.take (Try.prog.cellsOf 3) [c9, c10]) = some y4 := hf 4 _ rfl
  have t5 : DataW.trod enc Try.prog w base (fun _ => true) held n 3 (List.take (Try.prog.cellsOf 3) [c10]) = some y5 := hf 5 _ rfl
  rw [show Try.prog.cellsOf 3 = 1 from by kernel_rfl] at t4 t5
  rw [show Try.prog.cellsOf 36 = 1 from by kernel_rfl] at t2 t3
  rw [show Try.prog.cellsOf 27 = 1 from by kernel_rfl] at t1
  rw [show Try.prog.cellsOf 29 = 6 from by kernel_rfl] at t0
  obtain ⟨lA, ln, lc, rfl⟩ := slice_of_trod Try.underlying27 (show DataW.trod enc Try.prog w base (fun _ => true) held n 27 [c6] = some y1 from t1)
  obtain ⟨s2, b2⟩ := sb_of_trod (show DataW.trod enc Try.prog w base (fun _ => true) held n 36 [c7] = some y2 from t2)
  obtain ⟨s3, b3⟩ := sb_of_trod (show DataW.trod enc Try.prog w base (fun _ => true) held n 36 [c8] = some y3 from t3)
  obtain ⟨a, rfl, ha1, ha2⟩ := intw_of_trod t4
  obtain ⟨b, rfl, hb1, hb2⟩ := intw_of_trod t5
  obtain ⟨zs, m, _, hz, _, hzl, hg⟩ := DataW.trod_struct Try.underlying29 t0
  obtain ⟨z0, z1, z2, z3, z4, z5, rfl⟩ := list6 hzl
  have u0 : DataW.trod enc Try.prog w base (fun _ => true) held m 27 (List.take (Try.prog.cellsOf 27) [c0, c1, c2, c3, c4, c5]) = some z0 := hg 0 _ rfl
  have u1 : DataW.trod enc Try.prog w base (fun _ => true) held m 22 (List.take (Try.prog.cellsOf 22) [c1, c2, c3, c4, c5]) = some z1 := hg 1 _ rfl
  rw [show Try.prog.cellsOf 27 = 1 from by kernel_rfl] at u0
  rw [show Try.prog.cellsOf 22 = 1 from by kernel_rfl] at u1
  obtain ⟨sA, sn, sc, rfl⟩ := slice_of_trod Try.underlying27 (show DataW.trod enc Try.prog w base (fun _ => true) held m 27 [c0] = some z0 from u0)
  obtain ⟨cA, cn, cc, rfl⟩ := slice_of_trod Try.underlying22 (show DataW.trod enc Try.prog w base (fun _ => true) held m 22 [c1] = some z1 from u1)
  have hbs : Rows.uptoBulk z0.1 ≤ 1048576 ∧ Rows.uptoBulk z1.1 ≤ 1048576 ∧ Rows.uptoBulk y1.1 ≤ 1048576 ∧ Rows.uptoBulk y2.1 ≤ 1048576 ∧ Rows.uptoBulk y3.1 ≤ 1048576 := by
    rw [hy] at hb
    rw [hz] at hb
    simp only [List.map, Rows.uptoBulk, Rows.uptoBulkAll] at hb
    omega
  obtain ⟨start, hS, _, _, hsn, hss⟩ := ents_of_trod u0 hbs.1
  obtain ⟨cs, hL, hcc, hcn, hks⟩ := calls_of_trod u1 hbs.2.1
  obtain ⟨l, hE, _, _, hln, hll⟩ := ents_of_trod t1 hbs.2.2.1
  obtain ⟨aA, an, ac, rfl, k1, k2, k3, k4⟩ := s2
  obtain ⟨hA, hn, hc, rfl, v1, v2, v3, v4⟩ := s3
  exact ⟨sA, cA, lA, aA, hA, sn, sc, cn, cc, ln, lc, an, ac, hn, hc, _, _, _, _, a, b, start, l, cs, _, _, rfl, ⟨hS, hL, hE, ⟨aA, an, ac, rfl, k1, k2, k3, k4⟩, ⟨hA, hn, hc, rfl, v1, v2, v3, v4⟩, hsn, hcn, hln, hss, hll, hks, hb2, ha1, by have := hbs.2.2.2.1; omega, by have := hbs.2.2.2.2; omega⟩⟩
end
end Go.Proofs.Ytpbnngfiinihmaa

namespace Go.Proofs.Ytpbnngfiinihmaa
open Go.RowKit
/-- a text of one byte that a constant has made -/
def One1 (w : World) (g : Nat) (c : UInt8) : Prop := w.heap[g]? = some (.cells #[.int .u8 c.toNat] 5 (1, 2))
theorem One1.sb {w : World} {g : Nat} {c : UInt8} (h : One1 w g c) : SB w Any (.slice (some ⟨g, 0, none⟩) 1 1) [c] := by
  refine SB.mk (Nat.le_refl _) (by simp [maxLen]) rfl ⟨rfl, fun _ => ⟨g, 0, rfl, trivial, fun j u hu => ?_⟩⟩
  have hj : j = 0 := by have := (List.getElem?_eq_some_iff.1 hu).1; simp [bvs] at this; exact this
  subst hj
  simp [bvs] at hu
  subst hu
  unfold One1 at h
  simp [World.cell?, h, bv]
theorem One1.chg {S : Nat → Prop} {w w' : World} {g : Nat} {c : UInt8} (h : One1 w g c) (hc : Chg S w w') (hs : ¬ S g) : One1 w' g c := by
  unfold One1 at *
  have hl : g < w.heap.size := (Array.getElem?_eq_some_iff.1 h).1
  rw [hc.block g hl hs]; exact h
theorem wpList_conv_text {ops : Array Oper} {rest : List Oper} {o : Oper} {a : Act} {w : World} {Q : Exit → Act → World → Prop} (hg : o.guard = none) (x : Operand) (ho : o.op = .convert 36 36 x) (g : Nat) (c : UInt8) (hx : a.eval x = .slice (some ⟨g, 0, none⟩) 1 1)
    (hB : Blk w g 5 #[.int .u8 c.toNat]) (hK : ∀ w', One1 w' g c → Chg (One g) w w' → wpList Try.prog ops Q rest (a.put o.dst (.slice (some ⟨g, 0, none⟩) 1 1)) w') :
    wpList Try.prog ops Q (o :: rest) a w := by
  refine wpList_plain hg fun K hK' => ?_
  have hsh : w.shape? g = some (5, 1) := by unfold Blk at hB; simp [World.shape?, hB]
  have hrun : (convert 36 36 (.slice (some ⟨g, 0, none⟩) 1 1)).run Try.prog w = .ok (.slice (some ⟨g, 0, none⟩) 1 1) (w.freeze ⟨g, 1, none⟩ 1) := by
    simp [convert, run_underlying Try.underlying36, run_underlying Try.underlying5, markStringish, hsh]
  unfold Oper.wp execOp
  simp only [ho, hx, Sem.run_bind, hrun, Result.andThen_ok, Sem.run_pure]
  refine hK' _ _ (hK _ ?_ ⟨?_, ?_, ?_, ?_, fun k hk hs => ?_⟩)
  · unfold One1; unfold Blk at hB
    simp [World.freeze, Array.getElem?_modify, hB]
  · simp [World.freeze]
  · simp [World.freeze]
  · simp [World.freeze]
  · simp [World.freeze]
  · have : ¬ g = k := fun e => hs e.symm
    simp [World.freeze, Array.getElem?_modify, this]
theorem conv_below {w w' : World} {o : Obj} {g : Nat} (h : Chg (One g) (w.alloc o) w') (hg : w.heap.size ≤ g) : Below w.heap.size w w' :=
  ((Below.refl _ _).alloc (Nat.le_refl _) _).trans (h.below_of (by simp) (fun b hb e => by have e : b = g := e; omega))
theorem conv_below2 {w w' : World} {o o2 : Obj} {g : Nat} (h : Chg (One g) ((w.alloc o).alloc o2) w') (hg : w.heap.size + 1 ≤ g) : Below (w.heap.size + 1) (w.alloc o) w' ∧ Below w.heap.size w w' := by
  have h1 : Below (w.heap.size + 1) (w.alloc o) w' := ((Below.refl _ _).alloc (by simp) _).trans (h.below_of (by simp) (fun b hb e => by have e : b = g := e; omega))
  exact ⟨h1, ((Below.refl _ _).alloc (Nat.le_refl _) _).trans (h1.mono (by omega))⟩
/-- the call of the head's history -/
def headC (v : List UInt8) : CallD := ⟨0, 1, [97], [], 0, 4, 4, true, 0, true, v⟩
theorem head_line (v : List UInt8) : lineE [headC v] = [0] := by
  have h : LineN [headC v] [headC v].length [0] := ⟨by simp, fun i => by
    constructor
    · intro h; simp at h; subst h; exact ⟨by simp, by simp [ptOf, headC]⟩
    · rintro ⟨h, _⟩; simp at h; simp [h]⟩
  exact h.eq.symm
theorem head_bad (v : List UInt8) : badPt [headC v] = none := badPt_none (fun j hj d hd => by
  have hj0 : j = 0 := by simpa using hj
  subst hj0
  simp at hd
  subst hd
  refine ⟨?_, by simp⟩
  unfold momentE headC
  simp)
theorem head_yes : checkE [([97], [49])] [headC [49]] [([97], [49])] 0 = (-1, 0) := by
  unfold checkE
  rw [head_bad, head_line]
  have : runL [headC [49]] [0] (mapE [([97], [49])]) = .inr [([97], [49])] := by decide
  rw [this]; simp
theorem head_no : checkE [([97], [49])] [headC [50]] [([97], [49])] 0 = (0, 202) := by
  unfold checkE
  rw [head_bad, head_line]
  have : runL [headC [50]] [0] (mapE [([97], [49])]) = .inl 0 := by decide
  rw [this]; rfl
theorem ents_one {w : World} {g n c m d : Nat} {A B : Option Addr} {k v : List UInt8} (hB : Blk w g 38 #[.slice A n c, .slice B m d]) (h1 : SB w Any (.slice A n c) k) (h2 : SB w Any (.slice B m d) v) : Ents w Any (some ⟨g, 0, none⟩) 1 [(k, v)] := by
  refine ⟨Lib.hid rfl, [.slice A n c, .slice B m d], ⟨rfl, fun _ => ⟨g, 0, rfl, trivial, fun j u hu => ?_⟩⟩, fun i e he => ?_⟩
  · rw [Nat.zero_add, hB.cell]; simpa using hu
  · have hi : i = 0 := by have := (List.getElem?_eq_some_iff.1 he).1; simpa using this
    subst hi
    simp at he
    subst he
    exact ⟨_, _, rfl, rfl, h1, h2⟩
theorem calls_one {w : World} {g : Nat} {c : CallD} {x : CallX} (hB : Blk w g 48 (callCs c x)) (hw : CallW w Any c x) : CallsM w Any (some ⟨g, 0, none⟩) 1 [c] := by
  refine ⟨rfl, fun _ => x, fun i e he => ?_⟩
  have hi : i = 0 := by have := (List.getElem?_eq_some_iff.1 he).1; simpa using this
  subst hi
  simp at he
  subst he
  exact ⟨hw, g, 0, rfl, trivial, CallAt.of_blk hB⟩
/-- what else lies in the call's cells -/
def headX (a b : Nat) : CallX := ⟨0, 0, 0, some ⟨a, 0, none⟩, 1, 1, none, 0, 0, none, 0, 0, none, 0, 0, some ⟨b, 0, none⟩, 1, 1, none, 0, 0⟩
theorem head_w {w : World} {a b : Nat} {v : UInt8} (h1 : One1 w a 97) (h2 : One1 w b v) : CallW w Any (headC [v]) (headX a b) := by
  obtain ⟨a1, a2, a3, a4⟩ := h1.sb.parts
  obtain ⟨b1, b2, b3, b4⟩ := h2.sb.parts
  exact ⟨a1, a2, a3, a4, Nat.le_refl _, by simp [headX, maxLen], rfl, Rd.none_ _ _ _ _, b1, b2, b3, b4⟩
theorem head_short : Short 1048576 [(([97] : List UInt8), ([49] : List UInt8))] := fun e he => by simp at he; subst he; simp
theorem head_keys (v : List UInt8) : ∀ c ∈ [headC v], c.key.length ≤ 1048576 := fun c hc => by simp at hc; subst hc; simp [headC]
set_option maxRecDepth 100000 in
set_option maxHeartbeats 8000000 in
theorem head_any (w : World) : Calls Try.prog 7 #[] w fun e w' => e = .returned (.bool true) ∧ Below w.heap.size w w' := by
  go_enter Try.func7, Try.ntmps7
  go_upto_region 2 with (first | (refine wpList_conv_text rfl (.tmp 6) rfl (w.heap.size) 97 rfl (Blk.new _ _ _) ?_; intro w1 k1 d1; have K1 := Lib.hid k1; have D1 := Lib.hid d1; clear k1 d1) | (refine wpList_conv_text rfl (.tmp 8) rfl (w1.heap.size) 49 rfl (Blk.new _ _ _) ?_; intro w2 k2 d2; have K2 := Lib.hid k2; have D2 := Lib.hid d2; clear k2 d2) | (refine wpList_conv_text rfl (.tmp 12) rfl (w2.heap.size + 1) 97 rfl (by have := Blk.new (w2.alloc (.cells #[.slice (some ⟨w.heap.size, 0, none⟩) 1 1, .slice (some ⟨w1.heap.size, 0, none⟩) 1 1] 38)) 5 #[.int .u8 (UInt8.toNat 97)]; simpa using this) ?_; intro w3 k3 d3; have K3 := Lib.hid k3; have D3 := Lib.hid d3; clear k3 d3) | (refine wpList_conv_text rfl (.tmp 15) rfl (w3.heap.size) 49 rfl (Blk.new _ _ _) ?_; intro w4 k4 d4; have K4 := Lib.hid k4; have D4 := Lib.hid d4; clear k4 d4) | (refine wpList_conv_text rfl (.tmp 19) rfl (w4.heap.size + 1) 97 rfl (by have := Blk.new (w4.alloc (.cells #[.int .i64 0, .int .i64 0, .int .i64 1, .slice (some ⟨w2.heap.size + 1, 0, none⟩) 1 1, .slice none 0 0, .slice none 0 0, .int .i64 0, .slice none 0 0, .int .i64 0, .int .i64 0, .int .i64 4, .int .i64 4, .bool true, .int .i64 0, .bool true, .slice (some ⟨w3.heap.size, 0, none⟩) 1 1, .slice none 0 0] 48)) 5 #[.int .u8 (UInt8.toNat 97)]; simpa using this) ?_; intro w5 k5 d5; have K5 := Lib.hid k5; have D5 := Lib.hid d5; clear k5 d5) | (refine wpList_conv_text rfl (.tmp 21) rfl (w5.heap.size) 49 rfl (Blk.new _ _ _) ?_; intro w6 k6 d6; have K6 := Lib.hid k6; have D6 := Lib.hid d6; clear k6 d6))
  obtain ⟨w7, hw7⟩ : ∃ W, W = (w6.alloc (.cells #[.slice (some ⟨w4.heap.size + 1, 0, none⟩) 1 1, .slice (some ⟨w5.heap.size, 0, none⟩) 1 1] 38)).alloc (.cells #[.slice (some ⟨w2.heap.size, 0, none⟩) 1 1, .slice (some ⟨w4.heap.size, 0, none⟩) 1 1, .int .i64 0, .bool false, .slice (some ⟨w6.heap.size, 0, none⟩) 1 1, .slice none 0 0] 29) := ⟨_, rfl⟩
  rw [← hw7]
  have b1 := conv_below D1.out (Nat.le_refl _)
  have b2 := conv_below D2.out (Nat.le_refl _)
  obtain ⟨b3', b3⟩ := conv_below2 D3.out (Nat.le_refl _)
  have b4 := conv_below D4.out (Nat.le_refl _)
  obtain ⟨b5', b5⟩ := conv_below2 D5.out (Nat.le_refl _)
  have b6 := conv_below D6.out (Nat.le_refl _)
  have b7 : Below w6.heap.size w6 w7 := by rw [hw7]; exact ((Below.refl _ _).alloc (Nat.le_refl _) _).alloc (by simp) _
  have E7 : Blk w7 w6.heap.size 38 #[.slice (some ⟨w4.heap.size + 1, 0, none⟩) 1 1, .slice (some ⟨w5.heap.size, 0, none⟩) 1 1] := by rw [hw7]; exact (Blk.new _ _ _).alloc _
  have H7 : Blk w7 (w6.heap.size + 1) 29 #[.slice (some ⟨w2.heap.size, 0, none⟩) 1 1, .slice (some ⟨w4.heap.size, 0, none⟩) 1 1, .int .i64 0, .bool false, .slice (some ⟨w6.heap.size, 0, none⟩) 1 1, .slice none 0 0] := by
    rw [hw7]
    have := Blk.new (w6.alloc (.cells #[.slice (some ⟨w4.heap.size + 1, 0, none⟩) 1 1, .slice (some ⟨w5.heap.size, 0, none⟩) 1 1] 38)) 29 #[.slice (some ⟨w2.heap.size, 0, none⟩) 1 1, .slice (some ⟨w4.heap.size, 0, none⟩) 1 1, .int .i64 0, .bool false, .slice (some ⟨w6.heap.size, 0, none⟩) 1 1, .slice none 0 0]
    simpa using this
  have s1 : w.heap.size + 1 ≤ w1.heap.size := by have := D1.out.size; simpa using this
  have s2 : w1.heap.size + 1 ≤ w2.heap.size := by have := D2.out.size; simpa using this
  have s3 : w2.heap.size + 2 ≤ w3.heap.size := by have := D3.out.size; simpa using this
  have s4 : w3.heap.size + 1 ≤ w4.heap.size := by have := D4.out.size; simpa using this
  have s5 : w4.heap.size + 2 ≤ w5.heap.size := by have := D5.out.size; simpa using this
  have s6 : w5.heap.size + 1 ≤ w6.heap.size := by have := D6.out.size; simpa using this
  have c6 : Below w6.heap.size w6 w7 := b7
  have c5 : Below w5.heap.size w5 w7 := b6.trans (c6.mono b6.size)
  have c4 : Below w4.heap.size w4 w7 := b5.trans (c5.mono b5.size)
  have c3 : Below w3.heap.size w3 w7 := b4.trans (c4.mono b4.size)
  have c2 : Below w2.heap.size w2 w7 := b3.trans (c3.mono b3.size)
  have c1 : Below w1.heap.size w1 w7 := b2.trans (c2.mono b2.size)
  have c0 : Below w.heap.size w w7 := b1.trans (c1.mono b1.size)
  have c3' : Below (w2.heap.size + 1) (w2.alloc (.cells #[.slice (some ⟨w.heap.size, 0, none⟩) 1 1, .slice (some ⟨w1.heap.size, 0, none⟩) 1 1] 38)) w7 := b3'.trans (c3.mono (by omega))
  have c5' := b5'.trans (c5.mono (by omega))
  have HE3 : Hid (Blk w7 w2.heap.size 38 #[.slice (some ⟨w.heap.size, 0, none⟩) 1 1, .slice (some ⟨w1.heap.size, 0, none⟩) 1 1]) := Lib.hid ((Blk.new _ _ _).below (by simpa using c3'))
  have HC5 : Hid (Blk w7 w4.heap.size 48 (callCs (headC [49]) (headX (w2.heap.size + 1) w3.heap.size))) := Lib.hid (Blk.below (w := w4.alloc (.cells (callCs (headC [49]) (headX (w2.heap.size + 1) w3.heap.size)) 48)) (Blk.new _ _ _) (by have h := c5'; rw [show w4.heap.size + 1 = (w4.alloc (.cells (callCs (headC [49]) (headX (w2.heap.size + 1) w3.heap.size)) 48)).heap.size by simp] at h; exact h))
  have HE7 := Lib.hid E7
  have HH7 := Lib.hid H7
  have T1 := Lib.hid (K1.out.chg (S := Nil) (Chg.of_below c1) (fun h => h))
  have T2 := Lib.hid (K2.out.chg (S := Nil) (Chg.of_below c2) (fun h => h))
  have T3 := Lib.hid (K3.out.chg (S := Nil) (Chg.of_below c3) (fun h => h))
  have T4 := Lib.hid (K4.out.chg (S := Nil) (Chg.of_below c4) (fun h => h))
  have T5 := Lib.hid (K5.out.chg (S := Nil) (Chg.of_below c5) (fun h => h))
  have T6 := Lib.hid (K6.out.chg (S := Nil) (Chg.of_below c6) (fun h => h))
  have HB7 := Lib.hid c0
  have s7 : w6.heap.size + 2 ≤ w7.heap.size := by rw [hw7]; simp
  clear hw7 b1 b2 b3 b3' b4 b5 b5' b6 b7 c0 c1 c2 c3 c4 c5 c6 c3' c5' E7 H7
  have z0 : w7.cell? ⟨w6.heap.size + 1, 0, none⟩ = some (.slice (some ⟨w2.heap.size, 0, none⟩) 1 1) := HH7.out.cell 0
  have z1 : w7.cell? ⟨w6.heap.size + 1, 1, none⟩ = some (.slice (some ⟨w4.heap.size, 0, none⟩) 1 1) := HH7.out.cell 1
  have z2 : w7.cell? ⟨w6.heap.size + 1, 2, none⟩ = some (.int .i64 0) := HH7.out.cell 2
  have z3 : w7.cell? ⟨w6.heap.size + 1, 3, none⟩ = some (.bool false) := HH7.out.cell 3
  have z4 : w7.cell? ⟨w6.heap.size + 1, 4, none⟩ = some (.slice (some ⟨w6.heap.size, 0, none⟩) 1 1) := HH7.out.cell 4
  have z5 : w7.cell? ⟨w6.heap.size + 1, 5, none⟩ = some (.slice none 0 0) := HH7.out.cell 5
  go_upto_region 3 with (go_at_call 10; go_loud (refine (check_any (some ⟨w2.heap.size, 0, none⟩) (some ⟨w4.heap.size, 0, none⟩) (some ⟨w6.heap.size, 0, none⟩) none 1 1 1 1 1 1 0 0 0 false [([97], [49])] [([97], [49])] [headC [49]] w7 (ents_one HE3.out T1.out.sb T2.out.sb) (calls_one HC5.out (head_w T3.out T4.out)) (ents_one HE7.out T5.out.sb T6.out.sb) (by omega) (by omega) (by omega) (by omega) head_short (head_keys _)).mono ?_); rintro e w8 ⟨rfl, hb8⟩; rw [head_yes]; have HB8 := Lib.hid hb8; clear hb8)
  have HH8 := Lib.hid (HH7.out.below HB8.out)
  have HC8 := Lib.hid (HC5.out.below HB8.out)
  have s8 : w7.heap.size ≤ w8.heap.size := HB8.out.size
  have y1 : w8.cell? ⟨w6.heap.size + 1, 1, none⟩ = some (.slice (some ⟨w4.heap.size, 0, none⟩) 1 1) := HH8.out.cell 1
  have y15 : w8.cell? ⟨w4.heap.size, 15, none⟩ = some (.slice (some ⟨w3.heap.size, 0, none⟩) 1 1) := HC8.out.cell 15
  have yf := HC8.out.frozen 15
  clear z0 z1 z2 z3 z4 z5
  go_upto_region 4 with (refine wpList_conv_text rfl (.tmp 33) rfl w8.heap.size 50 rfl (Blk.new _ _ _) ?_; intro w9 k9 d9; have K9 := Lib.hid k9; have D9 := Lib.hid (conv_below d9 (Nat.le_refl _)); have y15 := bkeep D9.out y15; have yf := (HC8.out.below D9.out).frozen 15; have s9 : w8.heap.size + 1 ≤ w9.heap.size := (by have := d9.size; simpa using this); clear k9 d9)
  obtain ⟨w10, hw10⟩ : ∃ W, W = w9.setCell ⟨w4.heap.size, 15, none⟩ (.slice (some ⟨w8.heap.size, 0, none⟩) 1 1) := ⟨_, rfl⟩
  rw [← hw10]
  have hc10 : Chg (One w4.heap.size) w9 w10 := by rw [hw10]; exact Chg.set1 _ _ _ _
  have HC10 : Hid (Blk w10 w4.heap.size 48 (callCs (headC [50]) (headX (w2.heap.size + 1) w8.heap.size))) := Lib.hid (by rw [hw10]; exact (HC8.out.below D9.out).set_ 15 (.slice (some ⟨w8.heap.size, 0, none⟩) 1 1))
  have B79 : Below w7.heap.size w7 w9 := HB8.out.trans (D9.out.mono s8)
  have C710 := (Chg.of_below (S := One w4.heap.size) B79).trans hc10 (fun _ _ h => h)
  have HH10 := Lib.hid (HH7.out.chg C710 (fun e => by have e : w6.heap.size + 1 = w4.heap.size := e; omega))
  have HE10 := Lib.hid (HE3.out.chg C710 (fun e => by have e : w2.heap.size = w4.heap.size := e; omega))
  have HF10 := Lib.hid (HE7.out.chg C710 (fun e => by have e : w6.heap.size = w4.heap.size := e; omega))
  have U1 := Lib.hid (T1.out.chg C710 (fun e => by have e : w.heap.size = w4.heap.size := e; omega))
  have U2 := Lib.hid (T2.out.chg C710 (fun e => by have e : w1.heap.size = w4.heap.size := e; omega))
  have U3 := Lib.hid (T3.out.chg C710 (fun e => by have e : w2.heap.size + 1 = w4.heap.size := e; omega))
  have U5 := Lib.hid (T5.out.chg C710 (fun e => by have e : w4.heap.size + 1 = w4.heap.size := e; omega))
  have U6 := Lib.hid (T6.out.chg C710 (fun e => by have e : w5.heap.size = w4.heap.size := e; omega))
  have U9 := Lib.hid (K9.out.chg hc10 (fun e => by have e : w8.heap.size = w4.heap.size := e; omega))
  have HB10 := Lib.hid (HB7.out.trans (C710.below_of HB7.out.size (fun b hb e => by have e : b = w4.heap.size := e; omega)))
  clear hw10 hc10 B79 C710 y1 y15 yf
  have z0 : w10.cell? ⟨w6.heap.size + 1, 0, none⟩ = some (.slice (some ⟨w2.heap.size, 0, none⟩) 1 1) := HH10.out.cell 0
  have z1 : w10.cell? ⟨w6.heap.size + 1, 1, none⟩ = some (.slice (some ⟨w4.heap.size, 0, none⟩) 1 1) := HH10.out.cell 1
  have z2 : w10.cell? ⟨w6.heap.size + 1, 2, none⟩ = some (.int .i64 0) := HH10.out.cell 2
  have z3 : w10.cell? ⟨w6.heap.size + 1, 3, none⟩ = some (.bool false) := HH10.out.cell 3
  have z4 : w10.cell? ⟨w6.heap.size + 1, 4, none⟩ = some (.slice (some ⟨w6.heap.size, 0, none⟩) 1 1) := HH10.out.cell 4
  have z5 : w10.cell? ⟨w6.heap.size + 1, 5, none⟩ = some (.slice none 0 0) := HH10.out.cell 5
  go_upto_region 5 with (go_at_call 10; go_loud (refine (check_any (some ⟨w2.heap.size, 0, none⟩) (some ⟨w4.heap.size, 0, none⟩) (some ⟨w6.heap.size, 0, none⟩) none 1 1 1 1 1 1 0 0 0 false [([97], [49])] [([97], [49])] [headC [50]] w10 (ents_one HE10.out U1.out.sb U2.out.sb) (calls_one HC10.out (head_w U3.out U9.out)) (ents_one HF10.out U5.out.sb U6.out.sb) (by omega) (by omega) (by omega) (by omega) head_short (head_keys _)).mono ?_); rintro e w11 ⟨rfl, hb11⟩; rw [head_no]; have HB11 := Lib.hid (HB10.out.trans (hb11.mono HB10.out.size)); clear hb11)
  go_wp2
  go_ret
  exact ⟨rfl, HB11.out⟩
end Go.Proofs.Ytpbnngfiinihmaa
