/- WALKS: is the program there? WALKS: the statement PackBuilds. Entries that come in, opened to cells; what the bound says of them. -/
import Derived.Test.YtgjphmlmndcaeaaPb16
import Derived.Test.YtgjphmlmndcaeaaPb21
import Derived.Test.YtgjphmlmndcaeaaRows
import Derived.Test.YtgjphmlmndcaeaaPb08
import Derived.Deep.Slices
import Derived.Deep.Fields
import Derived.ChangeSame
import Derived.ChangeSlices
import Derived.RowKit
set_option linter.unusedVariables false
set_option linter.unusedSimpArgs false
namespace Go.Proofs.Ytgjphmlmndcaeaa
open Go.RowKit
theorem lives_any (w : World) : Calls Try.prog 7 #[] w fun e w' => e = .returned (.bool true) ∧ Below w.heap.size w w' := by
  have hv : nodesOf 9 4 3 2 1 6 = (4, 0) := by decide
  have HV := Lib.hid hv
  clear hv
  go_enter Try.func7, Try.ntmps7
  go_wp2_with (go_at_call 8; refine (nodes_ok 9 4 3 2 1 6 _ (by decide) (by decide) (by decide)).mono ?_; rintro e w' ⟨rfl, hb⟩; rw [HV.out]; simp only [nodesV])
  go_ret
  exact ⟨rfl, hb⟩
end Go.Proofs.Ytgjphmlmndcaeaa

namespace Go.Proofs.Ytgjphmlmndcaeaa
open Go.RowKit
set_option maxRecDepth 100000 in
set_option maxHeartbeats 4000000 in
theorem builds_any (nd lf inn fl bl : Int) (A : Option Addr) (n c : Nat) (F : Nat → Prop) (l : List Ent) (w : World) (hE : Ents w F A n l) (hnc : n ≤ c) (hcm : c ≤ maxLen) (hn : n ≤ 1048576) (hsm : ∀ e ∈ l, e.1.length ≤ 1048576 ∧ e.2.length ≤ 1048576) :
    Calls Try.prog 5 #[.agg #[.int .i64 nd, .int .i64 lf, .int .i64 inn, .int .i64 fl, .int .i64 bl], .slice A n c] w fun e w' => e = .returned (.bool true) ∧ Below w.heap.size w w' := by
  have HE := Lib.hid hE.lt
  have hl := hE.len
  have HL := Lib.hid hl
  have HS : Hid (∀ e ∈ l, e.1.length ≤ 1152921504606 ∧ e.2.length ≤ 1152921504606) := Lib.hid (fun e he => ⟨Nat.le_trans (hsm e he).1 (by decide), Nat.le_trans (hsm e he).2 (by decide)⟩)
  have hn' : n ≤ 1152921504606 := by omega
  obtain ⟨E1, hE1⟩ : ∃ x, x = (buildE nd lf inn fl bl l).1 := ⟨_, rfl⟩
  obtain ⟨E2, hE2⟩ : ∃ x, x = (buildE nd lf inn fl bl l).2 := ⟨_, rfl⟩
  have HE1 := Lib.hid hE1
  have HE2 := Lib.hid hE2
  clear hE hsm hl hE1 hE2
  have hr1 : (E1 == E1) = true := beq_self_eq_true _
  have hr2 : (E2 == E2) = true := beq_self_eq_true _
  by_cases hz : E1 = 0
  · have HZ := Lib.hid hz
    clear hz
    have hbo := buildE_ok (show (buildE nd lf inn fl bl l).1 = 0 by rw [← HE1.out]; exact HZ.out)
    have hnd : 0 ≤ nd ∧ nd ≤ 65536 := by have := hbo.1; unfold cfgOk at this; omega
    have HT : Hid ((treeOf fl.toNat inn.toNat l).1.length ≤ 65536 ∧ (∀ s ∈ (treeOf fl.toNat inn.toNat l).1, Small s.2) ∧ ∀ s ∈ (treeOf fl.toNat inn.toNat l).1, 0 ≤ s.1 ∧ s.1 ≤ 4611686018427387904 ∧ s.1 % 2 = 0) := Lib.hid (by
      have h0 := hbo.1
      unfold cfgOk at h0
      have e1 : inn = (inn.toNat : Int) := by omega
      have e2 : fl = (fl.toNat : Int) := by omega
      have h := hbo
      rw [e1, e2] at h
      exact tree_ok h.1 HS.out h.2)
    clear hbo
    skip
    go_enter Try.func5, Try.ntmps5
    go_wp2_with (first | (go_at_call 7; refine (lives_any _).mono ?_; rintro e w1 ⟨rfl, hb1⟩; have HB1 : Hid (Below w.heap.size w w1) := Lib.hid (((Below.refl _ _).alloc (Nat.le_refl _) _).trans (hb1.mono (by simp))); have HK1 := Lib.hid ((Blk.new w 23 #[.int .i64 nd, .int .i64 lf, .int .i64 inn, .int .i64 fl, .int .i64 bl]).below hb1); clear hb1) | (go_at_call 15; refine (copy_any A n c _ l _ (HE.out.below HB1.out) hn' HS.out).mono ?_; rintro e w2 ⟨A2, c2, rfl, q1, q2⟩; have HB2 : Hid (Below w1.heap.size w1 w2) := Lib.hid q2; have HC2 := Lib.hid q1; have HK2 := Lib.hid (HK1.out.below q2); obtain ⟨z0, z1, z2, z3, z4⟩ := cf_of HK2.out; go_loud (have hcc : n ≤ c2 ∧ c2 ≤ maxLen := (by obtain ⟨_, _, _, _, e, _⟩ := q1; simp only [maxLen]; omega)); clear q1 q2) | (go_at_call 20; go_loud (refine (pbuild_any nd lf inn fl bl A2 n c2 _ l _ HC2.out.ents hcc.1 hcc.2 hn' HS.out).mono ?_); rintro e w3 ⟨pv, rfl, q2, q3⟩; rw [← HE1.out, ← HE2.out]; rw [← HE1.out] at q3; obtain ⟨p, rfl, q4⟩ := (q3.resolve_left (fun h => h.1 HZ.out)).2; have HX3 := Lib.hid q4; clear q3 q4; have HB3 := Lib.hid q2; clear q2) | (go_at_call 17; go_loud (refine (kept_any _ A2 A n c2 n c w1.heap.size l _ (HC2.out.below HB3.out) (((HE.out.below HB1.out).below HB2.out).below HB3.out)).mono ?_); rintro e w4 ⟨rfl, q2⟩; have HB4 := Lib.hid q2; clear q2) | (go_at_call 18; go_loud (refine (spoil_in _ A2 n c2 l _ ((HC2.out.in_.below HB3.out).below HB4.out)).mono ?_); rintro e w5 ⟨rfl, q2⟩; have HC5 := Lib.hid q2; have hs1 := HB1.out.size; have hs2 := HB2.out.size; have hs3 := HB3.out.size; have hs4 := HB4.out.size; have hs5 : w4.heap.size ≤ w5.heap.size := q2.size; go_loud (have HK5 := Lib.hid (((HK2.out.below HB3.out).below HB4.out).chg q2 (fun h => by have h1 := h.1; have := HK1.out.lt; omega))); obtain ⟨z0, z1, z2, z3, z4⟩ := cf_of HK5.out; go_loud (have HE5 := Lib.hid (((((HE.out.below HB1.out).below HB2.out).below HB3.out).below HB4.out).chg q2 (fun b hb h => by have h1 := h.1; have := hb.2; omega))); go_loud (have HBW5 : Hid (Below w.heap.size w w5) := Lib.hid ((((HB1.out.trans (HB2.out.mono hs1)).trans (HB3.out.mono (by omega))).trans (HB4.out.mono (by omega))).trans (q2.below_of (by omega) (fun b hb h => by have h1 := h.1; omega)))); clear q2) | (go_at_call 21; go_loud (refine (rbuild_any nd lf inn fl bl A n c _ l _ HE5.out hnc hcm hn' HS.out).mono ?_); rintro e w6 ⟨rv, rfl, q2, q3⟩; rw [← HE1.out, ← HE2.out]; rw [← HE1.out] at q3; obtain ⟨r, rfl, q4⟩ := (q3.resolve_left (fun h => h.1 HZ.out)).2; have HX6 := Lib.hid q4; clear q3 q4; have HB6 := Lib.hid q2; clear q2) | (go_at_call 12; go_loud (refine (both_alike (From w2.heap.size) (From w5.heap.size) p r nd (treeOf fl.toNat inn.toNat l).2 (treeOf fl.toNat inn.toNat l).1 w6 (((HX3.out.below HB4.out).chg HC5.out (fun b hb h => by have h1 := h.2; have h2 : w2.heap.size ≤ b := hb; omega)).below HB6.out) HX6.out HT.out.1 hnd.1 hnd.2 HT.out.2.1 HT.out.2.2).mono ?_); rintro e w7 ⟨rfl, q2⟩; have HB7 := Lib.hid q2; clear q2))
    go_ret
    exact ⟨rfl, (HBW5.out.trans (HB6.out.mono HBW5.out.size)).trans (HB7.out.mono (Nat.le_trans HBW5.out.size HB6.out.size))⟩
  · have HZ := Lib.hid hz
    clear hz
    skip
    go_enter Try.func5, Try.ntmps5
    go_wp2_with (first | (go_at_call 7; refine (lives_any _).mono ?_; rintro e w1 ⟨rfl, hb1⟩; have HB1 : Hid (Below w.heap.size w w1) := Lib.hid (((Below.refl _ _).alloc (Nat.le_refl _) _).trans (hb1.mono (by simp))); have HK1 := Lib.hid ((Blk.new w 23 #[.int .i64 nd, .int .i64 lf, .int .i64 inn, .int .i64 fl, .int .i64 bl]).below hb1); clear hb1) | (go_at_call 15; refine (copy_any A n c _ l _ (HE.out.below HB1.out) hn' HS.out).mono ?_; rintro e w2 ⟨A2, c2, rfl, q1, q2⟩; have HB2 : Hid (Below w1.heap.size w1 w2) := Lib.hid q2; have HC2 := Lib.hid q1; have HK2 := Lib.hid (HK1.out.below q2); obtain ⟨z0, z1, z2, z3, z4⟩ := cf_of HK2.out; go_loud (have hcc : n ≤ c2 ∧ c2 ≤ maxLen := (by obtain ⟨_, _, _, _, e, _⟩ := q1; simp only [maxLen]; omega)); clear q1 q2) | (go_at_call 20; go_loud (refine (pbuild_any nd lf inn fl bl A2 n c2 _ l _ HC2.out.ents hcc.1 hcc.2 hn' HS.out).mono ?_); rintro e w3 ⟨pv, rfl, q2, q3⟩; rw [← HE1.out, ← HE2.out]; rw [← HE1.out] at q3; obtain rfl := (q3.resolve_right (fun h => HZ.out h.1)).2; clear q3; have HB3 := Lib.hid q2; clear q2) | (go_at_call 17; go_loud (refine (kept_any _ A2 A n c2 n c w1.heap.size l _ (HC2.out.below HB3.out) (((HE.out.below HB1.out).below HB2.out).below HB3.out)).mono ?_); rintro e w4 ⟨rfl, q2⟩; have HB4 := Lib.hid q2; clear q2) | (go_at_call 18; go_loud (refine (spoil_in _ A2 n c2 l _ ((HC2.out.in_.below HB3.out).below HB4.out)).mono ?_); rintro e w5 ⟨rfl, q2⟩; have HC5 := Lib.hid q2; have hs1 := HB1.out.size; have hs2 := HB2.out.size; have hs3 := HB3.out.size; have hs4 := HB4.out.size; have hs5 : w4.heap.size ≤ w5.heap.size := q2.size; go_loud (have HK5 := Lib.hid (((HK2.out.below HB3.out).below HB4.out).chg q2 (fun h => by have h1 := h.1; have := HK1.out.lt; omega))); obtain ⟨z0, z1, z2, z3, z4⟩ := cf_of HK5.out; go_loud (have HE5 := Lib.hid (((((HE.out.below HB1.out).below HB2.out).below HB3.out).below HB4.out).chg q2 (fun b hb h => by have h1 := h.1; have := hb.2; omega))); go_loud (have HBW5 : Hid (Below w.heap.size w w5) := Lib.hid ((((HB1.out.trans (HB2.out.mono hs1)).trans (HB3.out.mono (by omega))).trans (HB4.out.mono (by omega))).trans (q2.below_of (by omega) (fun b hb h => by have h1 := h.1; omega)))); clear q2) | (go_at_call 21; go_loud (refine (rbuild_any nd lf inn fl bl A n c _ l _ HE5.out hnc hcm hn' HS.out).mono ?_); rintro e w6 ⟨rv, rfl, q2, q3⟩; rw [← HE1.out, ← HE2.out]; rw [← HE1.out] at q3; obtain rfl := (q3.resolve_right (fun h => HZ.out h.1)).2; clear q3; have HB6 := Lib.hid q2; clear q2) | (go_at_call 12; refine (both_nil _).mono ?_; rintro e w7 ⟨rfl, rfl⟩; have q2 := Below.refl w6.heap.size w6; have HB7 := Lib.hid q2; clear q2))
    go_ret
    exact ⟨rfl, (HBW5.out.trans (HB6.out.mono HBW5.out.size)).trans (HB7.out.mono (Nat.le_trans HBW5.out.size HB6.out.size))⟩
end Go.Proofs.Ytgjphmlmndcaeaa

namespace Go.Proofs.Ytgjphmlmndcaeaa
open Go.ChangeShapes Go.WideShapes Go.Deep Go.RowKit
theorem bulk_one {H : Type} (d : DataW H) : 1 ≤ Rows.uptoBulk d := by
  cases d with
  | lit l => cases l <;> simp [Rows.uptoBulk]
  | _ => simp [Rows.uptoBulk]
theorem bulk_part {H : Type} {d : DataW H} {l : List (DataW H)} (h : d ∈ l) : Rows.uptoBulk d ≤ Rows.uptoBulkAll l := by
  induction l with
  | nil => cases h
  | cons x r ih =>
    simp only [Rows.uptoBulkAll]
    cases List.mem_cons.1 h with
    | inl e => subst e; omega
    | inr e => have := ih e; omega
theorem bulk_len {H : Type} (l : List (DataW H)) : l.length ≤ Rows.uptoBulkAll l := by
  induction l with
  | nil => simp [Rows.uptoBulkAll]
  | cons x r ih => have := bulk_one x; simp only [Rows.uptoBulkAll, List.length_cons]; omega
theorem bulk_slice {H : Type} (elems spare : List (DataW H)) : Rows.uptoBulkAll elems + 1 ≤ Rows.uptoBulk (.slice elems spare) := by
  simp only [Rows.uptoBulk]; omega

/-- the bytes that a slice's cells hold -/
def readBytes (w : World) : Value → List UInt8
  | .slice (some a) n _ => (List.range n).map fun j => match w.cell? (a.add j) with | some (.int _ z) => UInt8.ofNat z.toNat | _ => 0
  | _ => []
section
variable {H : Type} {enc : TypeId × Value → H} {w : World} {base : Nat} {spare : Nat → Bool} {held : Bool}
theorem cell_bt {a : Addr} {v : Value} (h : w.cell? (a.add 0) = some v) : a = ⟨a.block, a.off, none⟩ := by
  obtain ⟨b, o', s⟩ := a
  have hs : s = none := by simpa [Addr.add] using World.cell?_spot h
  subst hs
  rfl
theorem sb_of_trod {fuel : Nat} {v : Value} {y : DataW H × List MemPlace} (h : DataW.trod enc Try.prog w base spare held fuel 41 [v] = some y) : SB w (fun _ => True) v (readBytes w v) ∧ (readBytes w v).length + 1 ≤ Rows.uptoBulk y.1 := by
  rcases open_ints Try.underlying41 Try.underlying5 (by kernel_rfl) h with ⟨hcs, rfl⟩ | ⟨a, len, cap, zs, hcs, _, hl, hm, hz, rfl, hcell, hwz⟩
  · have hv : v = .slice none 0 0 := by simpa using hcs
    subst hv
    exact ⟨SB.nil _ _, by simp [readBytes, Rows.uptoBulk]⟩
  · have hv : v = .slice (some a) len cap := by simpa using hcs
    subst hv
    have hzl : len ≤ zs.length := by rw [hz]; split <;> omega
    have hrl : (readBytes w (.slice (some a) len cap)).length = len := by simp [readBytes]
    refine ⟨⟨some a, len, cap, rfl, hl, hm, hrl.symm, by rw [bvs_len, hrl, Nat.mul_one], fun hn => ?_⟩, ?_⟩
    · have ha := cell_bt (hcell 0 (by omega))
      refine ⟨a.block, a.off, by rw [← ha], trivial, fun j u hj => ?_⟩
      have hj' : j < len := by have := (List.getElem?_eq_some_iff.1 hj).1; rw [bvs_len, hrl] at this; exact this
      have hc := hcell j (by omega)
      have hz1 := hwz (zs.getD j 0) (by rw [List.getD_eq_getElem?_getD, List.getElem?_eq_getElem (by omega)]; exact List.getElem_mem (by omega))
      have hz2 : 0 ≤ zs.getD j 0 ∧ zs.getD j 0 ≤ 255 := by simpa [Lit.wf, IntKind.min, IntKind.max, IntKind.signed, IntKind.bits] using hz1
      simp only [bvs, readBytes, List.map_map, List.getElem?_map, List.getElem?_range hj', Option.map_some, Function.comp, hc] at hj
      injection hj with hj
      subst hj
      rw [ha, add_eq] at hc
      rw [hc]
      unfold bv
      congr 2
      rw [UInt8.toNat_ofNat']
      omega
    · rw [hrl]
      have h1 := bulk_slice (lits (H := H) IntKind.u8 (zs.take len)) (lits IntKind.u8 (zs.drop len))
      have h2 := bulk_len (lits (H := H) IntKind.u8 (zs.take len))
      have h3 : (lits (H := H) IntKind.u8 (zs.take len)).length = len := by simp [lits]; omega
      show len + 1 ≤ Rows.uptoBulk (.slice (lits IntKind.u8 (zs.take len)) (lits IntKind.u8 (zs.drop len)))
      omega
theorem open_slice_fields {P : Program} {t e : TypeId} {fs : Array Field} {fuel : Nat} {cs : List Value} {x : DataW H × List MemPlace} (ht : P.underlying t = some (.slice e)) (he : P.underlying e = some (.struct fs))
    (hone : oneCellFields P fs = true) (hC : P.cellsOf e = fs.size) (h : DataW.trod enc P w base spare held fuel t cs = some x) :
    (cs = [.slice none 0 0] ∧ x = (.nil, [])) ∨
    ∃ (a : Addr) (len cap m : Nat) (D : Nat → DataW H) (Pl : Nat → List MemPlace), cs = [.slice (some a) len cap] ∧ base ≤ a.block ∧ len ≤ cap ∧ cap ≤ maxLen ∧ m = (if spare a.block then cap else len) ∧
      x = (.slice ((List.range len).map D) ((List.range (m - len)).map fun j => D (len + j)), MemPlace.row a (m * fs.size) ++ (List.range m).flatMap Pl) ∧
      ∀ i, i < m → ∃ (ys : List (DataW H × List MemPlace)) (n : Nat), D i = .agg (ys.map (·.1)) ∧ Pl i = ys.flatMap (·.2) ∧ ys.length = fs.size ∧
        ∀ (j : Nat) (f : Field), fs[j]? = some f → ∃ (v : Value) (y : DataW H × List MemPlace), w.cell? (a.add (i * fs.size + j)) = some v ∧ ys[j]? = some y ∧ DataW.trod enc P w base spare held n f.type [v] = some y := by
  rcases open_slice ht h with h0 | ⟨a, len, cap, m, n, D, Pl, hcs, hb, hl, hm, hmm, hx, hi⟩
  · exact .inl h0
  · refine .inr ⟨a, len, cap, m, D, Pl, hcs, hb, hl, hm, hmm, by rw [hC] at hx; exact hx, fun i him => ?_⟩
    obtain ⟨cs', hc, ht'⟩ := hi i him
    rw [hC] at hc
    obtain ⟨ys, n', hn', hy, hlen, hyl, hf⟩ := DataW.trod_struct he ht'
    obtain ⟨_, hcl, hat⟩ := World.cells?_some hc
    simp only [Prod.mk.injEq] at hy
    refine ⟨ys, n', hy.1, hy.2, hyl, fun j f hj => ?_⟩
    obtain ⟨ho, hk⟩ := hone_of hone j f hj
    have hjl : j < fs.size := (Array.getElem?_eq_some_iff.1 hj).1
    have hcell := hat j hjl
    have hv : cs'[j]? = some (cs'[j]'(by omega)) := List.getElem?_eq_getElem (by omega)
    have h1 := hf j f hj
    rw [ho, hk] at h1
    have hone' : (cs'.drop j).take 1 = [cs'[j]'(by omega)] := by
      rw [List.drop_eq_getElem_cons (by omega)]
      rfl
    rw [hone'] at h1
    have hys : ys[j]? = some (ys[j]'(by omega)) := List.getElem?_eq_getElem (by omega)
    refine ⟨_, _, ?_, hys, h1.trans hys⟩
    rw [← Go.Deep.add_add, hcell, hv]

/-- the entry whose two slices lie at a place -/
def readEnt (w : World) (a : Addr) : Ent := (readBytes w ((w.cell? a).getD undef), readBytes w ((w.cell? (a.add 1)).getD undef))
theorem ents_of_trod {fuel : Nat} {A : Option Addr} {n c : Nat} {x : DataW H × List MemPlace} (h : DataW.trod enc Try.prog w base (fun _ => true) held fuel 37 [.slice A n c] = some x) (hb : Rows.uptoBulk x.1 ≤ 1048576) :
    ∃ l : List Ent, Ents w (fun _ => True) A n l ∧ n ≤ c ∧ c ≤ maxLen ∧ n ≤ 1048576 ∧ ∀ e ∈ l, e.1.length ≤ 1048576 ∧ e.2.length ≤ 1048576 := by
  rcases open_slice_fields Try.underlying37 Try.underlying43 (by kernel_rfl) (by kernel_rfl) h with ⟨hcs, rfl⟩ | ⟨a, len, cap, m, D, Pl, hcs, _, hl, hm, hmm, rfl, hel⟩
  · simp only [List.cons.injEq, Value.slice.injEq, and_true] at hcs
    obtain ⟨rfl, rfl, rfl⟩ := hcs
    exact ⟨[], Ents.nil _ _ _, Nat.le_refl _, by simp [maxLen], by omega, by simp⟩
  · simp only [List.cons.injEq, Value.slice.injEq, and_true] at hcs
    obtain ⟨rfl, rfl, rfl⟩ := hcs
    have hmn : n ≤ m := by rw [hmm]; split <;> omega
    have hb : Rows.uptoBulk (.slice ((List.range n).map D) ((List.range (m - n)).map fun j => D (n + j))) ≤ 1048576 := hb
    have hbs := bulk_slice ((List.range n).map D) ((List.range (m - n)).map fun j => D (n + j))
    have hlen := bulk_len ((List.range n).map D)
    rw [List.length_map, List.length_range] at hlen
    have hn : n ≤ 1048576 := by omega
    have hone : ∀ i, i < n → ∃ v0 v1, w.cell? (a.add (i * 2)) = some v0 ∧ w.cell? (a.add (i * 2 + 1)) = some v1 ∧ SB w (fun _ => True) v0 (readBytes w v0) ∧ SB w (fun _ => True) v1 (readBytes w v1) ∧ (readBytes w v0).length ≤ 1048576 ∧ (readBytes w v1).length ≤ 1048576 := by
      intro i hi
      obtain ⟨ys, k, hD, _, hyl, hf⟩ := hel i (by omega)
      obtain ⟨v0, y0, c0, e0, t0⟩ := hf 0 _ rfl
      obtain ⟨v1, y1, c1, e1, t1⟩ := hf 1 _ rfl
      obtain ⟨s0, b0⟩ := sb_of_trod t0
      obtain ⟨s1, b1⟩ := sb_of_trod t1
      have hDi : Rows.uptoBulk (D i) ≤ 1048576 := by
        have := bulk_part (d := D i) (l := (List.range n).map D) (List.mem_map.2 ⟨i, by simpa using hi, rfl⟩)
        omega
      rw [hD] at hDi
      simp only [Rows.uptoBulk] at hDi
      have p0 := bulk_part (d := y0.1) (l := ys.map (·.1)) (List.mem_map.2 ⟨y0, List.mem_of_getElem? e0, rfl⟩)
      have p1 := bulk_part (d := y1.1) (l := ys.map (·.1)) (List.mem_map.2 ⟨y1, List.mem_of_getElem? e1, rfl⟩)
      exact ⟨v0, v1, c0, c1, s0, s1, by omega, by omega⟩
    have hval : ∀ i, i < n → w.cell? (a.add (i * 2)) = some ((w.cell? (a.add (i * 2))).getD undef) ∧ w.cell? (a.add (i * 2 + 1)) = some ((w.cell? (a.add (i * 2 + 1))).getD undef) := by
      intro i hi
      obtain ⟨v0, v1, c0, c1, _⟩ := hone i hi
      rw [c0, c1]; exact ⟨rfl, rfl⟩
    let ve : Nat → Value := fun t => (w.cell? (a.add t)).getD undef
    have hve : ∀ i, i < n → SB w (fun _ => True) (ve (i * 2)) (readBytes w (ve (i * 2))) ∧ SB w (fun _ => True) (ve (i * 2 + 1)) (readBytes w (ve (i * 2 + 1))) ∧ (readBytes w (ve (i * 2))).length ≤ 1048576 ∧ (readBytes w (ve (i * 2 + 1))).length ≤ 1048576 := by
      intro i hi
      obtain ⟨v0, v1, c0, c1, s0, s1, b0, b1⟩ := hone i hi
      have e0 : ve (i * 2) = v0 := by show (w.cell? (a.add (i * 2))).getD undef = v0; rw [c0]; rfl
      have e1 : ve (i * 2 + 1) = v1 := by show (w.cell? (a.add (i * 2 + 1))).getD undef = v1; rw [c1]; rfl
      rw [e0, e1]; exact ⟨s0, s1, b0, b1⟩
    refine ⟨(List.range n).map fun i => (readBytes w (ve (i * 2)), readBytes w (ve (i * 2 + 1))), ⟨(by show n = _; simp), (List.range (n * 2)).map ve, ⟨by simp, fun h0 => ?_⟩, fun i e he => ?_⟩, hl, hm, hn, fun e he => ?_⟩
    · have ha := cell_bt (hval 0 h0).1
      refine ⟨a.block, a.off, by rw [← ha], trivial, fun j u hj => ?_⟩
      have hj2 : j < n * 2 := by have := (List.getElem?_eq_some_iff.1 hj).1; simpa using this
      rw [List.getElem?_map, List.getElem?_range hj2] at hj
      have hj : ve j = u := by simpa using hj
      have hc : w.cell? (a.add j) = some (ve j) := by
        rcases Nat.mod_two_eq_zero_or_one j with h2 | h2
        · have := (hval (j / 2) (by omega)).1
          rwa [show j / 2 * 2 = j by omega] at this
        · have := (hval (j / 2) (by omega)).2
          rwa [show j / 2 * 2 + 1 = j by omega] at this
      rw [ha, add_eq] at hc
      rw [hc, hj]
    · have hi : i < n := by have := (List.getElem?_eq_some_iff.1 he).1; simpa using this
      rw [List.getElem?_map, List.getElem?_range hi] at he
      have he : (readBytes w (ve (i * 2)), readBytes w (ve (i * 2 + 1))) = e := by simpa using he
      subst he
      obtain ⟨s0, s1, _⟩ := hve i hi
      refine ⟨_, _, ?_, ?_, s0, s1⟩
      · rw [List.getElem?_map, List.getElem?_range (by omega), show 2 * i = i * 2 by omega]; rfl
      · rw [List.getElem?_map, List.getElem?_range (by omega), show 2 * i + 1 = i * 2 + 1 by omega]; rfl
    · obtain ⟨i, hi, rfl⟩ := List.mem_map.1 he
      obtain ⟨_, _, b0, b1⟩ := hve i (by simpa using hi)
      exact ⟨b0, b1⟩
end
end Go.Proofs.Ytgjphmlmndcaeaa
