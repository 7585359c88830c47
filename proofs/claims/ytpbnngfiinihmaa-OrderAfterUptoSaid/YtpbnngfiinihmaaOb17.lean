/- WALKS: the statement OrderAfter. Entries that come in, opened to cells; what the bound says of them. Calls that come in, opened to cells; what the bound says of them. -/
import Derived.Test.YtpbnngfiinihmaaOb16
import Derived.Test.YtpbnngfiinihmaaRows
import Derived.Test.YtpbnngfiinihmaaOb04
import Derived.Deep.Slices
import Derived.Deep.Fields
import Derived.ChangeSame
import Derived.ChangeSlices
import Derived.RowKit
set_option linter.unusedVariables false
set_option linter.unusedSimpArgs false
namespace Go.Proofs.Ytpbnngfiinihmaa
open Go.RowKit
set_option maxRecDepth 100000 in
set_option maxHeartbeats 8000000 in
theorem afters_all (sA cA : Option Addr) (sn sc cn cc : Nat) (now : Int) (start : List Ent) (l : List CallD) (w : World) (hS : Ents w Any sA sn start) (hL : CallsM w Any cA cn l)
    (h1 : sn ≤ 1048576) (h2 : cn ≤ 1048576) (hsh : Short 1048576 start) :
    Calls Try.prog 5 #[.slice sA sn sc, .slice cA cn cc, .int .i64 now] w fun e w' => e = .returned (.bool true) ∧ Below w.heap.size w w' := by
  have HS := Lib.hid hS
  have HL := Lib.hid hL
  have HSH := Lib.hid hsh
  have HSB : Hid (Short 1152921504606 start) := Lib.hid (fun e he => ⟨Nat.le_trans (hsh e he).1 (by omega), Nat.le_trans (hsh e he).2 (by omega)⟩)
  obtain ⟨m, hm⟩ : ∃ m, m = afterE start l now := ⟨_, rfl⟩
  have HM := Lib.hid hm
  clear hS hL hsh hm
  go_enter Try.func5, Try.ntmps5
  go_upto_region 2 with (go_at_call 7; go_loud (refine (head_any w).mono ?_); rintro e w1 ⟨rfl, hb1⟩; have HB1 := Lib.hid hb1; clear hb1)
  go_upto_region 3 with (go_at_call 12; go_loud (refine (after_any sA cA sn sc cn cc now start l w1 (HS.out.below HB1.out) (HL.out.below HB1.out) h1 h2 HSH.out).mono ?_); rintro e w2 ⟨⟨aA, an, ac, us, rfl, han, hel, hb2⟩, hlen, hms⟩; rw [← HM.out] at han hel hlen hms; have HAN := Lib.hid han; have HEL := Lib.hid hel; have HMS := Lib.hid hms; have hanb : an ≤ 2097152 := (by omega); have HB2 := Lib.hid (HB1.out.trans (hb2.mono HB1.out.size)); have hsz2 := hb2.size; clear han hel hlen hms hb2)
  go_upto_region 4 with (go_at_call 13; go_loud (refine (rafter_any sA cA sn sc cn cc now start l w2 (HS.out.below HB2.out) (HL.out.below HB2.out) h1 h2 HSB.out).mono ?_); rintro e w3 ⟨bA, bn, bc, rfl, hbe, hb3⟩; rw [← HM.out] at hbe; have HBE := Lib.hid hbe; have hbn : bn ≤ 2097152 := (by have h := hbe.len; have h' := HAN.out; omega); have HEL3 := Lib.hid (HEL.out.below hb3); have HB3 := Lib.hid (HB2.out.trans (hb3.mono HB2.out.size)); have hsz3 := hb3.size; clear hbe hb3)
  go_upto_region 5 with (go_at_call 14; go_loud (refine (sameEntries_any aA bA an bn ac bc m m w3 ((HEL3.out.ents HAN.out).weak (fun _ _ => trivial)) HBE.out (by omega) (by omega)).mono ?_); rintro e w4 ⟨rfl, hb4⟩; rw [decide_eq_true rfl]; have HEL4 := Lib.hid (HEL3.out.below hb4); have HB4 := Lib.hid (HB3.out.trans (hb4.mono HB3.out.size)); have hsz4 := hb4.size; clear hb4)
  obtain ⟨g, hg, hev⟩ := Ev.of HEL4.out HAN.out HMS.out
  have HEV4 := Lib.hid hev
  have hanb6 : an ≤ 1152921504606 := by omega
  have hw1 : w.heap.size ≤ w1.heap.size := HB1.out.size
  clear hev hg
  go_wp2
  go_loopg [11] an (fun g' iv wz => ∃ i : Nat, g' = an - i ∧ i ≤ an ∧ iv = .int .i64 i ∧ Ev wz w1.heap.size g aA an us ∧ Chg (fun b => w1.heap.size ≤ b) w4 wz)
  case atStart => exact ⟨0, by omega, by omega, rfl, HEV4.out, Chg.refl _ _⟩
  case round =>
    obtain ⟨i, hg, hi, rfl, hev, hc⟩ := hrel
    have HG := Lib.hid hg
    have HEV := Lib.hid hev
    have HC := Lib.hid hc
    clear hg hev hc
    by_cases hlt : i < an
    · go_upto_region 9 with fail
      refine kl_loop w1.heap.size g an ac i aA us wr _ HEV hlt hanb6 ?_
      intro v33 v34 v35 v36 v37 v38 v39 v40 v41 v42 v43 v44 v45 v46 v47 v48 v49 v50 v51 v52 k1 w5 he5 hc5
      have HEV5 := Lib.hid he5
      have HC5 := Lib.hid (HC.out.trans hc5 (fun _ _ h => h))
      clear he5 hc5
      go_upto_region 13 with fail
      refine vl_loop w1.heap.size g an ac i aA us w5 _ HEV5 hlt hanb6 ?_
      intro v53 v54 v55 v56 v57 v58 v59 v60 v61 v62 v63 v64 v65 v66 v67 v68 v69 v70 v71 v72 k2 w6 he6 hc6
      have HEV6 := Lib.hid he6
      have HC6 := Lib.hid (HC5.out.trans hc6 (fun _ _ h => h))
      clear he6 hc6
      go_wp2
      go_roundg (an - (i + 1))
      case measure => have := HG.out; omega
      case rel => exact ⟨i + 1, rfl, by omega, by go_num, HEV6.out, HC6.out⟩
    · have HBW : Hid (Below w.heap.size w wr) := Lib.hid (HB4.out.trans (HC.out.below_of HB4.out.size (fun b hb h => by have h : w1.heap.size ≤ b := h; omega)))
      go_upto_region 17 with (go_at_call 12; go_loud (refine (after_any sA cA sn sc cn cc now start l wr (HS.out.below HBW.out) (HL.out.below HBW.out) h1 h2 HSH.out).mono ?_); rintro e w7 ⟨⟨dA, dn, dc, us7, rfl, hdn, hel7, hb7⟩, _, _⟩; rw [← HM.out] at hdn hel7; have HDN := Lib.hid hdn; have HEL7 := Lib.hid hel7; have HB7 := Lib.hid (HBW.out.trans (hb7.mono HBW.out.size)); have hsz7 := hb7.size; clear hdn hel7 hb7)
      have hdnb : dn ≤ 2097152 := by have h := HDN.out; have h' := HAN.out; omega
      go_wp2_with (first | (go_at_call 13; go_loud (refine (rafter_any sA cA sn sc cn cc now start l w7 (HS.out.below HB7.out) (HL.out.below HB7.out) h1 h2 HSB.out).mono ?_); rintro e w8 ⟨fA, fn, fc, rfl, hfe, hb8⟩; rw [← HM.out] at hfe; have HFE := Lib.hid hfe; have hfn : fn ≤ 2097152 := (by have h := hfe.len; have h' := HAN.out; omega); have HEL8 := Lib.hid (HEL7.out.below hb8); have HB8 := Lib.hid (HB7.out.trans (hb8.mono HB7.out.size)); clear hfe hb8) | (go_at_call 14; go_loud (refine (sameEntries_any dA fA dn fn dc fc m m w8 ((HEL8.out.ents HDN.out).weak (fun _ _ => trivial)) HFE.out (by omega) (by omega)).mono ?_); rintro e w9 ⟨rfl, hb9⟩; rw [decide_eq_true rfl]; have HB9 := Lib.hid (HB8.out.trans (hb9.mono HB8.out.size)); clear hb9))
      go_ret
      exact ⟨rfl, HB9.out⟩
end Go.Proofs.Ytpbnngfiinihmaa

namespace Go.Proofs.Ytpbnngfiinihmaa
open Go.ChangeShapes Go.WideShapes Go.Deep Go.RowKit
theorem bulk_one {H : Type} (d : DataW H) : 1 ≤ Rows.uptoBulk d := by
  cases d with
  | lit l => cases l <;> simp [Rows.uptoBulk]
  | _ => simp [Rows.uptoBulk]
theorem bulk_part {H : Type} {d : DataW H} {l : List (DataW H)} (h : d ∈ l) : Rows.uptoBulk d ≤ Rows.uptoBulkAll l := by
  induction l with
  | nil => cases h
  | cons x r ih =>
    simp only [Rows.uptoBulkAll]
    cases List.mem_cons.1 h with
    | inl e => subst e; omega
    | inr e => have := ih e; omega
theorem bulk_len {H : Type} (l : List (DataW H)) : l.length ≤ Rows.uptoBulkAll l := by
  induction l with
  | nil => simp [Rows.uptoBulkAll]
  | cons x r ih => have := bulk_one x; simp only [Rows.uptoBulkAll, List.length_cons]; omega
theorem bulk_slice {H : Type} (elems spare : List (DataW H)) : Rows.uptoBulkAll elems + 1 ≤ Rows.uptoBulk (.slice elems spare) := by
  simp only [Rows.uptoBulk]; omega

/-- the bytes that a slice's cells hold -/
def readBytes (w : World) : Value → List UInt8
  | .slice (some a) n _ => (List.range n).map fun j => match w.cell? (a.add j) with | some (.int _ z) => UInt8.ofNat z.toNat | _ => 0
  | _ => []
section
variable {H : Type} {enc : TypeId × Value → H} {w : World} {base : Nat} {spare : Nat → Bool} {held : Bool}
theorem cell_bt {a : Addr} {v : Value} (h : w.cell? (a.add 0) = some v) : a = ⟨a.block, a.off, none⟩ := by
  obtain ⟨b, o', s⟩ := a
  have hs : s = none := by simpa [Addr.add] using World.cell?_spot h
  subst hs
  rfl
theorem sb_of_trod {fuel : Nat} {v : Value} {y : DataW H × List MemPlace} (h : DataW.trod enc Try.prog w base spare held fuel 36 [v] = some y) : SB w (fun _ => True) v (readBytes w v) ∧ (readBytes w v).length + 1 ≤ Rows.uptoBulk y.1 := by
  rcases open_ints Try.underlying36 Try.underlying5 (by kernel_rfl) h with ⟨hcs, rfl⟩ | ⟨a, len, cap, zs, hcs, _, hl, hm, hz, rfl, hcell, hwz⟩
  · have hv : v = .slice none 0 0 := by simpa using hcs
    subst hv
    exact ⟨SB.nil _ _, by simp [readBytes, Rows.uptoBulk]⟩
  · have hv : v = .slice (some a) len cap := by simpa using hcs
    subst hv
    have hzl : len ≤ zs.length := by rw [hz]; split <;> omega
    have hrl : (readBytes w (.slice (some a) len cap)).length = len := by simp [readBytes]
    refine ⟨⟨some a, len, cap, rfl, hl, hm, hrl.symm, by rw [bvs_len, hrl, Nat.mul_one], fun hn => ?_⟩, ?_⟩
    · have ha := cell_bt (hcell 0 (by omega))
      refine ⟨a.block, a.off, by rw [← ha], trivial, fun j u hj => ?_⟩
      have hj' : j < len := by have := (List.getElem?_eq_some_iff.1 hj).1; rw [bvs_len, hrl] at this; exact this
      have hc := hcell j (by omega)
      have hz1 := hwz (zs.getD j 0) (by rw [List.getD_eq_getElem?_getD, List.getElem?_eq_getElem (by omega)]; exact List.getElem_mem (by omega))
      have hz2 : 0 ≤ zs.getD j 0 ∧ zs.getD j 0 ≤ 255 := by simpa [Lit.wf, IntKind.min, IntKind.max, IntKind.signed, IntKind.bits] using hz1
      simp only [bvs, readBytes, List.map_map, List.getElem?_map, List.getElem?_range hj', Option.map_some, Function.comp, hc] at hj
      injection hj with hj
      subst hj
      rw [ha, add_eq] at hc
      rw [hc]
      unfold bv
      congr 2
      rw [UInt8.toNat_ofNat']
      omega
    · rw [hrl]
      have h1 := bulk_slice (lits (H := H) IntKind.u8 (zs.take len)) (lits IntKind.u8 (zs.drop len))
      have h2 := bulk_len (lits (H := H) IntKind.u8 (zs.take len))
      have h3 : (lits (H := H) IntKind.u8 (zs.take len)).length = len := by simp [lits]; omega
      show len + 1 ≤ Rows.uptoBulk (.slice (lits IntKind.u8 (zs.take len)) (lits IntKind.u8 (zs.drop len)))
      omega
theorem open_slice_fields {P : Program} {t e : TypeId} {fs : Array Field} {fuel : Nat} {cs : List Value} {x : DataW H × List MemPlace} (ht : P.underlying t = some (.slice e)) (he : P.underlying e = some (.struct fs))
    (hone : oneCellFields P fs = true) (hC : P.cellsOf e = fs.size) (h : DataW.trod enc P w base spare held fuel t cs = some x) :
    (cs = [.slice none 0 0] ∧ x = (.nil, [])) ∨
    ∃ (a : Addr) (len cap m : Nat) (D : Nat → DataW H) (Pl : Nat → List MemPlace), cs = [.slice (some a) len cap] ∧ base ≤ a.block ∧ len ≤ cap ∧ cap ≤ maxLen ∧ m = (if spare a.block then cap else len) ∧
      x = (.slice ((List.range len).map D) ((List.range (m - len)).map fun j => D (len + j)), MemPlace.row a (m * fs.size) ++ (List.range m).flatMap Pl) ∧
      ∀ i, i < m → ∃ (ys : List (DataW H × List MemPlace)) (n : Nat), D i = .agg (ys.map (·.1)) ∧ Pl i = ys.flatMap (·.2) ∧ ys.length = fs.size ∧
        ∀ (j : Nat) (f : Field), fs[j]? = some f → ∃ (v : Value) (y : DataW H × List MemPlace), w.cell? (a.add (i * fs.size + j)) = some v ∧ ys[j]? = some y ∧ DataW.trod enc P w base spare held n f.type [v] = some y := by
  rcases open_slice ht h with h0 | ⟨a, len, cap, m, n, D, Pl, hcs, hb, hl, hm, hmm, hx, hi⟩
  · exact .inl h0
  · refine .inr ⟨a, len, cap, m, D, Pl, hcs, hb, hl, hm, hmm, by rw [hC] at hx; exact hx, fun i him => ?_⟩
    obtain ⟨cs', hc, ht'⟩ := hi i him
    rw [hC] at hc
    obtain ⟨ys, n', hn', hy, hlen, hyl, hf⟩ := DataW.trod_struct he ht'
    obtain ⟨_, hcl, hat⟩ := World.cells?_some hc
    simp only [Prod.mk.injEq] at hy
    refine ⟨ys, n', hy.1, hy.2, hyl, fun j f hj => ?_⟩
    obtain ⟨ho, hk⟩ := hone_of hone j f hj
    have hjl : j < fs.size := (Array.getElem?_eq_some_iff.1 hj).1
    have hcell := hat j hjl
    have hv : cs'[j]? = some (cs'[j]'(by omega)) := List.getElem?_eq_getElem (by omega)
    have h1 := hf j f hj
    rw [ho, hk] at h1
    have hone' : (cs'.drop j).take 1 = [cs'[j]'(by omega)] := by
      rw [List.drop_eq_getElem_cons (by omega)]
      rfl
    rw [hone'] at h1
    have hys : ys[j]? = some (ys[j]'(by omega)) := List.getElem?_eq_getElem (by omega)
    refine ⟨_, _, ?_, hys, h1.trans hys⟩
    rw [← Go.Deep.add_add, hcell, hv]

/-- the entry whose two slices lie at a place -/
def readEnt (w : World) (a : Addr) : Ent := (readBytes w ((w.cell? a).getD undef), readBytes w ((w.cell? (a.add 1)).getD undef))
theorem ents_of_trod {fuel : Nat} {A : Option Addr} {n c : Nat} {x : DataW H × List MemPlace} (h : DataW.trod enc Try.prog w base (fun _ => true) held fuel 27 [.slice A n c] = some x) (hb : Rows.uptoBulk x.1 ≤ 1048576) :
    ∃ l : List Ent, Ents w (fun _ => True) A n l ∧ n ≤ c ∧ c ≤ maxLen ∧ n ≤ 1048576 ∧ ∀ e ∈ l, e.1.length ≤ 1048576 ∧ e.2.length ≤ 1048576 := by
  rcases open_slice_fields Try.underlying27 Try.underlying38 (by kernel_rfl) (by kernel_rfl) h with ⟨hcs, rfl⟩ | ⟨a, len, cap, m, D, Pl, hcs, _, hl, hm, hmm, rfl, hel⟩
  · simp only [List.cons.injEq, Value.slice.injEq, and_true] at hcs
    obtain ⟨rfl, rfl, rfl⟩ := hcs
    exact ⟨[], Ents.nil _ _ _, Nat.le_refl _, by simp [maxLen], by omega, by simp⟩
  · simp only [List.cons.injEq, Value.slice.injEq, and_true] at hcs
    obtain ⟨rfl, rfl, rfl⟩ := hcs
    have hmn : n ≤ m := by rw [hmm]; split <;> omega
    have hb : Rows.uptoBulk (.slice ((List.range n).map D) ((List.range (m - n)).map fun j => D (n + j))) ≤ 1048576 := hb
    have hbs := bulk_slice ((List.range n).map D) ((List.range (m - n)).map fun j => D (n + j))
    have hlen := bulk_len ((List.range n).map D)
    rw [List.length_map, List.length_range] at hlen
    have hn : n ≤ 1048576 := by omega
    have hone : ∀ i, i < n → ∃ v0 v1, w.cell? (a.add (i * 2)) = some v0 ∧ w.cell? (a.add (i * 2 + 1)) = some v1 ∧ SB w (fun _ => True) v0 (readBytes w v0) ∧ SB w (fun _ => True) v1 (readBytes w v1) ∧ (readBytes w v0).length ≤ 1048576 ∧ (readBytes w v1).length ≤ 1048576 := by
      intro i hi
      obtain ⟨ys, k, hD, _, hyl, hf⟩ := hel i (by omega)
      obtain ⟨v0, y0, c0, e0, t0⟩ := hf 0 _ rfl
      obtain ⟨v1, y1, c1, e1, t1⟩ := hf 1 _ rfl
      obtain ⟨s0, b0⟩ := sb_of_trod t0
      obtain ⟨s1, b1⟩ := sb_of_trod t1
      have hDi : Rows.uptoBulk (D i) ≤ 1048576 := by
        have := bulk_part (d := D i) (l := (List.range n).map D) (List.mem_map.2 ⟨i, by simpa using hi, rfl⟩)
        omega
      rw [hD] at hDi
      simp only [Rows.uptoBulk] at hDi
      have p0 := bulk_part (d := y0.1) (l := ys.map (·.1)) (List.mem_map.2 ⟨y0, List.mem_of_getElem? e0, rfl⟩)
      have p1 := bulk_part (d := y1.1) (l := ys.map (·.1)) (List.mem_map.2 ⟨y1, List.mem_of_getElem? e1, rfl⟩)
      exact ⟨v0, v1, c0, c1, s0, s1, by omega, by omega⟩
    have hval : ∀ i, i < n → w.cell? (a.add (i * 2)) = some ((w.cell? (a.add (i * 2))).getD undef) ∧ w.cell? (a.add (i * 2 + 1)) = some ((w.cell? (a.add (i * 2 + 1))).getD undef) := by
      intro i hi
      obtain ⟨v0, v1, c0, c1, _⟩ := hone i hi
      rw [c0, c1]; exact ⟨rfl, rfl⟩
    let ve : Nat → Value := fun t => (w.cell? (a.add t)).getD undef
    have hve : ∀ i, i < n → SB w (fun _ => True) (ve (i * 2)) (readBytes w (ve (i * 2))) ∧ SB w (fun _ => True) (ve (i * 2 + 1)) (readBytes w (ve (i * 2 + 1))) ∧ (readBytes w (ve (i * 2))).length ≤ 1048576 ∧ (readBytes w (ve (i * 2 + 1))).length ≤ 1048576 := by
      intro i hi
      obtain ⟨v0, v1, c0, c1, s0, s1, b0, b1⟩ := hone i hi
      have e0 : ve (i * 2) = v0 := by show (w.cell? (a.add (i * 2))).getD undef = v0; rw [c0]; rfl
      have e1 : ve (i * 2 + 1) = v1 := by show (w.cell? (a.add (i * 2 + 1))).getD undef = v1; rw [c1]; rfl
      rw [e0, e1]; exact ⟨s0, s1, b0, b1⟩
    refine ⟨(List.range n).map fun i => (readBytes w (ve (i * 2)), readBytes w (ve (i * 2 + 1))), ⟨(by show n = _; simp), (List.range (n * 2)).map ve, ⟨by simp, fun h0 => ?_⟩, fun i e he => ?_⟩, hl, hm, hn, fun e he => ?_⟩
    · have ha := cell_bt (hval 0 h0).1
      refine ⟨a.block, a.off, by rw [← ha], trivial, fun j u hj => ?_⟩
      have hj2 : j < n * 2 := by have := (List.getElem?_eq_some_iff.1 hj).1; simpa using this
      rw [List.getElem?_map, List.getElem?_range hj2] at hj
      have hj : ve j = u := by simpa using hj
      have hc : w.cell? (a.add j) = some (ve j) := by
        rcases Nat.mod_two_eq_zero_or_one j with h2 | h2
        · have := (hval (j / 2) (by omega)).1
          rwa [show j / 2 * 2 = j by omega] at this
        · have := (hval (j / 2) (by omega)).2
          rwa [show j / 2 * 2 + 1 = j by omega] at this
      rw [ha, add_eq] at hc
      rw [hc, hj]
    · have hi : i < n := by have := (List.getElem?_eq_some_iff.1 he).1; simpa using this
      rw [List.getElem?_map, List.getElem?_range hi] at he
      have he : (readBytes w (ve (i * 2)), readBytes w (ve (i * 2 + 1))) = e := by simpa using he
      subst he
      obtain ⟨s0, s1, _⟩ := hve i hi
      refine ⟨_, _, ?_, ?_, s0, s1⟩
      · rw [List.getElem?_map, List.getElem?_range (by omega), show 2 * i = i * 2 by omega]; rfl
      · rw [List.getElem?_map, List.getElem?_range (by omega), show 2 * i + 1 = i * 2 + 1 by omega]; rfl
    · obtain ⟨i, hi, rfl⟩ := List.mem_map.1 he
      obtain ⟨_, _, b0, b1⟩ := hve i (by simpa using hi)
      exact ⟨b0, b1⟩
end
end Go.Proofs.Ytpbnngfiinihmaa

namespace Go.Proofs.Ytpbnngfiinihmaa
open Go.ChangeShapes Go.WideShapes Go.Deep Go.RowKit
theorem list17 {α : Type} {l : List α} (h : l.length = 17) : ∃ a b c d e f g i j k m n o p q r s, l = [a, b, c, d, e, f, g, i, j, k, m, n, o, p, q, r, s] := by
  match l, h with
  | [a, b, c, d, e, f, g, i, j, k, m, n, o, p, q, r, s], _ => exact ⟨a, b, c, d, e, f, g, i, j, k, m, n, o, p, q, r, s, rfl⟩
theorem list11 {α : Type} {l : List α} (h : l.length = 11) : ∃ a b c d e f g i j k m, l = [a, b, c, d, e, f, g, i, j, k, m] := by
  match l, h with
  | [a, b, c, d, e, f, g, i, j, k, m], _ => exact ⟨a, b, c, d, e, f, g, i, j, k, m, rfl⟩
theorem list7 {α : Type} {l : List α} (h : l.length = 7) : ∃ a b c d e f g, l = [a, b, c, d, e, f, g] := by
  match l, h with
  | [a, b, c, d, e, f, g], _ => exact ⟨a, b, c, d, e, f, g, rfl⟩
section
variable {H : Type} {enc : TypeId × Value → H} {w : World} {base : Nat} {held : Bool}
theorem int_of_trod {t : TypeId} (ht : Try.prog.underlying t = some (.int .i64)) {fuel : Nat} {v : Value} {y : DataW H × List MemPlace} (h : DataW.trod enc Try.prog w base (fun _ => true) held fuel t [v] = some y) : ∃ z, v = .int .i64 z := by
  obtain ⟨z, hz, _⟩ := DataW.trod_int ht h
  exact ⟨z, by simpa using hz⟩
theorem bool_of_trod {fuel : Nat} {v : Value} {y : DataW H × List MemPlace} (h : DataW.trod enc Try.prog w base (fun _ => true) held fuel 4 [v] = some y) : ∃ z, v = .bool z := by
  obtain ⟨z, hz, _⟩ := DataW.trod_bool Try.underlying4 h
  exact ⟨z, by simpa using hz⟩
theorem slice_of_trod {t e : TypeId} (ht : Try.prog.underlying t = some (.slice e)) {fuel : Nat} {v : Value} {y : DataW H × List MemPlace} (h : DataW.trod enc Try.prog w base (fun _ => true) held fuel t [v] = some y) : ∃ A n c, v = .slice A n c := by
  rcases open_slice ht h with ⟨hcs, _⟩ | ⟨a, len, cap, m, k, D, Pl, hcs, _⟩
  · exact ⟨_, _, _, by simpa using hcs⟩
  · exact ⟨_, _, _, by simpa using hcs⟩
theorem call_of_trod {fuel : Nat} {cs : List Value} {y : DataW H × List MemPlace} (h : DataW.trod enc Try.prog w base (fun _ => true) held fuel 48 cs = some y) :
    ∃ c x, cs = (callCs c x).toList ∧ CallW w (fun _ => True) c x ∧ c.key.length ≤ Rows.uptoBulk y.1 := by
  obtain ⟨ys, n, _, hy, hl, hyl, hf⟩ := DataW.trod_struct Try.underlying48 h
  rw [show Try.prog.cellsOf 48 = 17 from by kernel_rfl] at hl
  obtain ⟨c0, c1, c2, c3, c4, c5, c6, c7, c8, c9, c10, c11, c12, c13, c14, c15, c16, rfl⟩ := list17 hl
  obtain ⟨y0, y1, y2, y3, y4, y5, y6, y7, y8, y9, y10, rfl⟩ := list11 hyl
  have t0 : DataW.trod enc Try.prog w base (fun _ => true) held n 3 (List.take (Try.prog.cellsOf 3) [c0, c1, c2, c3, c4, c5, c6, c7, c8, c9, c10, c11, c12, c13, c14, c15, c16]) = some y0 := hf 0 _ rfl
  have t1 : DataW.trod enc Try.prog w base (fun _ => true) held n 3 (List.take (Try.prog.cellsOf 3) [c1, c2, c3, c4, c5, c6, c7, c8, c9, c10, c11, c12, c13, c14, c15, c16]) = some y1 := hf 1 _ rfl
  have t2 : DataW.trod enc Try.prog w base (fun _ => true) held n 46 (List.take (Try.prog.cellsOf 46) [c2, c3, c4, c5, c6, c7, c8, c9, c10, c11, c12, c13, c14, c15, c16]) = some y2 := hf 2 _ rfl
  have t3 : DataW.trod enc Try.prog w base (fun _ => true) held n 3 (List.take (Try.prog.cellsOf 3) [c9, c10, c11, c12, c13, c14, c15, c16]) = some y3 := hf 3 _ rfl
  have t4 : DataW.trod enc Try.prog w base (fun _ => true) held n 3 (List.take (Try.prog.cellsOf 3) [c10, c11, c12, c13, c14, c15, c16]) = some y4 := hf 4 _ rfl
  have t5 : DataW.trod enc Try.prog w base (fun _ => true) held n 3 (List.take (Try.prog.cellsOf 3) [c11, c12, c13, c14, c15, c16]) = some y5 := hf 5 _ rfl
  have t6 : DataW.trod enc Try.prog w base (fun _ => true) held n 4 (List.take (Try.prog.cellsOf 4) [c12, c13, c14, c15, c16]) = some y6 := hf 6 _ rfl
  have t7 : DataW.trod enc Try.prog w base (fun _ => true) held n 30 (List.take (Try.prog.cellsOf 30) [c13, c14, c15, c16]) = some y7 := hf 7 _ rfl
  have t8 : DataW.trod enc Try.prog w base (fun _ => true) held n 4 (List.take (Try.prog.cellsOf 4) [c14, c15, c16]) = some y8 := hf 8 _ rfl
  have t9 : DataW.trod enc Try.prog w base (fun _ => true) held n 36 (List.take (Try.prog.cellsOf 36) [c15, c16]) = some y9 := hf 9 _ rfl
  have t10 : DataW.trod enc Try.prog w base (fun _ => true) held n 27 (List.take (Try.prog.cellsOf 27) [c16]) = some y10 := hf 10 _ rfl
  rw [show Try.prog.cellsOf 3 = 1 from by kernel_rfl] at t0 t1 t3 t4 t5
  rw [show Try.prog.cellsOf 4 = 1 from by kernel_rfl] at t6 t8
  rw [show Try.prog.cellsOf 30 = 1 from by kernel_rfl] at t7
  rw [show Try.prog.cellsOf 36 = 1 from by kernel_rfl] at t9
  rw [show Try.prog.cellsOf 27 = 1 from by kernel_rfl] at t10
  rw [show Try.prog.cellsOf 46 = 7 from by kernel_rfl] at t2
  obtain ⟨cl, rfl⟩ := int_of_trod Try.underlying3 t0
  obtain ⟨nu, rfl⟩ := int_of_trod Try.underlying3 t1
  obtain ⟨fst, rfl⟩ := int_of_trod Try.underlying3 t3
  obtain ⟨lst, rfl⟩ := int_of_trod Try.underlying3 t4
  obtain ⟨pt, rfl⟩ := int_of_trod Try.underlying3 t5
  obtain ⟨dn, rfl⟩ := bool_of_trod t6
  obtain ⟨er, rfl⟩ := int_of_trod Try.underlying30 t7
  obtain ⟨th, rfl⟩ := bool_of_trod t8
  obtain ⟨s9, b9⟩ := sb_of_trod (show DataW.trod enc Try.prog w base (fun _ => true) held n 36 [c15] = some y9 from t9)
  obtain ⟨eA, en, ec, rfl⟩ := slice_of_trod Try.underlying27 t10
  obtain ⟨zs, m, _, hz, _, hzl, hg⟩ := DataW.trod_struct Try.underlying46 t2
  obtain ⟨z0, z1, z2, z3, z4, z5, z6, rfl⟩ := list7 hzl
  have u0 : DataW.trod enc Try.prog w base (fun _ => true) held m 44 (List.take (Try.prog.cellsOf 44) [c2, c3, c4, c5, c6, c7, c8]) = some z0 := hg 0 _ rfl
  have u1 : DataW.trod enc Try.prog w base (fun _ => true) held m 36 (List.take (Try.prog.cellsOf 36) [c3, c4, c5, c6, c7, c8]) = some z1 := hg 1 _ rfl
  have u2 : DataW.trod enc Try.prog w base (fun _ => true) held m 36 (List.take (Try.prog.cellsOf 36) [c4, c5, c6, c7, c8]) = some z2 := hg 2 _ rfl
  have u3 : DataW.trod enc Try.prog w base (fun _ => true) held m 36 (List.take (Try.prog.cellsOf 36) [c5, c6, c7, c8]) = some z3 := hg 3 _ rfl
  have u4 : DataW.trod enc Try.prog w base (fun _ => true) held m 3 (List.take (Try.prog.cellsOf 3) [c6, c7, c8]) = some z4 := hg 4 _ rfl
  have u5 : DataW.trod enc Try.prog w base (fun _ => true) held m 24 (List.take (Try.prog.cellsOf 24) [c7, c8]) = some z5 := hg 5 _ rfl
  have u6 : DataW.trod enc Try.prog w base (fun _ => true) held m 3 (List.take (Try.prog.cellsOf 3) [c8]) = some z6 := hg 6 _ rfl
  rw [show Try.prog.cellsOf 44 = 1 from by kernel_rfl] at u0
  rw [show Try.prog.cellsOf 36 = 1 from by kernel_rfl] at u1 u2 u3
  rw [show Try.prog.cellsOf 3 = 1 from by kernel_rfl] at u4 u6
  rw [show Try.prog.cellsOf 24 = 1 from by kernel_rfl] at u5
  obtain ⟨kd, rfl⟩ := int_of_trod Try.underlying44 u0
  obtain ⟨s1, b1⟩ := sb_of_trod (show DataW.trod enc Try.prog w base (fun _ => true) held m 36 [c3] = some z1 from u1)
  obtain ⟨s2, b2⟩ := sb_of_trod (show DataW.trod enc Try.prog w base (fun _ => true) held m 36 [c4] = some z2 from u2)
  obtain ⟨hA, hn, hc, rfl⟩ := slice_of_trod Try.underlying36 (show DataW.trod enc Try.prog w base (fun _ => true) held m 36 [c5] = some z3 from u3)
  obtain ⟨mo, rfl⟩ := int_of_trod Try.underlying3 u4
  obtain ⟨tA, tn, tc, rfl⟩ := slice_of_trod Try.underlying24 (show DataW.trod enc Try.prog w base (fun _ => true) held m 24 [c7] = some z5 from u5)
  obtain ⟨fa, rfl⟩ := int_of_trod Try.underlying3 u6
  obtain ⟨kA, kn, kc, rfl, k1, k2, k3, k4⟩ := s1
  obtain ⟨vA, vn, vc, rfl, v1, v2, v3, v4⟩ := s2
  obtain ⟨aA, an, ac, rfl, a1, a2, a3, a4⟩ := s9
  refine ⟨⟨cl, kd, _, _, fst, lst, pt, dn, er, th, _⟩, ⟨nu, mo, fa, kA, kn, kc, vA, vn, vc, hA, hn, hc, tA, tn, tc, aA, an, ac, eA, en, ec⟩, rfl, ⟨k1, k2, k3, k4, v1, v2, v3, v4, a1, a2, a3, a4⟩, ?_⟩
  rw [hz] at hy
  subst hy
  show (readBytes w (.slice kA kn kc)).length ≤ _
  simp only [List.map, Rows.uptoBulk, Rows.uptoBulkAll]
  omega
theorem calls_of_trod {fuel : Nat} {A : Option Addr} {n c : Nat} {x : DataW H × List MemPlace} (h : DataW.trod enc Try.prog w base (fun _ => true) held fuel 22 [.slice A n c] = some x) (hb : Rows.uptoBulk x.1 ≤ 1048576) :
    ∃ l : List CallD, CallsM w (fun _ => True) A n l ∧ n ≤ c ∧ n ≤ 1048576 ∧ ∀ e ∈ l, e.key.length ≤ 1048576 := by
  rcases open_slice Try.underlying22 h with ⟨hcs, rfl⟩ | ⟨a, len, cap, m, k, D, Pl, hcs, _, hl, hm, hmm, rfl, hel⟩
  · simp only [List.cons.injEq, Value.slice.injEq, and_true] at hcs
    obtain ⟨rfl, rfl, rfl⟩ := hcs
    exact ⟨[], CallsM.nil _ _ _, Nat.le_refl _, by omega, by simp⟩
  · simp only [List.cons.injEq, Value.slice.injEq, and_true] at hcs
    obtain ⟨rfl, rfl, rfl⟩ := hcs
    rw [show Try.prog.cellsOf 48 = 17 from by kernel_rfl] at hel
    have hmn : n ≤ m := by rw [hmm]; split <;> omega
    have hb : Rows.uptoBulk (.slice ((List.range n).map D) ((List.range (m - n)).map fun j => D (n + j))) ≤ 1048576 := hb
    have hbs := bulk_slice ((List.range n).map D) ((List.range (m - n)).map fun j => D (n + j))
    have hlen := bulk_len ((List.range n).map D)
    rw [List.length_map, List.length_range] at hlen
    have hn : n ≤ 1048576 := by omega
    have hone : ∀ i : Nat, ∃ p : CallD × CallX, i < n → CallW w (fun _ => True) p.1 p.2 ∧ (∀ j v, (callCs p.1 p.2)[j]? = some v → w.cell? (a.add (i * 17 + j)) = some v) ∧ p.1.key.length ≤ 1048576 := by
      intro i
      by_cases hi : i < n
      · obtain ⟨cs', hc, ht⟩ := hel i (by omega)
        obtain ⟨c0, x0, rfl, hw, hk⟩ := call_of_trod ht
        have hDi : Rows.uptoBulk (D i) ≤ 1048576 := by
          have := bulk_part (d := D i) (l := (List.range n).map D) (List.mem_map.2 ⟨i, by simpa using hi, rfl⟩)
          omega
        obtain ⟨_, _, hat⟩ := World.cells?_some hc
        refine ⟨(c0, x0), fun _ => ⟨hw, fun j v hj => ?_, Nat.le_trans hk hDi⟩⟩
        have hj17 : j < 17 := by have := (Array.getElem?_eq_some_iff.1 hj).1; simpa using this
        have := hat (i := j) hj17
        rw [← Go.Deep.add_add, this]
        simpa using hj
      · exact ⟨(⟨0, 0, [], [], 0, 0, 0, false, 0, false, []⟩, ⟨0, 0, 0, none, 0, 0, none, 0, 0, none, 0, 0, none, 0, 0, none, 0, 0, none, 0, 0⟩), fun h => absurd h hi⟩
    obtain ⟨f, hf⟩ := Classical.axiomOfChoice hone
    refine ⟨(List.range n).map (fun i => (f i).1), ⟨(by show n = _; simp), fun i => (f i).2, fun i e he => ?_⟩, hl, hn, fun e he => ?_⟩
    · have hi : i < n := by have := (List.getElem?_eq_some_iff.1 he).1; simpa using this
      rw [List.getElem?_map, List.getElem?_range hi] at he
      have he : (f i).1 = e := by simpa using he
      subst he
      obtain ⟨hw, hc, _⟩ := hf i hi
      have hsp : a = ⟨a.block, a.off, none⟩ := cell_bt ((hf 0 (by omega)).2.1 0 _ rfl)
      have hcell : ∀ j v, (callCs (f i).1 (f i).2)[j]? = some v → w.cell? ⟨a.block, a.off + (i * 17 + j), none⟩ = some v := fun j v hj => by
        have := hc j v hj
        rw [hsp, add_eq] at this
        exact this
      refine ⟨hw, a.block, a.off, by rw [← hsp], trivial, ?_⟩
      simp only [← Nat.add_assoc] at hcell
      exact ⟨hcell 0 _ rfl, hcell 1 _ rfl, hcell 2 _ rfl, hcell 3 _ rfl, hcell 4 _ rfl, hcell 5 _ rfl, hcell 6 _ rfl, hcell 7 _ rfl, hcell 8 _ rfl, hcell 9 _ rfl, hcell 10 _ rfl, hcell 11 _ rfl, hcell 12 _ rfl, hcell 13 _ rfl, hcell 14 _ rfl, hcell 15 _ rfl, hcell 16 _ rfl⟩
    · obtain ⟨i, hi, rfl⟩ := List.mem_map.1 he
      exact (hf i (by simpa using hi)).2.2
end
end Go.Proofs.Ytpbnngfiinihmaa
