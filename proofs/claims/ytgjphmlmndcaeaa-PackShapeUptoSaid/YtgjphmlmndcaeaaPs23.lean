/- WALKS: is the program there? WALKS: the statement PackShape. Entries that come in, opened to cells; what the bound says of them. A struct of five one-cell fields by value, opened field by field (a block of the guide's page, copied as it says). -/
import Derived.Test.YtgjphmlmndcaeaaPs02
import Derived.Test.YtgjphmlmndcaeaaPs22
import Derived.Test.YtgjphmlmndcaeaaRows
import Derived.Test.YtgjphmlmndcaeaaPs07
import Derived.Deep.Slices
import Derived.Deep.Fields
import Derived.ChangeSame
import Derived.ChangeSlices
import Derived.RowKit
import Derived.Lib.SmallJoins
import Derived.WideShapes
set_option linter.unusedVariables false
set_option linter.unusedSimpArgs false
namespace Go.Proofs.Ytgjphmlmndcaeaa
open Go.RowKit
theorem lives_any (w : World) : Calls Try.prog 7 #[] w fun e w' => e = .returned (.bool true) ∧ Below w.heap.size w w' := by
  have hv : nodesOf 9 4 3 2 1 6 = (4, 0) := by decide
  have HV := Lib.hid hv
  clear hv
  go_enter Try.func7, Try.ntmps7
  go_wp2_with (go_at_call 8; refine (nodes_ok 9 4 3 2 1 6 _ (by decide) (by decide) (by decide)).mono ?_; rintro e w' ⟨rfl, hb⟩; rw [HV.out]; simp only [nodesV])
  go_ret
  exact ⟨rfl, hb⟩
end Go.Proofs.Ytgjphmlmndcaeaa

namespace Go.Proofs.Ytgjphmlmndcaeaa
open Go.RowKit Go.Maps
set_option maxRecDepth 100000 in
set_option maxHeartbeats 4000000 in
theorem shape_any (a b c d f : Int) (ha : I64 a) (hb : I64 b) (hc : I64 c) (hd : I64 d) (hf : I64 f) (A : Option Addr) (n cp : Nat) (F : Nat → Prop) (l : List Ent) (w : World) (hE : Ents w F A n l) (hnc : n ≤ cp) (hcm : cp ≤ maxLen) (hn : n ≤ 1048576) (hsm : ∀ e ∈ l, e.1.length ≤ 1048576 ∧ e.2.length ≤ 1048576) :
    Calls Try.prog 6 #[.agg #[.int .i64 a, .int .i64 b, .int .i64 c, .int .i64 d, .int .i64 f], .slice A n cp] w fun e w' => e = .returned (.bool true) ∧ Below w.heap.size w w' := by
  have p1 := pick_lt (c := a) (n := 60) (by omega)
  have p2 := pick_lt (c := b) (n := 5) (by omega)
  have p3 := pick_lt (c := c) (n := 4) (by omega)
  have p4 := pick_lt (c := d) (n := 2) (by omega)
  have p5 := pick_lt (c := f) (n := 8) (by omega)
  obtain ⟨nd, h1⟩ : ∃ y, 1 + pick a 60 = y := ⟨_, rfl⟩
  obtain ⟨lf, h2⟩ : ∃ y, 2 + pick b 5 = y := ⟨_, rfl⟩
  obtain ⟨inn, h3⟩ : ∃ y : Nat, 3 + pick c 4 = (y : Int) := ⟨(3 + pick c 4).toNat, by omega⟩
  obtain ⟨fill, h4⟩ : ∃ y : Nat, 1 + pick d 2 = (y : Int) := ⟨(1 + pick d 2).toNat, by omega⟩
  obtain ⟨bl, h5⟩ : ∃ y, 1 + pick f 8 = y := ⟨_, rfl⟩
  have hcf : cfgOk nd lf inn fill bl := by unfold cfgOk; omega
  have hnd : 1 ≤ nd ∧ nd ≤ 60 := by omega
  have hfl : 1 ≤ fill ∧ fill ≤ 2 := by omega
  have hlf6 : lf ≤ 6 := by omega
  have HN1 := Lib.hid h1; have HN2 := Lib.hid h2; have HN3 := Lib.hid h3; have HN4 := Lib.hid h4; have HN5 := Lib.hid h5
  have HCF := Lib.hid hcf
  have HA := Lib.hid ha; have HBB := Lib.hid hb; have HCC := Lib.hid hc; have HD := Lib.hid hd; have HF := Lib.hid hf
  have HE := Lib.hid hE.lt
  have hl := hE.len
  have HL := Lib.hid hl
  have HS : Hid (∀ e ∈ l, e.1.length ≤ 1152921504606 ∧ e.2.length ≤ 1152921504606) := Lib.hid (fun e he => ⟨Nat.le_trans (hsm e he).1 (by decide), Nat.le_trans (hsm e he).2 (by decide)⟩)
  have hn' : n ≤ 1152921504606 := by omega
  obtain ⟨E2, hE2⟩ : ∃ x, (sortedOf l).2 = x := ⟨_, rfl⟩
  have HE2 := Lib.hid hE2
  clear p1 p2 p3 p4 p5 h1 h2 h3 h4 h5 hcf ha hb hc hd hf hE hl hsm hE2
  by_cases hs : E2 = 0
  · have HSZ : Hid (sortedOf l = (0, 0)) := Lib.hid (by rw [sorted_ok ((sorted_iff l).1 (by rw [HE2.out, hs]))])
    clear hs
    go_enter Try.func6, Try.ntmps6
    go_upto_region 6 with (first | (go_at_call 7; refine (lives_any _).mono ?_; rintro e w1 ⟨rfl, hb1⟩; have HB1 : Hid (Below w.heap.size w w1) := Lib.hid (((Below.refl _ _).alloc (Nat.le_refl _) _).trans (hb1.mono (by simp))); have HK1 := Lib.hid ((Blk.new w 23 #[.int .i64 a, .int .i64 b, .int .i64 c, .int .i64 d, .int .i64 f]).below hb1); obtain ⟨z0, z1, z2, z3, z4⟩ := cf_of HK1.out; clear hb1) | (go_at_call 22; refine (fit_any a b c d f HA.out HBB.out HCC.out HD.out HF.out _).mono ?_; rintro e w2 ⟨rfl, hb2⟩; rw [HN1.out, HN2.out, HN3.out, HN4.out, HN5.out]; have HB2 : Hid (Below w.heap.size w (w2.alloc (.cells #[.int .i64 nd, .int .i64 lf, .int .i64 inn, .int .i64 fill, .int .i64 bl] 23))) := Lib.hid ((HB1.out.trans (hb2.mono HB1.out.size)).alloc (Nat.le_trans HB1.out.size hb2.size) _); have HK2 := Lib.hid (Blk.new w2 23 #[.int .i64 nd, .int .i64 lf, .int .i64 inn, .int .i64 fill, .int .i64 bl]); have hw2 : w.heap.size < w2.heap.size := Nat.lt_of_lt_of_le HK1.out.lt hb2.size; clear hb2 z0 z1 z2 z3 z4) | (go_at_call 23; go_loud (refine (rsorted_any A n cp _ l _ (HE.out.below HB2.out) hn' (fun i e he => (HS.out e (List.mem_of_getElem? he)).1)).mono ?_); rintro e w3 ⟨rfl, hb3⟩; rw [HSZ.out]; have HB3 : Hid (Below w.heap.size w w3) := Lib.hid (HB2.out.trans (hb3.mono HB2.out.size)); have HK3 := Lib.hid (HK2.out.below hb3); clear hb3))
    have hn0 : ¬ (n : Int) < 0 := by omega
    obtain ⟨E3, hE3⟩ : ∃ x, (nodesOf nd lf inn fill bl n).2 = x := ⟨_, rfl⟩
    obtain ⟨E4, hE4⟩ : ∃ x, (nodesOf nd lf inn fill bl n).1 = x := ⟨_, rfl⟩
    have HE3 := Lib.hid hE3
    have HE4 := Lib.hid hE4
    have HBE : Hid (buildE nd lf inn fill bl l = (E3, 0)) := Lib.hid (by
      unfold buildE
      rw [if_neg (by simpa using HCF.out), if_neg (by rw [HSZ.out]; simp), ← HL.out, hE3])
    have HNO : Hid (nodesV (nodesOf nd lf inn fill bl n) = .tuple #[.int .i64 E4, .int .i64 E3]) := Lib.hid (by unfold nodesV; rw [hE3, hE4])
    have hcase : E3 = 0 ∨ E3 = 2 := by rw [← hE3]; exact nodesOf_cases HCF.out hn0
    clear hE3 hE4 hn0
    obtain ⟨y0, y1, y2, y3, y4⟩ := cf_of HK3.out
    go_upto_region 8 with (first | (go_at_call 20; go_loud (refine (pbuild_any nd lf inn fill bl A n cp _ l _ (HE.out.below HB3.out) hnc hcm hn' HS.out).mono ?_); rw [HBE.out]; rintro e w4 ⟨pv, rfl, hb4, hq4⟩; have HQ4 := Lib.hid hq4; have HB4 : Hid (Below w.heap.size w w4) := Lib.hid (HB3.out.trans (hb4.mono HB3.out.size)); have HK4 := Lib.hid (HK3.out.below hb4); clear hb4 hq4 y0 y1 y2 y3 y4; obtain ⟨y0, y1, y2, y3, y4⟩ := cf_of HK4.out) | (go_at_call 8; go_loud (refine (nodes_ok nd lf inn fill bl n _ HCF.out (by omega) (by omega)).mono ?_); rintro e w5 ⟨rfl, hb5⟩; rw [HNO.out]; have HB5w := Lib.hid hb5; have HB5 : Hid (Below w.heap.size w w5) := Lib.hid (HB4.out.trans (hb5.mono HB4.out.size)); have HK5 := Lib.hid (HK4.out.below hb5); clear hb5))
    rcases hcase with h0 | h0
    · subst h0
      obtain ⟨p, rfl, hax⟩ := (HQ4.out.resolve_left (fun h => h.1 rfl)).2
      rw [Int.toNat_natCast, Int.toNat_natCast] at hax
      have hax5 := (hax.below HB5w.out).lt
      obtain ⟨L, ht, hlen, hnodes, hsz, hpk, hks, htop⟩ := tree_all (fill := fill) (inn := inn) (l := l) (nd := nd) (lf := lf) (bl := bl) HCF.out ((sorted_iff l).1 (by rw [HSZ.out])) (by rw [← HL.out]; exact HE3.out) HS.out
      have hE4n : E4 = ((treeOf fill inn l).1.length : Int) := by rw [← HE4.out, HL.out, hnodes, hlen]
      obtain ⟨sl, hsl⟩ : ∃ x, x = (treeOf fill inn l).1 := ⟨_, rfl⟩
      obtain ⟨root, hroot⟩ : ∃ x, x = (treeOf fill inn l).2 := ⟨_, rfl⟩
      rw [← hsl] at hax5 hlen hsz ht hE4n
      rw [← hroot] at hax5 ht
      have HAX := Lib.hid hax5
      have HT := Lib.hid ht
      have HPK := Lib.hid hpk
      have HKS := Lib.hid hks
      have HTOP := Lib.hid htop
      have HSZ5 := Lib.hid hsz
      have HLEN := Lib.hid hlen
      have HE4N := Lib.hid hE4n
      clear hax hax5 ht hpk hks htop hsz hlen hnodes hE4n hsl hroot HQ4
      have HDE : Hid (((dL fill inn l (L + 1) : Nat) : Int) = E4) := Lib.hid (by rw [HE4N.out, HLEN.out])
      obtain ⟨E, e1, e2, e3, e4⟩ : ∃ E : Nat → Nat, E 0 = 0 ∧ (∀ i, i < nL fill inn l 0 → E (i + 1) = E i + (sL fill inn l 0 i).2.keys.length) ∧ (∀ i, i ≤ nL fill inn l 0 → E i ≤ 1000000000) ∧ E (nL fill inn l 0) = n := by
        refine ⟨fun i => ((List.range i).map fun j => (lpart fill l j).length).sum, rfl, fun i _ => ?_, fun i _ => ?_, ?_⟩
        · show ((List.range (i + 1)).map fun j => (lpart fill l j).length).sum = _
          rw [List.range_succ, List.map_append, List.sum_append, leaf_keys, List.length_map]; simp
        · show ((List.range i).map fun j => (lpart fill l j).length).sum ≤ _
          rw [keys_sum]; have := HL.out; omega
        · show ((List.range (nL fill inn l 0)).map fun j => (lpart fill l j).length).sum = _
          rw [keys_sum, HL.out]; exact Nat.min_eq_right (pn_all (by omega))
      have HE1 := Lib.hid e1; have HE22 := Lib.hid e2; have HE33 := Lib.hid e3; have HE44 := Lib.hid e4
      have HML : Hid (((List.range (nL fill inn l 0)).flatMap fun i => entsOf (sL fill inn l 0 i).2) = l) := Lib.hid (by
        have e : (fun i => entsOf (sL fill inn l 0 i).2) = lpart fill l := by funext i; exact ents_leaf i
        rw [e]; exact leaf_entries (by omega))
      have HMB : Hid (∀ j, j ≤ nL fill inn l 0 → ((List.range j).flatMap fun i => entsOf (sL fill inn l 0 i).2).length ≤ 1000000000) := Lib.hid (fun j _ => by
        have e : (fun i => entsOf (sL fill inn l 0 i).2) = lpart fill l := by funext i; exact ents_leaf i
        rw [e, lparts, List.length_take]; have := HL.out; omega)
      have hee : (E4 == E4) = true := beq_self_eq_true _
      clear e1 e2 e3 e4
      obtain ⟨y0, y1, y2, y3, y4⟩ := cf_of HK5.out
      go_upto_region 13 with (go_at_call 24; go_loud (refine (shcheck_any _ p nd root sl nd lf fill bl inn L (nL fill inn l) (dL fill inn l) (fun k i => (sL fill inn l k i).2) E _ HAX.out HSZ5.out (fun b hb => hb.2) HCF.out HT.out HE1.out HE22.out HE33.out).mono ?_); rintro e w6 ⟨rfl, hb6⟩; rw [HE44.out, HDE.out]; have HB6w := Lib.hid hb6; have HK6 := Lib.hid (HK5.out.below hb6); clear hb6 y0 y1 y2 y3 y4)
      obtain ⟨w7, hw7⟩ : ∃ W, W = w6.alloc (.cells #[.bool true, .int .i64 0, .int .i64 0, .int .i64 ((L : Int) + 1), .int .i64 E4, .int .i64 n] 64) := ⟨_, rfl⟩
      rw [← hw7]
      obtain ⟨q, hq⟩ : ∃ Y, Y = w6.heap.size := ⟨_, rfl⟩
      rw [← hq]
      have hb67 : Below w6.heap.size w6 w7 := by rw [hw7]; exact (Below.refl _ _).alloc (Nat.le_refl _) _
      have HR7 : Hid (Blk w7 q 64 #[.bool true, .int .i64 0, .int .i64 0, .int .i64 ((L : Int) + 1), .int .i64 E4, .int .i64 n]) := Lib.hid (by rw [hw7, hq]; exact Blk.new _ _ _)
      have HB57 : Hid (Below w5.heap.size w5 w7) := Lib.hid (HB6w.out.trans (hb67.mono HB6w.out.size))
      have HK7 := Lib.hid (HK6.out.below hb67)
      obtain ⟨y0, y1, y2, y3, y4⟩ := cf_of HK7.out
      have h57 := HB57.out.size
      clear hw7 hq hb67 HK6 HB6w
      go_upto_region 15 with (first | (go_at_call 25; go_loud (refine (map_any _ p nd root sl nd lf inn L (nL fill inn l) (dL fill inn l) (fun k i => (sL fill inn l k i).2) _ (HAX.out.below HB57.out) HSZ5.out (fun b hb => Nat.lt_of_lt_of_le hb.2 h57) HT.out (by omega) HMB.out).mono ?_); rintro e w8 ⟨A8, n8, c8, rfl, he8, hb8⟩; have HE8 := Lib.hid he8; have HB58 : Hid (Below w5.heap.size w5 w8) := Lib.hid (HB57.out.trans (hb8.mono h57)); have HK8 := Lib.hid (HK7.out.below hb8); have HR8 := Lib.hid (HR7.out.below hb8); clear he8 hb8 y0 y1 y2 y3 y4; obtain ⟨y0, y1, y2, y3, y4⟩ := cf_of HK8.out; have h58 := HB58.out.size) | (go_at_call 26; go_loud (refine (packed_any _ p nd root sl nd lf bl inn fill L (nL fill inn l) (dL fill inn l) (fun k i => (sL fill inn l k i).2) _ (HAX.out.below HB58.out) HSZ5.out (fun b hb => Nat.lt_of_lt_of_le hb.2 h58) HCF.out HT.out HPK.out HKS.out HTOP.out).mono ?_); rintro e w9 ⟨rfl, hb9⟩; have HB59 : Hid (Below w5.heap.size w5 w9) := Lib.hid (HB58.out.trans (hb9.mono h58)); have HE9 := Lib.hid (HE8.out.below hb9); have HR9 := Lib.hid (HR8.out.below hb9); clear hb9))
      have he9 := HE9.out
      rw [show ((List.range (nL fill inn l 0)).flatMap fun i => entsOf ((fun k i => (sL fill inn l k i).2) 0 i)) = l from HML.out] at he9
      have h8n : n8 = n := by rw [he9.len, HL.out]
      subst h8n
      have HEF := Lib.hid he9
      have x0 : w9.cell? ⟨q, 0, none⟩ = some (.bool true) := HR9.out.cell 0
      have x4 : w9.cell? ⟨q, 4, none⟩ = some (.int .i64 E4) := HR9.out.cell 4
      have x5 : w9.cell? ⟨q, 5, none⟩ = some (.int .i64 n8) := HR9.out.cell 5
      have HEV : Hid (∀ s ∈ sl, 0 ≤ s.1 ∧ s.1 ≤ 4611686018427387904 ∧ s.1 % 2 = 0) := Lib.hid HT.out.even
      clear he9
      go_wp2_with (first | (go_at_call 27; go_loud (refine (sameEntries_eq _ _ A8 A n8 c8 cp l _ HEF.out (HE.out.below (HB5.out.trans (HB59.out.mono HB5.out.size))) hn').mono ?_); rintro e wa ⟨rfl, hba⟩; have HB5a : Hid (Below w5.heap.size w5 wa) := Lib.hid (HB59.out.trans (hba.mono HB59.out.size)); clear hba) | (go_at_call 28; go_loud (refine (used_any _ p nd root sl _ (HAX.out.below HB5a.out)).mono ?_); rintro e w' ⟨rfl, rfl⟩; rw [← HE4N.out]) | (go_at_call 29; go_loud (refine (held_any _ p nd root sl _ (HAX.out.below HB5a.out) HSZ5.out (fun s hs => ⟨(HEV.out s hs).1, (HEV.out s hs).2.1⟩)).mono ?_); rw [heldTo_even (fun s hs => (HEV.out s hs).2.2) _]; rintro e wb ⟨Ab, nb', cb, rfl, hib, _, hbb⟩; have hnb : nb' = 0 := hib.len; subst hnb; have HB5b : Hid (Below w5.heap.size w5 wb) := Lib.hid (HB5a.out.trans (hbb.mono HB5a.out.size)); clear hib hbb))
      go_ret
      exact ⟨rfl, HB5.out.trans (HB5b.out.mono HB5.out.size)⟩
    · subst h0
      obtain rfl := (HQ4.out.resolve_right (fun h => by simp at h)).2
      go_wp2_with fail
      go_ret
      exact ⟨rfl, HB5.out⟩
  · have hse : (E2 != 0) = true := by simpa using hs
    clear hs
    go_enter Try.func6, Try.ntmps6
    go_upto_region 6 with (first | (go_at_call 7; refine (lives_any _).mono ?_; rintro e w1 ⟨rfl, hb1⟩; have HB1 : Hid (Below w.heap.size w w1) := Lib.hid (((Below.refl _ _).alloc (Nat.le_refl _) _).trans (hb1.mono (by simp))); have HK1 := Lib.hid ((Blk.new w 23 #[.int .i64 a, .int .i64 b, .int .i64 c, .int .i64 d, .int .i64 f]).below hb1); obtain ⟨z0, z1, z2, z3, z4⟩ := cf_of HK1.out; clear hb1) | (go_at_call 22; refine (fit_any a b c d f HA.out HBB.out HCC.out HD.out HF.out _).mono ?_; rintro e w2 ⟨rfl, hb2⟩; rw [HN1.out, HN2.out, HN3.out, HN4.out, HN5.out]; have HB2 : Hid (Below w.heap.size w (w2.alloc (.cells #[.int .i64 nd, .int .i64 lf, .int .i64 inn, .int .i64 fill, .int .i64 bl] 23))) := Lib.hid ((HB1.out.trans (hb2.mono HB1.out.size)).alloc (Nat.le_trans HB1.out.size hb2.size) _); have HK2 := Lib.hid (Blk.new w2 23 #[.int .i64 nd, .int .i64 lf, .int .i64 inn, .int .i64 fill, .int .i64 bl]); have hw2 : w.heap.size < w2.heap.size := Nat.lt_of_lt_of_le HK1.out.lt hb2.size; clear hb2 z0 z1 z2 z3 z4) | (go_at_call 23; go_loud (refine (rsorted_any A n cp _ l _ (HE.out.below HB2.out) hn' (fun i e he => (HS.out e (List.mem_of_getElem? he)).1)).mono ?_); rintro e w3 ⟨rfl, hb3⟩; rw [HE2.out]; have HB3 : Hid (Below w.heap.size w w3) := Lib.hid (HB2.out.trans (hb3.mono HB2.out.size)); have HK3 := Lib.hid (HK2.out.below hb3); clear hb3))
    go_ret
    exact ⟨rfl, HB3.out⟩
end Go.Proofs.Ytgjphmlmndcaeaa

namespace Go.Proofs.Ytgjphmlmndcaeaa
open Go.ChangeShapes Go.WideShapes Go.Deep Go.RowKit
theorem bulk_one {H : Type} (d : DataW H) : 1 ≤ Rows.uptoBulk d := by
  cases d with
  | lit l => cases l <;> simp [Rows.uptoBulk]
  | _ => simp [Rows.uptoBulk]
theorem bulk_part {H : Type} {d : DataW H} {l : List (DataW H)} (h : d ∈ l) : Rows.uptoBulk d ≤ Rows.uptoBulkAll l := by
  induction l with
  | nil => cases h
  | cons x r ih =>
    simp only [Rows.uptoBulkAll]
    cases List.mem_cons.1 h with
    | inl e => subst e; omega
    | inr e => have := ih e; omega
theorem bulk_len {H : Type} (l : List (DataW H)) : l.length ≤ Rows.uptoBulkAll l := by
  induction l with
  | nil => simp [Rows.uptoBulkAll]
  | cons x r ih => have := bulk_one x; simp only [Rows.uptoBulkAll, List.length_cons]; omega
theorem bulk_slice {H : Type} (elems spare : List (DataW H)) : Rows.uptoBulkAll elems + 1 ≤ Rows.uptoBulk (.slice elems spare) := by
  simp only [Rows.uptoBulk]; omega

/-- the bytes that a slice's cells hold -/
def readBytes (w : World) : Value → List UInt8
  | .slice (some a) n _ => (List.range n).map fun j => match w.cell? (a.add j) with | some (.int _ z) => UInt8.ofNat z.toNat | _ => 0
  | _ => []
section
variable {H : Type} {enc : TypeId × Value → H} {w : World} {base : Nat} {spare : Nat → Bool} {held : Bool}
theorem cell_bt {a : Addr} {v : Value} (h : w.cell? (a.add 0) = some v) : a = ⟨a.block, a.off, none⟩ := by
  obtain ⟨b, o', s⟩ := a
  have hs : s = none := by simpa [Addr.add] using World.cell?_spot h
  subst hs
  rfl
theorem sb_of_trod {fuel : Nat} {v : Value} {y : DataW H × List MemPlace} (h : DataW.trod enc Try.prog w base spare held fuel 41 [v] = some y) : SB w (fun _ => True) v (readBytes w v) ∧ (readBytes w v).length + 1 ≤ Rows.uptoBulk y.1 := by
  rcases open_ints Try.underlying41 Try.underlying5 (by kernel_rfl) h with ⟨hcs, rfl⟩ | ⟨a, len, cap, zs, hcs, _, hl, hm, hz, rfl, hcell, hwz⟩
  · have hv : v = .slice none 0 0 := by simpa using hcs
    subst hv
    exact ⟨SB.nil _ _, by simp [readBytes, Rows.uptoBulk]⟩
  · have hv : v = .slice (some a) len cap := by simpa using hcs
    subst hv
    have hzl : len ≤ zs.length := by rw [hz]; split <;> omega
    have hrl : (readBytes w (.slice (some a) len cap)).length = len := by simp [readBytes]
    refine ⟨⟨some a, len, cap, rfl, hl, hm, hrl.symm, by rw [bvs_len, hrl, Nat.mul_one], fun hn => ?_⟩, ?_⟩
    · have ha := cell_bt (hcell 0 (by omega))
      refine ⟨a.block, a.off, by rw [← ha], trivial, fun j u hj => ?_⟩
      have hj' : j < len := by have := (List.getElem?_eq_some_iff.1 hj).1; rw [bvs_len, hrl] at this; exact this
      have hc := hcell j (by omega)
      have hz1 := hwz (zs.getD j 0) (by rw [List.getD_eq_getElem?_getD, List.getElem?_eq_getElem (by omega)]; exact List.getElem_mem (by omega))
      have hz2 : 0 ≤ zs.getD j 0 ∧ zs.getD j 0 ≤ 255 := by simpa [Lit.wf, IntKind.min, IntKind.max, IntKind.signed, IntKind.bits] using hz1
      simp only [bvs, readBytes, List.map_map, List.getElem?_map, List.getElem?_range hj', Option.map_some, Function.comp, hc] at hj
      injection hj with hj
      subst hj
      rw [ha, add_eq] at hc
      rw [hc]
      unfold bv
      congr 2
      rw [UInt8.toNat_ofNat']
      omega
    · rw [hrl]
      have h1 := bulk_slice (lits (H := H) IntKind.u8 (zs.take len)) (lits IntKind.u8 (zs.drop len))
      have h2 := bulk_len (lits (H := H) IntKind.u8 (zs.take len))
      have h3 : (lits (H := H) IntKind.u8 (zs.take len)).length = len := by simp [lits]; omega
      show len + 1 ≤ Rows.uptoBulk (.slice (lits IntKind.u8 (zs.take len)) (lits IntKind.u8 (zs.drop len)))
      omega
theorem open_slice_fields {P : Program} {t e : TypeId} {fs : Array Field} {fuel : Nat} {cs : List Value} {x : DataW H × List MemPlace} (ht : P.underlying t = some (.slice e)) (he : P.underlying e = some (.struct fs))
    (hone : oneCellFields P fs = true) (hC : P.cellsOf e = fs.size) (h : DataW.trod enc P w base spare held fuel t cs = some x) :
    (cs = [.slice none 0 0] ∧ x = (.nil, [])) ∨
    ∃ (a : Addr) (len cap m : Nat) (D : Nat → DataW H) (Pl : Nat → List MemPlace), cs = [.slice (some a) len cap] ∧ base ≤ a.block ∧ len ≤ cap ∧ cap ≤ maxLen ∧ m = (if spare a.block then cap else len) ∧
      x = (.slice ((List.range len).map D) ((List.range (m - len)).map fun j => D (len + j)), MemPlace.row a (m * fs.size) ++ (List.range m).flatMap Pl) ∧
      ∀ i, i < m → ∃ (ys : List (DataW H × List MemPlace)) (n : Nat), D i = .agg (ys.map (·.1)) ∧ Pl i = ys.flatMap (·.2) ∧ ys.length = fs.size ∧
        ∀ (j : Nat) (f : Field), fs[j]? = some f → ∃ (v : Value) (y : DataW H × List MemPlace), w.cell? (a.add (i * fs.size + j)) = some v ∧ ys[j]? = some y ∧ DataW.trod enc P w base spare held n f.type [v] = some y := by
  rcases open_slice ht h with h0 | ⟨a, len, cap, m, n, D, Pl, hcs, hb, hl, hm, hmm, hx, hi⟩
  · exact .inl h0
  · refine .inr ⟨a, len, cap, m, D, Pl, hcs, hb, hl, hm, hmm, by rw [hC] at hx; exact hx, fun i him => ?_⟩
    obtain ⟨cs', hc, ht'⟩ := hi i him
    rw [hC] at hc
    obtain ⟨ys, n', hn', hy, hlen, hyl, hf⟩ := DataW.trod_struct he ht'
    obtain ⟨_, hcl, hat⟩ := World.cells?_some hc
    simp only [Prod.mk.injEq] at hy
    refine ⟨ys, n', hy.1, hy.2, hyl, fun j f hj => ?_⟩
    obtain ⟨ho, hk⟩ := hone_of hone j f hj
    have hjl : j < fs.size := (Array.getElem?_eq_some_iff.1 hj).1
    have hcell := hat j hjl
    have hv : cs'[j]? = some (cs'[j]'(by omega)) := List.getElem?_eq_getElem (by omega)
    have h1 := hf j f hj
    rw [ho, hk] at h1
    have hone' : (cs'.drop j).take 1 = [cs'[j]'(by omega)] := by
      rw [List.drop_eq_getElem_cons (by omega)]
      rfl
    rw [hone'] at h1
    have hys : ys[j]? = some (ys[j]'(by omega)) := List.getElem?_eq_getElem (by omega)
    refine ⟨_, _, ?_, hys, h1.trans hys⟩
    rw [← Go.Deep.add_add, hcell, hv]

/-- the entry whose two slices lie at a place -/
def readEnt (w : World) (a : Addr) : Ent := (readBytes w ((w.cell? a).getD undef), readBytes w ((w.cell? (a.add 1)).getD undef))
theorem ents_of_trod {fuel : Nat} {A : Option Addr} {n c : Nat} {x : DataW H × List MemPlace} (h : DataW.trod enc Try.prog w base (fun _ => true) held fuel 37 [.slice A n c] = some x) (hb : Rows.uptoBulk x.1 ≤ 1048576) :
    ∃ l : List Ent, Ents w (fun _ => True) A n l ∧ n ≤ c ∧ c ≤ maxLen ∧ n ≤ 1048576 ∧ ∀ e ∈ l, e.1.length ≤ 1048576 ∧ e.2.length ≤ 1048576 := by
  rcases open_slice_fields Try.underlying37 Try.underlying43 (by kernel_rfl) (by kernel_rfl) h with ⟨hcs, rfl⟩ | ⟨a, len, cap, m, D, Pl, hcs, _, hl, hm, hmm, rfl, hel⟩
  · simp only [List.cons.injEq, Value.slice.injEq, and_true] at hcs
    obtain ⟨rfl, rfl, rfl⟩ := hcs
    exact ⟨[], Ents.nil _ _ _, Nat.le_refl _, by simp [maxLen], by omega, by simp⟩
  · simp only [List.cons.injEq, Value.slice.injEq, and_true] at hcs
    obtain ⟨rfl, rfl, rfl⟩ := hcs
    have hmn : n ≤ m := by rw [hmm]; split <;> omega
    have hb : Rows.uptoBulk (.slice ((List.range n).map D) ((List.range (m - n)).map fun j => D (n + j))) ≤ 1048576 := hb
    have hbs := bulk_slice ((List.range n).map D) ((List.range (m - n)).map fun j => D (n + j))
    have hlen := bulk_len ((List.range n).map D)
    rw [List.length_map, List.length_range] at hlen
    have hn : n ≤ 1048576 := by omega
    have hone : ∀ i, i < n → ∃ v0 v1, w.cell? (a.add (i * 2)) = some v0 ∧ w.cell? (a.add (i * 2 + 1)) = some v1 ∧ SB w (fun _ => True) v0 (readBytes w v0) ∧ SB w (fun _ => True) v1 (readBytes w v1) ∧ (readBytes w v0).length ≤ 1048576 ∧ (readBytes w v1).length ≤ 1048576 := by
      intro i hi
      obtain ⟨ys, k, hD, _, hyl, hf⟩ := hel i (by omega)
      obtain ⟨v0, y0, c0, e0, t0⟩ := hf 0 _ rfl
      obtain ⟨v1, y1, c1, e1, t1⟩ := hf 1 _ rfl
      obtain ⟨s0, b0⟩ := sb_of_trod t0
      obtain ⟨s1, b1⟩ := sb_of_trod t1
      have hDi : Rows.uptoBulk (D i) ≤ 1048576 := by
        have := bulk_part (d := D i) (l := (List.range n).map D) (List.mem_map.2 ⟨i, by simpa using hi, rfl⟩)
        omega
      rw [hD] at hDi
      simp only [Rows.uptoBulk] at hDi
      have p0 := bulk_part (d := y0.1) (l := ys.map (·.1)) (List.mem_map.2 ⟨y0, List.mem_of_getElem? e0, rfl⟩)
      have p1 := bulk_part (d := y1.1) (l := ys.map (·.1)) (List.mem_map.2 ⟨y1, List.mem_of_getElem? e1, rfl⟩)
      exact ⟨v0, v1, c0, c1, s0, s1, by omega, by omega⟩
    have hval : ∀ i, i < n → w.cell? (a.add (i * 2)) = some ((w.cell? (a.add (i * 2))).getD undef) ∧ w.cell? (a.add (i * 2 + 1)) = some ((w.cell? (a.add (i * 2 + 1))).getD undef) := by
      intro i hi
      obtain ⟨v0, v1, c0, c1, _⟩ := hone i hi
      rw [c0, c1]; exact ⟨rfl, rfl⟩
    let ve : Nat → Value := fun t => (w.cell? (a.add t)).getD undef
    have hve : ∀ i, i < n → SB w (fun _ => True) (ve (i * 2)) (readBytes w (ve (i * 2))) ∧ SB w (fun _ => True) (ve (i * 2 + 1)) (readBytes w (ve (i * 2 + 1))) ∧ (readBytes w (ve (i * 2))).length ≤ 1048576 ∧ (readBytes w (ve (i * 2 + 1))).length ≤ 1048576 := by
      intro i hi
      obtain ⟨v0, v1, c0, c1, s0, s1, b0, b1⟩ := hone i hi
      have e0 : ve (i * 2) = v0 := by show (w.cell? (a.add (i * 2))).getD undef = v0; rw [c0]; rfl
      have e1 : ve (i * 2 + 1) = v1 := by show (w.cell? (a.add (i * 2 + 1))).getD undef = v1; rw [c1]; rfl
      rw [e0, e1]; exact ⟨s0, s1, b0, b1⟩
    refine ⟨(List.range n).map fun i => (readBytes w (ve (i * 2)), readBytes w (ve (i * 2 + 1))), ⟨(by show n = _; simp), (List.range (n * 2)).map ve, ⟨by simp, fun h0 => ?_⟩, fun i e he => ?_⟩, hl, hm, hn, fun e he => ?_⟩
    · have ha := cell_bt (hval 0 h0).1
      refine ⟨a.block, a.off, by rw [← ha], trivial, fun j u hj => ?_⟩
      have hj2 : j < n * 2 := by have := (List.getElem?_eq_some_iff.1 hj).1; simpa using this
      rw [List.getElem?_map, List.getElem?_range hj2] at hj
      have hj : ve j = u := by simpa using hj
      have hc : w.cell? (a.add j) = some (ve j) := by
        rcases Nat.mod_two_eq_zero_or_one j with h2 | h2
        · have := (hval (j / 2) (by omega)).1
          rwa [show j / 2 * 2 = j by omega] at this
        · have := (hval (j / 2) (by omega)).2
          rwa [show j / 2 * 2 + 1 = j by omega] at this
      rw [ha, add_eq] at hc
      rw [hc, hj]
    · have hi : i < n := by have := (List.getElem?_eq_some_iff.1 he).1; simpa using this
      rw [List.getElem?_map, List.getElem?_range hi] at he
      have he : (readBytes w (ve (i * 2)), readBytes w (ve (i * 2 + 1))) = e := by simpa using he
      subst he
      obtain ⟨s0, s1, _⟩ := hve i hi
      refine ⟨_, _, ?_, ?_, s0, s1⟩
      · rw [List.getElem?_map, List.getElem?_range (by omega), show 2 * i = i * 2 by omega]; rfl
      · rw [List.getElem?_map, List.getElem?_range (by omega), show 2 * i + 1 = i * 2 + 1 by omega]; rfl
    · obtain ⟨i, hi, rfl⟩ := List.mem_map.1 he
      obtain ⟨_, _, b0, b1⟩ := hve i (by simpa using hi)
      exact ⟨b0, b1⟩
end
end Go.Proofs.Ytgjphmlmndcaeaa

namespace Go.Proofs.Ytgjphmlmndcaeaa
open Go.Joins Go.ChangeShapes Go.WideShapes Go.RowKit Go.Deep
section
variable {H : Type} {enc : TypeId × Value → H} {P : Program} {w : World} {base : Nat} {spare : Nat → Bool} {held : Bool}
theorem open_agg5 {r : Reach} {b0 : Nat} {t : TypeId} {f0 f1 f2 f3 f4 : Field} {v : Value} {d : DataW H} {p : List MemPlace} (hs : P.underlying t = some (.struct #[f0, f1, f2, f3, f4])) (hone : oneCellFields P #[f0, f1, f2, f3, f4] = true) (hC : P.cellsOf t = 5)
    (hv : Value.okWide P w r b0 t v) (h : DataW.Trod enc P w base spare held t v d p) :
    ∃ (v0 v1 v2 v3 v4 : Value) (y0 y1 y2 y3 y4 : DataW H × List MemPlace) (n : Nat), v = .agg #[v0, v1, v2, v3, v4] ∧ d = .agg [y0.1, y1.1, y2.1, y3.1, y4.1] ∧ p = y0.2 ++ (y1.2 ++ (y2.2 ++ (y3.2 ++ y4.2))) ∧
      DataW.trod enc P w base spare held n f0.type [v0] = some y0 ∧ DataW.trod enc P w base spare held n f1.type [v1] = some y1 ∧ DataW.trod enc P w base spare held n f2.type [v2] = some y2 ∧ DataW.trod enc P w base spare held n f3.type [v3] = some y3 ∧ DataW.trod enc P w base spare held n f4.type [v4] = some y4 := by
  obtain ⟨cs, rfl, hsz⟩ := okWide_struct hs hv
  obtain ⟨l⟩ := cs
  match l, hsz.trans hC with
  | [c0, c1, c2, c3, c4], _ =>
    obtain ⟨fuel, hf⟩ := h
    obtain ⟨xs, n, _, hx, _, hlen, hg⟩ := DataW.trod_struct hs hf
    obtain ⟨o0, k0⟩ := hone_of hone 0 f0 rfl
    obtain ⟨o1, k1⟩ := hone_of hone 1 f1 rfl
    obtain ⟨o2, k2⟩ := hone_of hone 2 f2 rfl
    obtain ⟨o3, k3⟩ := hone_of hone 3 f3 rfl
    obtain ⟨o4, k4⟩ := hone_of hone 4 f4 rfl
    match xs, hlen with
    | [y0, y1, y2, y3, y4], _ =>
      simp only [Prod.mk.injEq] at hx
      exact ⟨c0, c1, c2, c3, c4, y0, y1, y2, y3, y4, n, rfl, by simpa using hx.1, by simpa using hx.2, by simpa [Value.cells, o0, k0] using hg 0 f0 rfl, by simpa [Value.cells, o1, k1] using hg 1 f1 rfl, by simpa [Value.cells, o2, k2] using hg 2 f2 rfl, by simpa [Value.cells, o3, k3] using hg 3 f3 rfl, by simpa [Value.cells, o4, k4] using hg 4 f4 rfl⟩
end
end Go.Proofs.Ytgjphmlmndcaeaa
