/- WALKS: the document's packed tree. WALKS: node.leafForm, node.innerForm and node.Check at a node that is right. WALKS: node.Check at a node that is right. WALKS: a node that is read whole (shape.read); a configuration of small numbers (Fit). -/
import Derived.Test.YtgjphmlmndcaeaaPs14
import Derived.Test.YtgjphmlmndcaeaaPs04
import Derived.Test.YtgjphmlmndcaeaaPs11
import Derived.Test.YtgjphmlmndcaeaaPs12
import Derived.Deep.RegionWith
import Derived.Test.YtgjphmlmndcaeaaPs06
import Derived.Test.YtgjphmlmndcaeaaPs03
set_option linter.unusedVariables false
set_option linter.unusedSimpArgs false
namespace Go.Proofs.Ytgjphmlmndcaeaa
open Go.RowKit

/-- the document's arena of one slot -/
def RNewArena (w : World) (nodes : Int) (e : Ending) (w' : World) : Prop :=
  ∃ p g, e = .returned (.tuple #[.pointer (some ⟨p, 0, none⟩), .int .i64 0]) ∧ w.heap.size ≤ p ∧ w.heap.size ≤ g ∧ Blk w' p 83 #[.int .i64 nodes, .slice (some ⟨g, 0, none⟩) 1 1, .int .i64 1] ∧ Blk w' g 97 #[.int .u64 0, .int .i64 0, .slice none 0 0, .int .i64 0, .slice none 0 0, .slice none 0 0, .slice none 0 0] ∧ Below w.heap.size w w'
theorem rnew_ok (nodes : Int) (h1 : 1 ≤ nodes) (h2 : nodes ≤ 65536) (w : World) : Calls Try.prog 42 #[.int .i64 nodes] w (RNewArena w nodes) := by
  go_enter Try.func42, Try.ntmps42
  go_wp2
  go_ret2
  refine ⟨_, w.heap.size, rfl, ?_, Nat.le_refl _, ?_, ?_, ?_⟩
  · omega
  · have := Blk.new (w.alloc (.cells #[.int .u64 0, .int .i64 0, .slice none 0 0, .int .i64 0, .slice none 0 0, .slice none 0 0, .slice none 0 0] 97)) 83 #[.int .i64 nodes, .slice (some ⟨w.heap.size, 0, none⟩) 1 1, .int .i64 1]
    simpa using this
  · exact (Blk.new _ _ _).alloc _
  · exact ((Below.refl _ _).alloc (Nat.le_refl _) _).alloc (by simp) _
theorem small_leafN {l : List Ent} {fill : Nat} (hf : fill ≤ 64) (hs : ∀ e ∈ l, e.1.length ≤ 1152921504606 ∧ e.2.length ≤ 1152921504606) (i : Nat) : Small (leafN fill l i) :=
  small_part hs _ _ (by omega) _ _ _ (hiAt_small (fun e he => (hs e he).1) i)
theorem small_aboveN {low : List Nd} {inn : Nat} (hf : inn ≤ 64) (hs : ∀ s ∈ low, Small s) (lev first : Int) (i : Nat) : Small (aboveN inn lev low first i) := by
  have hl : (npart inn low i).length ≤ inn := by unfold npart; rw [List.length_take]; exact Nat.min_le_left _ _
  have hmem : ∀ e ∈ npart inn low i, e ∈ low := fun e he => List.mem_of_mem_drop (List.mem_of_mem_take he)
  refine ⟨?_, ?_, by simp [aboveN], ?_, fun t ht => ?_, by simp [aboveN]⟩
  · show ((npart inn low i).getLastD Nd.zero).high.length ≤ _
    rcases List.eq_nil_or_concat (npart inn low i) with e | ⟨L, b, e⟩
    · rw [e]; simp [Nd.zero]
    · have : b ∈ npart inn low i := by rw [e]; simp
      rw [e]
      simpa using (hs b (hmem b this)).1
  · show ((npart inn low i).dropLast.map Nd.high).length ≤ _; rw [List.length_map, List.length_dropLast]; omega
  · show ((List.range (npart inn low i).length).map _).length ≤ _; rw [List.length_map, List.length_range]; omega
  · obtain ⟨e, he, rfl⟩ := List.mem_map.1 ht; exact (hs e (hmem e (List.dropLast_subset _ he))).1

/-- the five cells of a configuration -/
def Cf (w : World) (g : Nat) (nd lf inn fl bl : Int) : Prop := w.cell? ⟨g, 0, none⟩ = some (.int .i64 nd) ∧ w.cell? ⟨g, 1, none⟩ = some (.int .i64 lf) ∧ w.cell? ⟨g, 2, none⟩ = some (.int .i64 inn) ∧ w.cell? ⟨g, 3, none⟩ = some (.int .i64 fl) ∧ w.cell? ⟨g, 4, none⟩ = some (.int .i64 bl)
theorem cf_of {w : World} {g : Nat} {nd lf inn fl bl : Int} (h : Blk w g 23 #[.int .i64 nd, .int .i64 lf, .int .i64 inn, .int .i64 fl, .int .i64 bl]) : Cf w g nd lf inn fl bl := ⟨by rw [h.cell]; rfl, by rw [h.cell]; rfl, by rw [h.cell]; rfl, by rw [h.cell]; rfl, by rw [h.cell]; rfl⟩
theorem rbuild_cfg (nd lf inn fl bl : Int) (A : Option Addr) (n c : Nat) (w : World) (hc : ¬ cfgOk nd lf inn fl bl) :
    Calls Try.prog 21 #[.agg #[.int .i64 nd, .int .i64 lf, .int .i64 inn, .int .i64 fl, .int .i64 bl], .slice A n c] w fun e w' => e = .returned (.tuple #[.pointer none, .int .i64 1, .int .i64 0]) ∧ Below w.heap.size w w' := by
  have he := cfgE_bad hc
  have HC := Lib.hid he
  clear he hc
  go_enter Try.func21, Try.ntmps21
  go_wp2_with (go_at_call 11; refine (rconfig_any nd lf inn fl bl _).mono ?_; rintro e w1 ⟨rfl, hb1⟩; rw [HC.out]; have HB1 := Lib.hid hb1; clear hb1)
  go_ret3
  exact ⟨rfl, ((Below.refl _ _).alloc (Nat.le_refl _) _).trans (HB1.out.mono (by simp))⟩
set_option maxRecDepth 100000 in
theorem rbuild_srt (nd lf inn fl bl : Int) (A : Option Addr) (n c : Nat) (F : Nat → Prop) (l : List Ent) (w : World) (hE : Ents w F A n l) (hn : n ≤ 1152921504606) (hsm : ∀ e ∈ l, e.1.length ≤ 1152921504606 ∧ e.2.length ≤ 1152921504606) (hc : cfgOk nd lf inn fl bl) (hs : (sortedOf l).2 ≠ 0) :
    Calls Try.prog 21 #[.agg #[.int .i64 nd, .int .i64 lf, .int .i64 inn, .int .i64 fl, .int .i64 bl], .slice A n c] w fun e w' => e = .returned (.tuple #[.pointer none, .int .i64 (sortedOf l).2, .int .i64 (sortedOf l).1]) ∧ Below w.heap.size w w' := by
  have he := cfgE_ok hc
  have HC := Lib.hid he
  have HE := Lib.hid hE
  have HS := Lib.hid hsm
  obtain ⟨si, hsi⟩ : ∃ x, x = (sortedOf l).1 := ⟨_, rfl⟩
  obtain ⟨se, hse⟩ : ∃ x, x = (sortedOf l).2 := ⟨_, rfl⟩
  rw [← hsi, ← hse]
  rw [← hse] at hs
  have hs' : (se == 0) = false := by rw [beq_eq_false_iff_ne]; exact hs
  have HSI := Lib.hid hsi
  have HSE := Lib.hid hse
  clear he hc hE hsm hsi hse hs
  go_enter Try.func21, Try.ntmps21
  go_wp2_with (first | (go_at_call 11; refine (rconfig_any nd lf inn fl bl _).mono ?_; rintro e w1 ⟨rfl, hb1⟩; rw [HC.out]; have HB1 : Hid (Below w.heap.size w w1) := Lib.hid (((Below.refl _ _).alloc (Nat.le_refl _) _).trans (hb1.mono (by simp))); clear hb1) | (go_at_call 23; refine (rsorted_any A n c F l _ (HE.out.below HB1.out) hn (fun i e he => (HS.out e (List.mem_of_getElem? he)).1)).mono ?_; rintro e w2 ⟨rfl, hb2⟩; rw [← HSI.out, ← HSE.out]; have HB2 := Lib.hid hb2; clear hb2))
  go_ret3
  exact ⟨rfl, HB1.out.trans (HB2.out.mono HB1.out.size)⟩
set_option maxRecDepth 100000 in
theorem rbuild_full (nd lf inn fl bl : Int) (A : Option Addr) (n c : Nat) (F : Nat → Prop) (l : List Ent) (w : World) (hE : Ents w F A n l) (hn : n ≤ 1152921504606) (hsm : ∀ e ∈ l, e.1.length ≤ 1152921504606 ∧ e.2.length ≤ 1152921504606) (hc : cfgOk nd lf inn fl bl) (hs : sortedOf l = (0, 0)) (hf : (nodesOf nd lf inn fl bl n).2 ≠ 0) :
    Calls Try.prog 21 #[.agg #[.int .i64 nd, .int .i64 lf, .int .i64 inn, .int .i64 fl, .int .i64 bl], .slice A n c] w fun e w' => e = .returned (.tuple #[.pointer none, .int .i64 (nodesOf nd lf inn fl bl n).2, .int .i64 0]) ∧ Below w.heap.size w w' := by
  have he := cfgE_ok hc
  have HC := Lib.hid he
  have HCF := Lib.hid hc
  have HE := Lib.hid hE
  have HS := Lib.hid hsm
  obtain ⟨ni, hni⟩ : ∃ x, x = nodesOf nd lf inn fl bl n := ⟨_, rfl⟩
  rw [← hni]
  rw [← hni] at hf
  have hf' : (ni.2 == 0) = false := by rw [beq_eq_false_iff_ne]; exact hf
  have HNI := Lib.hid hni
  have HSS := Lib.hid hs
  clear he hc hE hsm hni hf hs
  go_enter Try.func21, Try.ntmps21
  go_wp2_with (first | (go_at_call 11; refine (rconfig_any nd lf inn fl bl _).mono ?_; rintro e w1 ⟨rfl, hb1⟩; rw [HC.out]; have HB1 : Hid (Below w.heap.size w w1) := Lib.hid (((Below.refl _ _).alloc (Nat.le_refl _) _).trans (hb1.mono (by simp))); have HK1 := Lib.hid ((Blk.new w 23 #[.int .i64 nd, .int .i64 lf, .int .i64 inn, .int .i64 fl, .int .i64 bl]).below hb1); clear hb1) | (go_at_call 23; refine (rsorted_any A n c F l _ (HE.out.below HB1.out) hn (fun i e he => (HS.out e (List.mem_of_getElem? he)).1)).mono ?_; rintro e w2 ⟨rfl, hb2⟩; rw [HSS.out]; have HB2 := Lib.hid hb2; obtain ⟨z0, z1, z2, z3, z4⟩ := cf_of (HK1.out.below hb2); clear hb2) | (go_at_call 9; refine (rnodes_ok nd lf inn fl bl n _ HCF.out (by omega) (by omega)).mono ?_; rintro e w3 ⟨rfl, hb3⟩; rw [← HNI.out]; unfold nodesV; have HB3 := Lib.hid hb3; clear hb3))
  go_ret3
  exact ⟨rfl, (HB1.out.trans (HB2.out.mono HB1.out.size)).trans (HB3.out.mono (Nat.le_trans HB1.out.size HB2.out.size))⟩
theorem build_cfg (nd lf inn fl bl : Int) (A : Option Addr) (n c : Nat) (w : World) (hc : ¬ cfgOk nd lf inn fl bl) :
    Calls Try.prog 20 #[.agg #[.int .i64 nd, .int .i64 lf, .int .i64 inn, .int .i64 fl, .int .i64 bl], .slice A n c] w fun e w' => e = .returned (.tuple #[.pointer none, .int .i64 1, .int .i64 0]) ∧ Below w.heap.size w w' := by
  have he := cfgE_bad hc
  have HC := Lib.hid he
  clear he hc
  go_enter Try.func20, Try.ntmps20
  go_wp2_with (go_at_call 30; refine (config_any nd lf inn fl bl _).mono ?_; rintro e w1 ⟨rfl, hb1⟩; rw [HC.out]; have HB1 := Lib.hid hb1; clear hb1)
  go_ret3
  exact ⟨rfl, ((Below.refl _ _).alloc (Nat.le_refl _) _).trans (HB1.out.mono (by simp))⟩
set_option maxRecDepth 100000 in
theorem build_srt (nd lf inn fl bl : Int) (A : Option Addr) (n c : Nat) (F : Nat → Prop) (l : List Ent) (w : World) (hE : Ents w F A n l) (hn : n ≤ 1152921504606) (hsm : ∀ e ∈ l, e.1.length ≤ 1152921504606 ∧ e.2.length ≤ 1152921504606) (hc : cfgOk nd lf inn fl bl) (hs : (sortedOf l).2 ≠ 0) :
    Calls Try.prog 20 #[.agg #[.int .i64 nd, .int .i64 lf, .int .i64 inn, .int .i64 fl, .int .i64 bl], .slice A n c] w fun e w' => e = .returned (.tuple #[.pointer none, .int .i64 (sortedOf l).2, .int .i64 (sortedOf l).1]) ∧ Below w.heap.size w w' := by
  have he := cfgE_ok hc
  have HC := Lib.hid he
  have HE := Lib.hid hE
  have HS := Lib.hid hsm
  obtain ⟨si, hsi⟩ : ∃ x, x = (sortedOf l).1 := ⟨_, rfl⟩
  obtain ⟨se, hse⟩ : ∃ x, x = (sortedOf l).2 := ⟨_, rfl⟩
  rw [← hsi, ← hse]
  rw [← hse] at hs
  have hs' : (se == 0) = false := by rw [beq_eq_false_iff_ne]; exact hs
  have HSI := Lib.hid hsi
  have HSE := Lib.hid hse
  clear he hc hE hsm hsi hse hs
  go_enter Try.func20, Try.ntmps20
  go_wp2_with (first | (go_at_call 30; refine (config_any nd lf inn fl bl _).mono ?_; rintro e w1 ⟨rfl, hb1⟩; rw [HC.out]; have HB1 : Hid (Below w.heap.size w w1) := Lib.hid (((Below.refl _ _).alloc (Nat.le_refl _) _).trans (hb1.mono (by simp))); clear hb1) | (go_at_call 41; refine (sorted_any A n c F l _ (HE.out.below HB1.out) hn).mono ?_; rintro e w2 ⟨rfl, hb2⟩; rw [← HSI.out, ← HSE.out]; have HB2 := Lib.hid hb2; clear hb2))
  go_ret3
  exact ⟨rfl, HB1.out.trans (HB2.out.mono HB1.out.size)⟩
set_option maxRecDepth 100000 in
theorem build_full (nd lf inn fl bl : Int) (A : Option Addr) (n c : Nat) (F : Nat → Prop) (l : List Ent) (w : World) (hE : Ents w F A n l) (hn : n ≤ 1152921504606) (hsm : ∀ e ∈ l, e.1.length ≤ 1152921504606 ∧ e.2.length ≤ 1152921504606) (hc : cfgOk nd lf inn fl bl) (hs : sortedOf l = (0, 0)) (hf : (nodesOf nd lf inn fl bl n).2 ≠ 0) :
    Calls Try.prog 20 #[.agg #[.int .i64 nd, .int .i64 lf, .int .i64 inn, .int .i64 fl, .int .i64 bl], .slice A n c] w fun e w' => e = .returned (.tuple #[.pointer none, .int .i64 (nodesOf nd lf inn fl bl n).2, .int .i64 0]) ∧ Below w.heap.size w w' := by
  have he := cfgE_ok hc
  have HC := Lib.hid he
  have HCF := Lib.hid hc
  have HE := Lib.hid hE
  have HS := Lib.hid hsm
  obtain ⟨ni, hni⟩ : ∃ x, x = nodesOf nd lf inn fl bl n := ⟨_, rfl⟩
  rw [← hni]
  rw [← hni] at hf
  have hf' : (ni.2 == 0) = false := by rw [beq_eq_false_iff_ne]; exact hf
  have HNI := Lib.hid hni
  have HSS := Lib.hid hs
  clear he hc hE hsm hni hf hs
  go_enter Try.func20, Try.ntmps20
  go_wp2_with (first | (go_at_call 30; refine (config_any nd lf inn fl bl _).mono ?_; rintro e w1 ⟨rfl, hb1⟩; rw [HC.out]; have HB1 : Hid (Below w.heap.size w w1) := Lib.hid (((Below.refl _ _).alloc (Nat.le_refl _) _).trans (hb1.mono (by simp))); have HK1 := Lib.hid ((Blk.new w 23 #[.int .i64 nd, .int .i64 lf, .int .i64 inn, .int .i64 fl, .int .i64 bl]).below hb1); clear hb1) | (go_at_call 41; refine (sorted_any A n c F l _ (HE.out.below HB1.out) hn).mono ?_; rintro e w2 ⟨rfl, hb2⟩; rw [HSS.out]; have HB2 := Lib.hid hb2; obtain ⟨z0, z1, z2, z3, z4⟩ := cf_of (HK1.out.below hb2); clear hb2) | (go_at_call 8; refine (nodes_ok nd lf inn fl bl n _ HCF.out (by omega) (by omega)).mono ?_; rintro e w3 ⟨rfl, hb3⟩; rw [← HNI.out]; unfold nodesV; have HB3 := Lib.hid hb3; clear hb3))
  go_ret3
  exact ⟨rfl, (HB1.out.trans (HB2.out.mono HB1.out.size)).trans (HB3.out.mono (Nat.le_trans HB1.out.size HB2.out.size))⟩
end Go.Proofs.Ytgjphmlmndcaeaa

namespace Go.Proofs.Ytgjphmlmndcaeaa
open Go.RowKit Go.Maps
open Go.Lib (compareBytes)
section
variable (F : Nat → Prop) (x : Nd) (hA kA vA dA : Option Addr) (hn hc kn kc vn vc dn dc : Nat) (nd lf fl bl : Int) (inn : Nat) (w : World)
set_option maxRecDepth 100000 in
theorem leafForm_yes (h : NdV w F x hA kA vA dA hn hc kn kc vn vc dn dc) (hf : Fine nd lf inn x) (h0 : x.lev = 0) (hs : x.keys.length ≤ 1000) :
    Calls Try.prog 115 #[.agg #[.int .i64 x.lev, .slice hA hn hc, .int .i64 x.right, .slice kA kn kc, .slice vA vn vc, .slice dA dn dc], .agg #[.int .i64 nd, .int .i64 lf, .int .i64 inn, .int .i64 fl, .int .i64 bl]] w fun e w' => e = .returned (.bool true) ∧ Below w.heap.size w w' := by
  obtain ⟨e1, e2, e3, e4⟩ := hf.leaf h0
  have hvk : vn = kn := by rw [h.v.len, h.k.len, e1]
  have hd0 : dn = 0 := by rw [h.d.len, e3]; rfl
  have hkl : (kn : Int) ≤ lf := by rw [h.k.len]; exact e2
  have hvn : vn ≤ 1152921504606 := by have := h.k.len; omega
  subst hvk hd0
  have HV := Lib.hid h.v
  have H4 := Lib.hid e4
  clear h hf h0 hs e1 e2 e3 e4
  go_enter Try.func115, Try.ntmps115
  go_wp2_with (go_at_call 111; go_loud (refine (lf_contains #[] F vA vn vc x.vals _ (HV.out.below (((Below.refl _ _).alloc (Nat.le_refl _) _).alloc (by simp) _)) hvn (fun W Ak nk ck t hb ht hbt => lf1_no Ak nk ck W (by have := H4.out t ht; have := hbt.len; omega))).mono ?_); rintro e w1 ⟨rfl, hb1⟩; have HB1 := Lib.hid ((((Below.refl _ _).alloc (Nat.le_refl _) _).alloc (by simp) _).trans (hb1.mono (by simp; omega))); have z3 : w1.cell? ⟨w.heap.size, 3, none⟩ = some (.slice kA vn kc) := bkeep hb1 (by simp); have z4 : w1.cell? ⟨w.heap.size, 4, none⟩ = some (.slice vA vn vc) := bkeep hb1 (by simp); have z5 : w1.cell? ⟨w.heap.size, 5, none⟩ = some (.slice dA 0 dc) := bkeep hb1 (by simp); have y1 : w1.cell? ⟨w.heap.size + 1, 1, none⟩ = some (.int .i64 lf) := bkeep hb1 (by simp); clear hb1)
  go_ret
  exact ⟨rfl, HB1.out⟩
theorem nodup_at {ks : List Int} (h : ks.Nodup) {i : Nat} {k : Int} (hk : ks[i]? = some k) : k ∉ ks.take i := by
  intro hm
  obtain ⟨j, hj, e⟩ := List.mem_iff_getElem.1 hm
  have hj' : j < i := by rw [List.length_take] at hj; omega
  have hi := (List.getElem?_eq_some_iff.1 hk)
  obtain ⟨hil, hik⟩ := hi
  rw [List.getElem_take] at e
  have := (List.getElem_inj (h₀ := by omega) (h₁ := hil) h).1 (e.trans hik.symm)
  omega
set_option maxRecDepth 100000 in
theorem innerForm_yes (h : NdV w F x hA kA vA dA hn hc kn kc vn vc dn dc) (hf : Fine nd lf inn x) (h0 : x.lev ≠ 0) (hi : inn ≤ 64) (hnd : nd ≤ 65536) :
    Calls Try.prog 114 #[.agg #[.int .i64 x.lev, .slice hA hn hc, .int .i64 x.right, .slice kA kn kc, .slice vA vn vc, .slice dA dn dc], .agg #[.int .i64 nd, .int .i64 lf, .int .i64 inn, .int .i64 fl, .int .i64 bl]] w fun e w' => e = .returned (.bool true) ∧ Below w.heap.size w w' := by
  obtain ⟨e1, e2, e3, e4, e5⟩ := hf.inner h0
  have hv0 : vn = 0 := by rw [h.v.len, e1]; rfl
  have hd1 : dn = kn + 1 := by rw [h.d.len, h.k.len, e2]
  have hdi : (dn : Int) ≤ (inn : Int) := by rw [h.d.len]; omega
  have hdn : dn ≤ 64 := by omega
  have hkw := IntWalk.i64_in ((kn : Int) + 1) (by omega)
  have hde : ((dn : Int) == (kn : Int) + 1) = true := by rw [hd1]; simp
  subst hv0
  have HD := Lib.hid h.d
  have HDL := Lib.hid h.d.len
  have HND := Lib.hid e4
  have HK := Lib.hid e5
  have hmm := @run_makeMap Try.prog
  clear h hf h0 hi e1 e2 e3 e4 e5 hd1
  go_enter Try.func114, Try.ntmps114
  go_wp2
  go_loopg [13] dn (fun g' iv wr => ∃ i : Nat, g' = dn - i ∧ i ≤ dn ∧ iv = .int .i64 i ∧ Blk wr w.heap.size 93 #[.int .i64 x.lev, .slice hA hn hc, .int .i64 x.right, .slice kA kn kc, .slice vA 0 vc, .slice dA dn dc] ∧ Blk wr (w.heap.size + 1) 23 #[.int .i64 nd, .int .i64 lf, .int .i64 inn, .int .i64 fl, .int .i64 bl] ∧
    MapII wr (w.heap.size + 1 + 1) i (fun k => if k ∈ x.kids.take i then 1 else 0) ∧ Below w.heap.size w wr)
  case atStart =>
    have e : (fun k => if k ∈ x.kids.take 0 then (1 : Int) else 0) = fun _ => 0 := by funext k; simp
    refine ⟨0, by omega, by omega, rfl, ((Blk.new w _ _).alloc _).alloc _, ?_, ?_, (((Below.refl _ _).alloc (Nat.le_refl _) _).alloc (by simp) _).alloc (by simp; omega) _⟩
    · have := (Blk.new (w.alloc (.cells #[.int .i64 x.lev, .slice hA hn hc, .int .i64 x.right, .slice kA kn kc, .slice vA 0 vc, .slice dA dn dc] 93)) 23 #[.int .i64 nd, .int .i64 lf, .int .i64 inn, .int .i64 fl, .int .i64 bl]).alloc (.map #[] 0)
      simpa using this
    · rw [e]
      have := MapII.made ((w.alloc (.cells #[.int .i64 x.lev, .slice hA hn hc, .int .i64 x.right, .slice kA kn kc, .slice vA 0 vc, .slice dA dn dc] 93)).alloc (.cells #[.int .i64 nd, .int .i64 lf, .int .i64 inn, .int .i64 fl, .int .i64 bl] 23))
      simpa using this
  case round =>
    obtain ⟨i, hg, hi, rfl, hb1, hb2, hm, hb⟩ := hrel
    have HG := Lib.hid hg
    have HB := Lib.hid hb
    have HB1 := Lib.hid hb1
    have HB2 := Lib.hid hb2
    have HM := Lib.hid hm
    rename World => wr
    clear hg hb hb1 hb2 hm
    by_cases hlt : i < dn
    · have hlt' : (i : Int) < (dn : Int) := by omega
      obtain ⟨b, o, kid, rfl, hF, he, c1'⟩ := HD.out.at_ (k := i) hlt
      have c1 := bkeep HB.out c1'
      have HE := Lib.hid he
      obtain ⟨k1, k2⟩ := HK.out kid (List.mem_of_getElem? he)
      have hno := nodup_at HND.out he
      have hl1 : (Instr.lookup 107 (.map (some (w.heap.size + 1 + 1))) (.int .i64 kid) false).run Try.prog wr = .ok (.int .i64 0) wr := by
        have : (Instr.lookup 107 (.map (some (w.heap.size + 1 + 1))) (.int .i64 kid) false).run Try.prog wr = .ok (.int .i64 (if kid ∈ x.kids.take i then (1 : Int) else 0)) wr := HM.out.look (by omega) (by omega)
        rw [if_neg hno] at this
        exact this
      obtain ⟨y0, y1, y2, y3, y4⟩ := cf_of HB2.out
      have hd : decide ((1 : Int) ≤ kid ∧ kid ≤ nd) = true := decide_eq_true ⟨k1, k2⟩
      clear c1' he hF
      go_wp2_with (first | (at_mapUpdate; go_loud (refine wpList_MapII_put rfl _ _ _ rfl rfl HM.out (by unfold maxLen; omega) kid 1 rfl rfl (by omega) (by omega) (by omega) (by omega) ?_); intro w1 hm1 hc1; have HM1 := Lib.hid hm1; have HC1 := Lib.hid hc1; have y10 := hc1.cell (show ¬ One (w.heap.size + 1 + 1) (w.heap.size + 1) from fun h => by have h : w.heap.size + 1 = w.heap.size + 1 + 1 := h; omega) y0; have hl2 : (Instr.lookup 107 (.map (some (w.heap.size + 1 + 1))) (.int .i64 kid) false).run Try.prog w1 = .ok (.int .i64 1) w1 := (by have : (Instr.lookup 107 (.map (some (w.heap.size + 1 + 1))) (.int .i64 kid) false).run Try.prog w1 = .ok (.int .i64 (if kid = kid then (1 : Int) else (if kid ∈ x.kids.take i then (1 : Int) else 0))) w1 := HM1.out.look (by omega) (by omega); rw [if_pos rfl] at this; exact this); clear hm1 hc1) | (go_at_call 53; refine (between_any _ _ _ _).mono ?_; rintro e w' ⟨rfl, rfl⟩; rw [hd]))
      go_roundg (dn - (i + 1))
      case measure => have := HG.out; omega
      case rel =>
        have hsz := HB.out.size
        refine ⟨i + 1, rfl, by omega, by go_num, HB1.out.chg HC1.out (fun h => by have h : w.heap.size = w.heap.size + 1 + 1 := h; omega), HB2.out.chg HC1.out (fun h => by have h : w.heap.size + 1 = w.heap.size + 1 + 1 := h; omega), ?_, HB.out.trans (HC1.out.below_of hsz (fun b hb h => by have h : b = w.heap.size + 1 + 1 := h; omega))⟩
        have e : (fun j => if j = kid then (1 : Int) else (if j ∈ x.kids.take i then (1 : Int) else 0)) = fun j => if j ∈ x.kids.take (i + 1) then (1 : Int) else 0 := by
          funext j
          have ht : x.kids.take (i + 1) = x.kids.take i ++ [kid] := by rw [List.take_add_one, HE.out]; rfl
          rw [ht]
          by_cases hj : j = kid <;> simp [hj]
        have h2 : MapII w1 (w.heap.size + 1 + 1) (i + 1) (fun j => if j = kid then (1 : Int) else (if j ∈ x.kids.take i then (1 : Int) else 0)) := HM1.out
        rw [e] at h2
        exact h2
    · have hlt' : ¬ (i : Int) < (dn : Int) := by omega
      obtain ⟨z0, z1, z2, z3, z4, z5⟩ := cells6 HB1.out
      obtain ⟨y0, y1, y2, y3, y4⟩ := cf_of HB2.out
      go_wp2
      go_ret
      exact ⟨rfl, HB.out⟩
end
end Go.Proofs.Ytgjphmlmndcaeaa

namespace Go.Proofs.Ytgjphmlmndcaeaa
open Go.RowKit Go.Maps
open Go.Lib (compareBytes)
set_option maxRecDepth 100000 in
theorem ncheck_yes (F : Nat → Prop) (x : Nd) (hA kA vA dA : Option Addr) (hn hc kn kc vn vc dn dc : Nat) (nd lf fl bl : Int) (inn : Nat) (w : World) (h : NdV w F x hA kA vA dA hn hc kn kc vn vc dn dc) (hf : Fine nd lf inn x) (hc' : cfgOk nd lf inn fl bl) :
    Calls Try.prog 96 #[.agg #[.int .i64 x.lev, .slice hA hn hc, .int .i64 x.right, .slice kA kn kc, .slice vA vn vc, .slice dA dn dc], .agg #[.int .i64 nd, .int .i64 lf, .int .i64 inn, .int .i64 fl, .int .i64 bl]] w fun e w' => e = .returned (.int .i64 0) ∧ Below w.heap.size w w' := by
  have HV := Lib.hid h
  have HF := Lib.hid hf
  have hcc := hc'
  unfold cfgOk at hcc
  have hkl : x.keys.length ≤ 1000 := by
    by_cases h0 : x.lev = 0
    · have := (hf.leaf h0).2.1; omega
    · have h1 := (hf.inner h0).2.1
      have h2 := (hf.inner h0).2.2.1
      omega
  have hkn : kn ≤ 1152921504606 := by have := h.k.len; omega
  have HKL := Lib.hid hkl
  have HC := Lib.hid (cfgE_ok hc')
  have hd1 : decide ((0 : Int) ≤ x.lev ∧ x.lev ≤ 32) = true := decide_eq_true ⟨hf.lev0, hf.lev1⟩
  have hd2 : decide ((0 : Int) ≤ x.right ∧ x.right ≤ nd) = true := decide_eq_true ⟨hf.right0, hf.right1⟩
  have HU := Lib.hid hf.up
  have HKO : Hid (∀ t ∈ x.keys, KeyOk x.high t) := Lib.hid hf.key
  have hh64 : (hn : Int) ≤ 64 := by have := h.h.len; have := hf.high; omega
  obtain ⟨rb, hrb⟩ : ∃ rb, rb = ((hn : Int) == 0) := ⟨_, rfl⟩
  have h31 : ((hn : Int) == 0) = rb := hrb.symm
  have h35 : (x.right == 0) = rb := by
    have hl := h.h.len
    have hx := hf.last
    rw [hrb]
    by_cases hr : x.right = 0
    · have : hn = 0 := by rw [hl, hx.2 hr]; rfl
      rw [hr, this]; rfl
    · have hne : x.high ≠ [] := fun e => hr (hx.1 e)
      have : hn ≠ 0 := fun e => hne (List.eq_nil_of_length_eq_zero (by rw [← hl]; exact e))
      have h1 : (x.right == 0) = false := by simpa using hr
      have h2 : ((hn : Int) == 0) = false := by simp; exact this
      rw [h1, h2]
  have hi64 : inn ≤ 64 := by omega
  have hnd : nd ≤ 65536 := by omega
  have hmf : ∀ (fn : Fn) (first cap : Array Value) (w : World), (Instr.makeFunc fn first cap).run Try.prog w = .ok (.func fn first cap) w := fun _ _ _ _ => rfl
  clear hrb hkl
  by_cases h0 : x.lev = 0
  · have H0 := Lib.hid h0
    have h59 : (x.lev == 0) = true := by simpa using h0
    clear h h0 hf hc' hcc
    skip
    go_enter Try.func96, Try.ntmps96
    go_wp2_with (first | (go_at_call 30; refine (config_any nd lf inn fl bl _).mono ?_; rintro e w1 ⟨rfl, hb1⟩; rw [HC.out]; have HB1 : Hid (Below w.heap.size w w1) := Lib.hid ((((Below.refl _ _).alloc (Nat.le_refl _) _).alloc (by simp) _).trans (hb1.mono (by simp; omega))); have HX1 : Hid (Blk w1 w.heap.size 93 #[.int .i64 x.lev, .slice hA hn hc, .int .i64 x.right, .slice kA kn kc, .slice vA vn vc, .slice dA dn dc]) := Lib.hid (by have := ((Blk.new w 93 #[.int .i64 x.lev, .slice hA hn hc, .int .i64 x.right, .slice kA kn kc, .slice vA vn vc, .slice dA dn dc]).alloc (.cells #[.int .i64 nd, .int .i64 lf, .int .i64 inn, .int .i64 fl, .int .i64 bl] 23)).below hb1; exact this); have HY1 : Hid (Blk w1 (w.heap.size + 1) 23 #[.int .i64 nd, .int .i64 lf, .int .i64 inn, .int .i64 fl, .int .i64 bl]) := Lib.hid (by have := (Blk.new (w.alloc (.cells #[.int .i64 x.lev, .slice hA hn hc, .int .i64 x.right, .slice kA kn kc, .slice vA vn vc, .slice dA dn dc] 93)) 23 #[.int .i64 nd, .int .i64 lf, .int .i64 inn, .int .i64 fl, .int .i64 bl]).below hb1; simpa using this); obtain ⟨z0, z1, z2, z3, z4, z5⟩ := cells6 HX1.out; obtain ⟨y0, y1, y2, y3, y4⟩ := cf_of HY1.out; clear hb1) | (go_at_call_of 53 (x.lev); go_loud (refine (between_any x.lev 0 32 _).mono ?_); rintro e w' ⟨rfl, rfl⟩; rw [hd1]) | (go_at_call_of 53 (x.right); go_loud (refine (between_any x.right 0 nd _).mono ?_); rintro e w' ⟨rfl, rfl⟩; rw [hd2]) | (go_at_call 110; go_loud (refine (rising_yes F kA kn kc x.keys _ (HV.out.below HB1.out).k hkn HU.out).mono ?_); rintro e w2 ⟨rfl, hb2⟩; have HB2 : Hid (Below w.heap.size w w2) := Lib.hid (HB1.out.trans (hb2.mono HB1.out.size)); have HX2 := Lib.hid (HX1.out.below hb2); have HY2 := Lib.hid (HY1.out.below hb2); obtain ⟨z0, z1, z2, z3, z4, z5⟩ := cells6 HX2.out; obtain ⟨y0, y1, y2, y3, y4⟩ := cf_of HY2.out; clear hb2) | (go_at_call 111; go_loud (refine (ck_contains #[.pointer (some ⟨w.heap.size, 0, none⟩)] F kA kn kc x.keys _ (HV.out.below HB2.out).k hkn (fun W Ak nk ck t hb ht hbt => ck1_no F F x.high t _ _ _ _ _ w.heap.size hA Ak hn hc nk ck W (HX2.out.below hb) ((HV.out.below HB2.out).below hb).h hbt (HKO.out t ht))).mono ?_); rintro e w3 ⟨rfl, hb3⟩; have HB3 : Hid (Below w.heap.size w w3) := Lib.hid (HB2.out.trans (hb3.mono HB2.out.size)); have HX3 := Lib.hid (HX2.out.below hb3); have HY3 := Lib.hid (HY2.out.below hb3); obtain ⟨z0, z1, z2, z3, z4, z5⟩ := cells6 HX3.out; obtain ⟨y0, y1, y2, y3, y4⟩ := cf_of HY3.out; clear hb3) | (go_at_call 115; go_loud (refine (leafForm_yes F x hA kA vA dA hn hc kn kc vn vc dn dc nd lf fl bl inn _ (HV.out.below HB3.out) HF.out H0.out HKL.out).mono ?_); rintro e w4 ⟨rfl, hb4⟩; have HB4 : Hid (Below w.heap.size w w4) := Lib.hid (HB3.out.trans (hb4.mono HB3.out.size)); clear hb4))
    go_ret
    exact ⟨rfl, HB4.out⟩
  · have H0 := Lib.hid h0
    have h59 : (x.lev == 0) = false := by simpa using h0
    clear h h0 hf hc' hcc
    skip
    go_enter Try.func96, Try.ntmps96
    go_wp2_with (first | (go_at_call 30; refine (config_any nd lf inn fl bl _).mono ?_; rintro e w1 ⟨rfl, hb1⟩; rw [HC.out]; have HB1 : Hid (Below w.heap.size w w1) := Lib.hid ((((Below.refl _ _).alloc (Nat.le_refl _) _).alloc (by simp) _).trans (hb1.mono (by simp; omega))); have HX1 : Hid (Blk w1 w.heap.size 93 #[.int .i64 x.lev, .slice hA hn hc, .int .i64 x.right, .slice kA kn kc, .slice vA vn vc, .slice dA dn dc]) := Lib.hid (by have := ((Blk.new w 93 #[.int .i64 x.lev, .slice hA hn hc, .int .i64 x.right, .slice kA kn kc, .slice vA vn vc, .slice dA dn dc]).alloc (.cells #[.int .i64 nd, .int .i64 lf, .int .i64 inn, .int .i64 fl, .int .i64 bl] 23)).below hb1; exact this); have HY1 : Hid (Blk w1 (w.heap.size + 1) 23 #[.int .i64 nd, .int .i64 lf, .int .i64 inn, .int .i64 fl, .int .i64 bl]) := Lib.hid (by have := (Blk.new (w.alloc (.cells #[.int .i64 x.lev, .slice hA hn hc, .int .i64 x.right, .slice kA kn kc, .slice vA vn vc, .slice dA dn dc] 93)) 23 #[.int .i64 nd, .int .i64 lf, .int .i64 inn, .int .i64 fl, .int .i64 bl]).below hb1; simpa using this); obtain ⟨z0, z1, z2, z3, z4, z5⟩ := cells6 HX1.out; obtain ⟨y0, y1, y2, y3, y4⟩ := cf_of HY1.out; clear hb1) | (go_at_call_of 53 (x.lev); go_loud (refine (between_any x.lev 0 32 _).mono ?_); rintro e w' ⟨rfl, rfl⟩; rw [hd1]) | (go_at_call_of 53 (x.right); go_loud (refine (between_any x.right 0 nd _).mono ?_); rintro e w' ⟨rfl, rfl⟩; rw [hd2]) | (go_at_call 110; go_loud (refine (rising_yes F kA kn kc x.keys _ (HV.out.below HB1.out).k hkn HU.out).mono ?_); rintro e w2 ⟨rfl, hb2⟩; have HB2 : Hid (Below w.heap.size w w2) := Lib.hid (HB1.out.trans (hb2.mono HB1.out.size)); have HX2 := Lib.hid (HX1.out.below hb2); have HY2 := Lib.hid (HY1.out.below hb2); obtain ⟨z0, z1, z2, z3, z4, z5⟩ := cells6 HX2.out; obtain ⟨y0, y1, y2, y3, y4⟩ := cf_of HY2.out; clear hb2) | (go_at_call 111; go_loud (refine (ck_contains #[.pointer (some ⟨w.heap.size, 0, none⟩)] F kA kn kc x.keys _ (HV.out.below HB2.out).k hkn (fun W Ak nk ck t hb ht hbt => ck1_no F F x.high t _ _ _ _ _ w.heap.size hA Ak hn hc nk ck W (HX2.out.below hb) ((HV.out.below HB2.out).below hb).h hbt (HKO.out t ht))).mono ?_); rintro e w3 ⟨rfl, hb3⟩; have HB3 : Hid (Below w.heap.size w w3) := Lib.hid (HB2.out.trans (hb3.mono HB2.out.size)); have HX3 := Lib.hid (HX2.out.below hb3); have HY3 := Lib.hid (HY2.out.below hb3); obtain ⟨z0, z1, z2, z3, z4, z5⟩ := cells6 HX3.out; obtain ⟨y0, y1, y2, y3, y4⟩ := cf_of HY3.out; clear hb3) | (go_at_call 114; go_loud (refine (innerForm_yes F x hA kA vA dA hn hc kn kc vn vc dn dc nd lf fl bl inn _ (HV.out.below HB3.out) HF.out H0.out hi64 hnd).mono ?_); rintro e w4 ⟨rfl, hb4⟩; have HB4 : Hid (Below w.heap.size w w4) := Lib.hid (HB3.out.trans (hb4.mono HB3.out.size)); clear hb4))
    go_ret
    exact ⟨rfl, HB4.out⟩
end Go.Proofs.Ytgjphmlmndcaeaa

namespace Go.Proofs.Ytgjphmlmndcaeaa
open Go.RowKit
/-- the answer is a node in new memory, and that it is there -/
def NewRead (w : World) (x : Nd) (e : Ending) (w' : World) : Prop :=
  ∃ hA hn hc kA kn kc vA vn vc dA dn dc, e = .returned (.tuple #[.agg #[.int .i64 x.lev, .slice hA hn hc, .int .i64 x.right, .slice kA kn kc, .slice vA vn vc, .slice dA dn dc], .bool true]) ∧ NdV w' (From w.heap.size) x hA kA vA dA hn hc kn kc vn vc dn dc ∧ Below w.heap.size w w'
theorem chg6 {b : Nat} {w : World} (u0 u1 u2 u3 u4 u5 : Value) : Chg (One b) w ((((((w.setCell ⟨b, 0, none⟩ u0).setCell ⟨b, 1, none⟩ u1).setCell ⟨b, 2, none⟩ u2).setCell ⟨b, 3, none⟩ u3).setCell ⟨b, 4, none⟩ u4).setCell ⟨b, 5, none⟩ u5) :=
  (((((Chg.set1 w b 0 u0).setCell (p := ⟨b, 1, none⟩) (fun _ => rfl) u1).setCell (p := ⟨b, 2, none⟩) (fun _ => rfl) u2).setCell (p := ⟨b, 3, none⟩) (fun _ => rfl) u3).setCell (p := ⟨b, 4, none⟩) (fun _ => rfl) u4).setCell (p := ⟨b, 5, none⟩) (fun _ => rfl) u5
set_option maxRecDepth 100000 in
set_option maxHeartbeats 2000000 in
theorem read_in (F : Nat → Prop) (p : Nat) (nodes root : Int) (sl : List Slt) (id : Int) (s : Slt) (w : World) (h : ArX w F p nodes sl root) (h1 : 1 ≤ id) (h2 : id ≤ sl.length) (hn : sl.length ≤ 65536) (hs : sl[id.toNat - 1]? = some s) (hsm : Small s.2) :
    Calls Try.prog 49 #[.pointer (some ⟨p, 0, none⟩), .int .i64 id] w (NewRead w s.2) := by
  have HX := Lib.hid h
  have HS := Lib.hid hs
  have HSM := Lib.hid hsm
  have HN := Lib.hid hn
  have b0 : Below w.heap.size w (w.alloc (.cells #[.int .i64 0, .slice none 0 0, .int .i64 0, .slice none 0 0, .slice none 0 0, .slice none 0 0] 93)) := (Below.refl _ _).alloc (Nat.le_refl _) _
  have B0 := Lib.hid b0
  clear h hs hsm hn b0
  go_enter Try.func49, Try.ntmps49
  go_wp2_with (first | (go_at_call 79; go_loud (refine (head_in F p nodes root sl id s _ (HX.out.below B0.out) h1 h2 HN.out HS.out HSM.out.1).mono ?_); rintro e w1 ⟨A1, n1, c1, rfl, r1, hb1⟩; have HR1 := Lib.hid r1; have HB1 := Lib.hid (B0.out.trans (hb1.mono (by simp))); have K1 := Lib.hid ((Blk.new w 93 #[.int .i64 0, .slice none 0 0, .int .i64 0, .slice none 0 0, .slice none 0 0, .slice none 0 0]).below hb1); have L1 : Hid (Below w.heap.size w (w1.alloc (.cells #[.int .i64 s.2.lev, .slice A1 n1 c1, .int .i64 s.2.right] 88))) := Lib.hid (HB1.out.alloc HB1.out.size _); clear hb1 r1) | (go_at_call 80; go_loud (refine (body_in F p nodes root sl id s _ (HX.out.below L1.out) h1 h2 HN.out HS.out HSM.out).mono ?_); rintro e w2 ⟨A2, n2, c2, A3, n3, c3, A4, n4, c4, rfl, _, r2, r3, r4, hb2⟩; have HR2 := Lib.hid r2; have HR3 := Lib.hid r3; have HR4 := Lib.hid r4; have HB2 := Lib.hid hb2; have hb3 : Below w2.heap.size w2 (w2.alloc (.cells #[.slice A2 n2 c2, .slice A3 n3 c3, .slice A4 n4 c4] 91)) := (Below.refl _ _).alloc (Nat.le_refl _) _; have HB3 := Lib.hid hb3; have K2 := Lib.hid (((K1.out.alloc (.cells #[.int .i64 s.2.lev, .slice A1 n1 c1, .int .i64 s.2.right] 88)).below hb2).below hb3); obtain ⟨z0, z1, z2, z3, z4, z5⟩ := cells6 K2.out; have zf := K2.out.frozen; have y0 := bkeep hb3 (bkeep (b := w1.heap.size) (o := 0) (v := .int .i64 s.2.lev) hb2 (by simp)); have y1 := bkeep hb3 (bkeep (b := w1.heap.size) (o := 1) (v := .slice A1 n1 c1) hb2 (by simp)); have y2 := bkeep hb3 (bkeep (b := w1.heap.size) (o := 2) (v := .int .i64 s.2.right) hb2 (by simp)); have hl1 := K1.out.lt; have hl2 := K2.out.lt; clear hb2 hb3 r2 r3 r4))
  refine bodyPost_ret (v := .tuple #[.agg #[.int .i64 s.2.lev, .slice A1 n1 c1, .int .i64 s.2.right, .slice A2 n2 c2, .slice A3 n3 c3, .slice A4 n4 c4], .bool true]) (by simp [results, Try.results49, go_sem, *]) rfl ?_
  obtain ⟨w3, hw3⟩ : ∃ x, x = w2.alloc (.cells #[.slice A2 n2 c2, .slice A3 n3 c3, .slice A4 n4 c4] 91) := ⟨_, rfl⟩
  rw [← hw3]
  have hb3 : Below w2.heap.size w2 w3 := by rw [hw3]; exact HB3.out
  have hch := chg6 (b := w.heap.size) (w := w3) (.int .i64 s.2.lev) (.slice A1 n1 c1) (.int .i64 s.2.right) (.slice A2 n2 c2) (.slice A3 n3 c3) (.slice A4 n4 c4)
  have no : ∀ b, From (w.heap.size + 1) b → ¬ One w.heap.size b := fun b hb e => by simp only [From, One] at hb e; omega
  have wk : ∀ b, From (w.heap.size + 1) b → From w.heap.size b := fun b hb => by simp only [From] at hb ⊢; omega
  have s1 : w.heap.size + 1 ≤ w1.heap.size := hl1
  have s2 : w1.heap.size + 1 ≤ w2.heap.size := by have := HB2.out.size; simpa using this
  have f2 : ∀ b, From (w1.alloc (.cells #[.int .i64 s.2.lev, .slice A1 n1 c1, .int .i64 s.2.right] 88)).heap.size b → From (w.heap.size + 1) b := fun b hb => by
    have e : (w1.alloc (.cells #[.int .i64 s.2.lev, .slice A1 n1 c1, .int .i64 s.2.right] 88)).heap.size = w1.heap.size + 1 := by simp
    simp only [From] at hb ⊢; omega
  have q1 : Bt w3 (From (w.heap.size + 1)) A1 n1 c1 s.2.high := (((HR1.out.weak (fun b hb => by have hb := hb.1; simpa [From] using hb)).below ((Below.refl _ _).alloc (Nat.le_refl _) _)).below HB2.out).below hb3
  have q2 := ((HR2.out.weak f2).below hb3).chg hch no
  have q3 := ((HR3.out.weak f2).below hb3).chg hch no
  have q4 := ((HR4.out.weak f2).below hb3).chg hch no
  have hB : Below w.heap.size w w3 := (L1.out.trans (HB2.out.mono (by simp; omega))).trans (hb3.mono (by omega))
  exact ⟨A1, n1, c1, A2, n2, c2, A3, n3, c3, A4, n4, c4, rfl, ⟨(q1.chg hch no).weak wk, q2.weak wk, q3.weak wk, q4.weak wk⟩, hB.trans (hch.below_of hB.size (fun b hb e => by simp only [One] at e; omega))⟩
def I64 (c : Int) : Prop := -9223372036854775808 ≤ c ∧ c ≤ 9223372036854775807
set_option maxRecDepth 100000 in
set_option maxHeartbeats 2000000 in
theorem fit_any (a b c d f : Int) (ha : I64 a) (hb : I64 b) (hc : I64 c) (hd : I64 d) (hf : I64 f) (w : World) :
    Calls Try.prog 22 #[.agg #[.int .i64 a, .int .i64 b, .int .i64 c, .int .i64 d, .int .i64 f]] w fun e w' => e = .returned (.agg #[.int .i64 (1 + pick a 60), .int .i64 (2 + pick b 5), .int .i64 (3 + pick c 4), .int .i64 (1 + pick d 2), .int .i64 (1 + pick f 8)]) ∧ Below w.heap.size w w' := by
  have p1 := pick_lt (c := a) (n := 60) (by omega)
  have p2 := pick_lt (c := b) (n := 5) (by omega)
  have p3 := pick_lt (c := c) (n := 4) (by omega)
  have p4 := pick_lt (c := d) (n := 2) (by omega)
  have p5 := pick_lt (c := f) (n := 8) (by omega)
  have w1 := IntWalk.i64_in (1 + pick a 60) (by omega)
  have w2 := IntWalk.i64_in (2 + pick b 5) (by omega)
  have w3 := IntWalk.i64_in (3 + pick c 4) (by omega)
  have w4 := IntWalk.i64_in (1 + pick d 2) (by omega)
  have w5 := IntWalk.i64_in (1 + pick f 8) (by omega)
  have A := Lib.hid ha; have B := Lib.hid hb; have C := Lib.hid hc; have D := Lib.hid hd; have F := Lib.hid hf
  obtain ⟨wz, hwz⟩ : ∃ x, x = (w.alloc (.cells #[.int .i64 a, .int .i64 b, .int .i64 c, .int .i64 d, .int .i64 f] 23)).alloc (.cells #[.int .i64 0, .int .i64 0, .int .i64 0, .int .i64 0, .int .i64 0] 23) := ⟨_, rfl⟩
  have hk : Blk wz w.heap.size 23 #[.int .i64 a, .int .i64 b, .int .i64 c, .int .i64 d, .int .i64 f] := by rw [hwz]; exact (Blk.new w _ _).alloc _
  have hk2 : Blk wz (w.heap.size + 1) 23 #[.int .i64 0, .int .i64 0, .int .i64 0, .int .i64 0, .int .i64 0] := by
    have := Blk.new (w.alloc (.cells #[.int .i64 a, .int .i64 b, .int .i64 c, .int .i64 d, .int .i64 f] 23)) 23 #[.int .i64 0, .int .i64 0, .int .i64 0, .int .i64 0, .int .i64 0]
    rw [hwz]; simpa using this
  have HBZ : Hid (Below w.heap.size w wz) := Lib.hid (by rw [hwz]; exact ((Below.refl _ _).alloc (Nat.le_refl _) _).alloc (by simp) _)
  have HK2 := Lib.hid hk2
  obtain ⟨y0, y1, y2, y3, y4⟩ : (wz.cell? ⟨w.heap.size, 0, none⟩ = some (.int .i64 a)) ∧ (wz.cell? ⟨w.heap.size, 1, none⟩ = some (.int .i64 b)) ∧ (wz.cell? ⟨w.heap.size, 2, none⟩ = some (.int .i64 c)) ∧ (wz.cell? ⟨w.heap.size, 3, none⟩ = some (.int .i64 d)) ∧ (wz.cell? ⟨w.heap.size, 4, none⟩ = some (.int .i64 f)) := ⟨hk.cell 0, hk.cell 1, hk.cell 2, hk.cell 3, hk.cell 4⟩
  obtain ⟨wd, hwd⟩ : ∃ x, x = wz.drew := ⟨_, rfl⟩
  have HBD : Hid (Below w.heap.size w wd) := Lib.hid (by rw [hwd]; exact HBZ.out.drew)
  have HKD : Hid (Blk wd (w.heap.size + 1) 23 #[.int .i64 0, .int .i64 0, .int .i64 0, .int .i64 0, .int .i64 0]) := Lib.hid (by rw [hwd]; exact hk2.drew)
  have hkd : Blk wd w.heap.size 23 #[.int .i64 a, .int .i64 b, .int .i64 c, .int .i64 d, .int .i64 f] := by rw [hwd]; exact hk.drew
  have S0 : wd.cell? ⟨w.heap.size, 0, none⟩ = some (.int .i64 a) ∧ wd.cell? ⟨w.heap.size, 1, none⟩ = some (.int .i64 b) ∧ wd.cell? ⟨w.heap.size, 2, none⟩ = some (.int .i64 c) ∧ wd.cell? ⟨w.heap.size, 3, none⟩ = some (.int .i64 d) ∧ wd.cell? ⟨w.heap.size, 4, none⟩ = some (.int .i64 f) := ⟨hkd.cell 0, hkd.cell 1, hkd.cell 2, hkd.cell 3, hkd.cell 4⟩
  obtain ⟨x0, x1, x2, x3, x4⟩ : (wd.cell? ⟨w.heap.size + 1, 0, none⟩ = some (.int .i64 0)) ∧ (wd.cell? ⟨w.heap.size + 1, 1, none⟩ = some (.int .i64 0)) ∧ (wd.cell? ⟨w.heap.size + 1, 2, none⟩ = some (.int .i64 0)) ∧ (wd.cell? ⟨w.heap.size + 1, 3, none⟩ = some (.int .i64 0)) ∧ (wd.cell? ⟨w.heap.size + 1, 4, none⟩ = some (.int .i64 0)) := ⟨HKD.out.cell 0, HKD.out.cell 1, HKD.out.cell 2, HKD.out.cell 3, HKD.out.cell 4⟩
  have xf : ∀ o, wd.frozen? ⟨w.heap.size + 1, o, none⟩ = false := HKD.out.frozen
  clear ha hb hc hd hf hk hk2 hkd y0 y1 y2 y3 y4
  go_enter Try.func22, Try.ntmps22
  go_upto_region 1 with fail
  rw [← hwz]
  clear hwz
  refine wp_region_U (fun w' => w'.cell? ⟨w.heap.size, 0, none⟩ = some (.int .i64 a) ∧ w'.cell? ⟨w.heap.size, 1, none⟩ = some (.int .i64 b) ∧ w'.cell? ⟨w.heap.size, 2, none⟩ = some (.int .i64 c) ∧ w'.cell? ⟨w.heap.size, 3, none⟩ = some (.int .i64 d) ∧ w'.cell? ⟨w.heap.size, 4, none⟩ = some (.int .i64 f)) 21 (by kernel_rfl) ?_
  rw [← hwd]
  clear hwd
  refine wpU_free (i := 0) (v := ?_) rfl (by kernel_rfl) (by kernel_rfl) (by kernel_rfl) (by kernel_rfl) (by first | exact fun _ _ _ h => h | exact fun c a w h => HQP.out c _ a w h) (fun _ => S0) (Or.inl ⟨by kernel_rfl, ?_⟩) ?_
  rotate_left
  · intro w hSw
    go_simp
    try with_reducible rfl
  try simp only [Act.put, List.setIfInBounds_toArray, List.set_cons_zero, List.set_cons_succ]
  refine wpU_free (i := 4) (v := ?_) rfl (by kernel_rfl) (by kernel_rfl) (by kernel_rfl) (by kernel_rfl) (by first | exact fun _ _ _ h => h | exact fun c a w h => HQP.out c _ a w h) (fun _ => S0) (Or.inl ⟨by kernel_rfl, ?_⟩) ?_
  rotate_left
  · intro w hSw
    go_simp
    try with_reducible rfl
  try simp only [Act.put, List.setIfInBounds_toArray, List.set_cons_zero, List.set_cons_succ]
  refine wpU_free (i := 8) (v := ?_) rfl (by kernel_rfl) (by kernel_rfl) (by kernel_rfl) (by kernel_rfl) (by first | exact fun _ _ _ h => h | exact fun c a w h => HQP.out c _ a w h) (fun _ => S0) (Or.inl ⟨by kernel_rfl, ?_⟩) ?_
  rotate_left
  · intro w hSw
    go_simp
    try with_reducible rfl
  try simp only [Act.put, List.setIfInBounds_toArray, List.set_cons_zero, List.set_cons_succ]
  refine wpU_free (i := 12) (v := ?_) rfl (by kernel_rfl) (by kernel_rfl) (by kernel_rfl) (by kernel_rfl) (by first | exact fun _ _ _ h => h | exact fun c a w h => HQP.out c _ a w h) (fun _ => S0) (Or.inl ⟨by kernel_rfl, ?_⟩) ?_
  rotate_left
  · intro w hSw
    go_simp
    try with_reducible rfl
  try simp only [Act.put, List.setIfInBounds_toArray, List.set_cons_zero, List.set_cons_succ]
  refine wpU_free (i := 16) (v := ?_) rfl (by kernel_rfl) (by kernel_rfl) (by kernel_rfl) (by kernel_rfl) (by first | exact fun _ _ _ h => h | exact fun c a w h => HQP.out c _ a w h) (fun _ => S0) (Or.inl ⟨by kernel_rfl, ?_⟩) ?_
  rotate_left
  · intro w hSw
    go_simp
    try with_reducible rfl
  try simp only [Act.put, List.setIfInBounds_toArray, List.set_cons_zero, List.set_cons_succ]
  refine wpU_take (i := 1) (v := ?_) rfl (by kernel_rfl) (by kernel_rfl) (by kernel_rfl) (by kernel_rfl) (by first | exact fun _ _ _ h => h | exact fun c a w h => HQP.out c _ a w h) S0 (Or.inl ⟨by kernel_rfl, ?_⟩) ?_
  rotate_left
  · intro w hSw
    obtain ⟨s0, s1, s2, s3, s4⟩ := hSw
    go_simp
    try with_reducible rfl
  try simp only [Act.put, List.setIfInBounds_toArray, List.set_cons_zero, List.set_cons_succ]
  refine wpU_take (i := 5) (v := ?_) rfl (by kernel_rfl) (by kernel_rfl) (by kernel_rfl) (by kernel_rfl) (by first | exact fun _ _ _ h => h | exact fun c a w h => HQP.out c _ a w h) S0 (Or.inl ⟨by kernel_rfl, ?_⟩) ?_
  rotate_left
  · intro w hSw
    obtain ⟨s0, s1, s2, s3, s4⟩ := hSw
    go_simp
    try with_reducible rfl
  try simp only [Act.put, List.setIfInBounds_toArray, List.set_cons_zero, List.set_cons_succ]
  refine wpU_take (i := 9) (v := ?_) rfl (by kernel_rfl) (by kernel_rfl) (by kernel_rfl) (by kernel_rfl) (by first | exact fun _ _ _ h => h | exact fun c a w h => HQP.out c _ a w h) S0 (Or.inl ⟨by kernel_rfl, ?_⟩) ?_
  rotate_left
  · intro w hSw
    obtain ⟨s0, s1, s2, s3, s4⟩ := hSw
    go_simp
    try with_reducible rfl
  try simp only [Act.put, List.setIfInBounds_toArray, List.set_cons_zero, List.set_cons_succ]
  refine wpU_take (i := 13) (v := ?_) rfl (by kernel_rfl) (by kernel_rfl) (by kernel_rfl) (by kernel_rfl) (by first | exact fun _ _ _ h => h | exact fun c a w h => HQP.out c _ a w h) S0 (Or.inl ⟨by kernel_rfl, ?_⟩) ?_
  rotate_left
  · intro w hSw
    obtain ⟨s0, s1, s2, s3, s4⟩ := hSw
    go_simp
    try with_reducible rfl
  try simp only [Act.put, List.setIfInBounds_toArray, List.set_cons_zero, List.set_cons_succ]
  refine wpU_take (i := 17) (v := ?_) rfl (by kernel_rfl) (by kernel_rfl) (by kernel_rfl) (by kernel_rfl) (by first | exact fun _ _ _ h => h | exact fun c a w h => HQP.out c _ a w h) S0 (Or.inl ⟨by kernel_rfl, ?_⟩) ?_
  rotate_left
  · intro w hSw
    obtain ⟨s0, s1, s2, s3, s4⟩ := hSw
    go_simp
    try with_reducible rfl
  try simp only [Act.put, List.setIfInBounds_toArray, List.set_cons_zero, List.set_cons_succ]
  refine wpU_one (i := 2) (by kernel_rfl) rfl (fun K hK => ?_)
  go_simp
  refine (pick_any a 60 A.out.1 A.out.2 (by omega) (by omega) _).mono ?_; rintro e w' ⟨rfl, rfl⟩
  refine hK.out _ _ (fun _ => S0) ?_
  clear hK K
  try simp only [Act.put, List.setIfInBounds_toArray, List.set_cons_zero, List.set_cons_succ]
  refine wpU_free (i := 3) (v := ?_) rfl (by kernel_rfl) (by kernel_rfl) (by kernel_rfl) (by kernel_rfl) (by first | exact fun _ _ _ h => h | exact fun c a w h => HQP.out c _ a w h) (fun _ => S0) (Or.inl ⟨by kernel_rfl, ?_⟩) ?_
  rotate_left
  · intro w hSw
    go_simp
    try with_reducible rfl
  try simp only [Act.put, List.setIfInBounds_toArray, List.set_cons_zero, List.set_cons_succ]
  refine wpU_one (i := 6) (by kernel_rfl) rfl (fun K hK => ?_)
  go_simp
  refine (pick_any b 5 B.out.1 B.out.2 (by omega) (by omega) _).mono ?_; rintro e w' ⟨rfl, rfl⟩
  refine hK.out _ _ (fun _ => S0) ?_
  clear hK K
  try simp only [Act.put, List.setIfInBounds_toArray, List.set_cons_zero, List.set_cons_succ]
  refine wpU_free (i := 7) (v := ?_) rfl (by kernel_rfl) (by kernel_rfl) (by kernel_rfl) (by kernel_rfl) (by first | exact fun _ _ _ h => h | exact fun c a w h => HQP.out c _ a w h) (fun _ => S0) (Or.inl ⟨by kernel_rfl, ?_⟩) ?_
  rotate_left
  · intro w hSw
    go_simp
    try with_reducible rfl
  try simp only [Act.put, List.setIfInBounds_toArray, List.set_cons_zero, List.set_cons_succ]
  refine wpU_one (i := 10) (by kernel_rfl) rfl (fun K hK => ?_)
  go_simp
  refine (pick_any c 4 C.out.1 C.out.2 (by omega) (by omega) _).mono ?_; rintro e w' ⟨rfl, rfl⟩
  refine hK.out _ _ (fun _ => S0) ?_
  clear hK K
  try simp only [Act.put, List.setIfInBounds_toArray, List.set_cons_zero, List.set_cons_succ]
  refine wpU_free (i := 11) (v := ?_) rfl (by kernel_rfl) (by kernel_rfl) (by kernel_rfl) (by kernel_rfl) (by first | exact fun _ _ _ h => h | exact fun c a w h => HQP.out c _ a w h) (fun _ => S0) (Or.inl ⟨by kernel_rfl, ?_⟩) ?_
  rotate_left
  · intro w hSw
    go_simp
    try with_reducible rfl
  try simp only [Act.put, List.setIfInBounds_toArray, List.set_cons_zero, List.set_cons_succ]
  refine wpU_one (i := 14) (by kernel_rfl) rfl (fun K hK => ?_)
  go_simp
  refine (pick_any d 2 D.out.1 D.out.2 (by omega) (by omega) _).mono ?_; rintro e w' ⟨rfl, rfl⟩
  refine hK.out _ _ (fun _ => S0) ?_
  clear hK K
  try simp only [Act.put, List.setIfInBounds_toArray, List.set_cons_zero, List.set_cons_succ]
  refine wpU_free (i := 15) (v := ?_) rfl (by kernel_rfl) (by kernel_rfl) (by kernel_rfl) (by kernel_rfl) (by first | exact fun _ _ _ h => h | exact fun c a w h => HQP.out c _ a w h) (fun _ => S0) (Or.inl ⟨by kernel_rfl, ?_⟩) ?_
  rotate_left
  · intro w hSw
    go_simp
    try with_reducible rfl
  try simp only [Act.put, List.setIfInBounds_toArray, List.set_cons_zero, List.set_cons_succ]
  refine wpU_one (i := 18) (by kernel_rfl) rfl (fun K hK => ?_)
  go_simp
  refine (pick_any f 8 F.out.1 F.out.2 (by omega) (by omega) _).mono ?_; rintro e w' ⟨rfl, rfl⟩
  refine hK.out _ _ (fun _ => S0) ?_
  clear hK K
  try simp only [Act.put, List.setIfInBounds_toArray, List.set_cons_zero, List.set_cons_succ]
  refine wpU_free (i := 19) (v := ?_) rfl (by kernel_rfl) (by kernel_rfl) (by kernel_rfl) (by kernel_rfl) (by first | exact fun _ _ _ h => h | exact fun c a w h => HQP.out c _ a w h) (fun _ => S0) (Or.inl ⟨by kernel_rfl, ?_⟩) ?_
  rotate_left
  · intro w hSw
    go_simp
    try with_reducible rfl
  try simp only [Act.put, List.setIfInBounds_toArray, List.set_cons_zero, List.set_cons_succ]
  refine wpU_free (i := 20) (v := ?_) rfl (by kernel_rfl) (by kernel_rfl) (by kernel_rfl) (by kernel_rfl) (by first | exact fun _ _ _ h => h | exact fun c a w h => HQP.out c _ a w h) (fun _ => S0) (Or.inl ⟨by kernel_rfl, ?_⟩) ?_
  rotate_left
  · intro w hSw
    go_simp
    try with_reducible rfl
  try simp only [Act.put, List.setIfInBounds_toArray, List.set_cons_zero, List.set_cons_succ]
  refine wpU_one (i := 21) (by kernel_rfl) rfl (fun K hK => ?_)
  go_simp
  refine hK.out _ _ (fun h => absurd h (by decide)) ?_
  clear hK K
  try simp only [Act.put, List.setIfInBounds_toArray, List.set_cons_zero, List.set_cons_succ]
  refine wpU_done (by kernel_rfl) ?_ _
  go_wp2
  refine bodyPost_ret (v := .agg #[.int .i64 (1 + pick a 60), .int .i64 (2 + pick b 5), .int .i64 (3 + pick c 4), .int .i64 (1 + pick d 2), .int .i64 (1 + pick f 8)]) (by simp [results, Try.results22, go_sem, *]) rfl ?_
  have hch : Chg (One (w.heap.size + 1)) wd (((((wd.setCell ⟨w.heap.size + 1, 0, none⟩ (.int .i64 (1 + pick a 60))).setCell ⟨w.heap.size + 1, 1, none⟩ (.int .i64 (2 + pick b 5))).setCell ⟨w.heap.size + 1, 2, none⟩ (.int .i64 (3 + pick c 4))).setCell ⟨w.heap.size + 1, 3, none⟩ (.int .i64 (1 + pick d 2))).setCell ⟨w.heap.size + 1, 4, none⟩ (.int .i64 (1 + pick f 8))) :=
    ((((Chg.set1 wd (w.heap.size + 1) 0 _).setCell (p := ⟨w.heap.size + 1, 1, none⟩) (fun _ => rfl) _).setCell (p := ⟨w.heap.size + 1, 2, none⟩) (fun _ => rfl) _).setCell (p := ⟨w.heap.size + 1, 3, none⟩) (fun _ => rfl) _).setCell (p := ⟨w.heap.size + 1, 4, none⟩) (fun _ => rfl) _
  exact ⟨rfl, HBD.out.trans (hch.below_of HBD.out.size (fun b hb e => by simp only [One] at e; omega))⟩
end Go.Proofs.Ytgjphmlmndcaeaa
