/- The levels of a packed tree, one above the other. No program in sight. WALKS: a packed tree (pack.tree). WALKS: which latches are held; the program's arena. The document's arena in memory, and WALKS: reading it. -/
import Derived.Test.YtgjphmlmndcaeaaPs09
import Derived.Test.YtgjphmlmndcaeaaPs02
import Derived.Test.YtgjphmlmndcaeaaPs06
set_option linter.unusedVariables false
set_option linter.unusedSimpArgs false
namespace Go.Proofs.Ytgjphmlmndcaeaa
open Go.RowKit

/-- into how many parts -/
def pn (n most : Nat) : Nat := (parts (n : Int) (most : Int)).toNat
theorem pn_cast (n most : Nat) (hm : 1 ≤ most) : ((pn n most : Nat) : Int) = parts (n : Int) (most : Int) := by
  have := parts_pos (n := (n : Int)) (most := (most : Int)) (by omega) (by omega)
  unfold pn; omega
theorem pn_bounds (n most : Nat) (hm : 1 ≤ most) (hn : 1 ≤ n) : n ≤ pn n most * most ∧ pn n most * most < n + most := by
  have h := pn_cast n most hm
  have hd := Int.mul_ediv_add_emod (n : Int) (most : Int)
  have h0 := Int.emod_nonneg (n : Int) (show (most : Int) ≠ 0 by omega)
  have h1 := Int.emod_lt_of_pos (n : Int) (show (0 : Int) < (most : Int) by omega)
  have e : (((pn n most) * most : Nat) : Int) = parts (n : Int) (most : Int) * (most : Int) := by rw [Int.natCast_mul, h]
  unfold parts at e
  rw [if_neg (by omega)] at e
  by_cases hr : 0 < (n : Int) % (most : Int)
  · rw [if_pos hr, Int.add_mul, Int.mul_comm ((n : Int) / (most : Int))] at e
    omega
  · rw [if_neg hr, Int.mul_comm ((n : Int) / (most : Int))] at e
    omega
theorem pn_pos (n most : Nat) (hm : 1 ≤ most) : 1 ≤ pn n most := by
  have := parts_pos (n := (n : Int)) (most := (most : Int)) (by omega) (by omega)
  have h := pn_cast n most hm
  omega

abbrev Kd := Int × List UInt8
/-- the kids of a level of M nodes behind d0 others -/
def lvK (d0 M : Nat) (hi : Nat → List UInt8) : List Kd := (List.range M).map fun (i : Nat) => ((d0 : Int) + (i : Int) + 1, hi i)
/-- so many levels at most above kids -/
def ups (inn : Nat) : Nat → Int → List Slt → List Kd → List Slt × List Kd
  | 0, _, done, ks => (done, ks)
  | f + 1, lev, done, ks => if 1 < ks.length then ups inn f (lev + 1) (done ++ (List.range (pn ks.length inn)).map (aboveS inn lev ks done.length (pn ks.length inn))) (lvK done.length (pn ks.length inn) (hiA inn ks)) else (done, ks)
theorem ups_one {inn f : Nat} {lev : Int} {done : List Slt} {ks : List Kd} (h : ¬ 1 < ks.length) : ups inn f lev done ks = (done, ks) := by
  cases f with
  | zero => rfl
  | succ f => rw [ups, if_neg h]
/-- the leaves' level -/
def leafD (fill : Nat) (l : List Ent) : List Slt := (List.range (pn l.length fill)).map (leafS fill l (pn l.length fill))
def leafK (fill : Nat) (l : List Ent) : List Kd := lvK 0 (pn l.length fill) (hiAt fill l)
/-- the slots of a packed tree, and its root -/
def treeOf (fill inn : Nat) (l : List Ent) : List Slt × Int :=
  if l = [] then ([(0, Nd.zero)], 1) else ((ups inn 32 1 (leafD fill l) (leafK fill l)).1, ((ups inn 32 1 (leafD fill l) (leafK fill l)).2.headD (0, [])).1)
theorem treeOf_nil (fill inn : Nat) : treeOf fill inn [] = ([(0, Nd.zero)], 1) := by simp [treeOf]
theorem treeOf_cons {fill inn : Nat} {l : List Ent} (h : l ≠ []) : treeOf fill inn l = ((ups inn 32 1 (leafD fill l) (leafK fill l)).1, ((ups inn 32 1 (leafD fill l) (leafK fill l)).2.headD (0, [])).1) := by rw [treeOf, if_neg h]

theorem lvK_len (d0 M : Nat) (hi : Nat → List UInt8) : (lvK d0 M hi).length = M := by simp [lvK]
/-- what one knows of kids: their numbers, and that their highs are short -/
def KdOk (done : List Slt) (ks : List Kd) : Prop := ks.length ≤ done.length ∧ 1 ≤ ks.length ∧ ∀ k ∈ ks, 1 ≤ k.1 ∧ k.1 ≤ (done.length : Int) ∧ k.2.length ≤ 1152921504606
theorem kdOk_lv {done : List Slt} {M : Nat} {f : Nat → Slt} {hi : Nat → List UInt8} (hM : 1 ≤ M) (h : ∀ i, (hi i).length ≤ 1152921504606) : KdOk (done ++ (List.range M).map f) (lvK done.length M hi) := by
  refine ⟨by simp [lvK], by simpa [lvK] using hM, fun k hk => ?_⟩
  simp only [lvK, List.mem_map, List.mem_range] at hk
  obtain ⟨i, hi', rfl⟩ := hk
  simp only [List.length_append, List.length_map, List.length_range]
  exact ⟨by omega, by omega, h i⟩
theorem hiA_small {inn : Nat} {ks : List Kd} (h : ∀ k ∈ ks, k.2.length ≤ 1152921504606) (i : Nat) : (hiA inn ks i).length ≤ 1152921504606 := by
  unfold hiA kpart
  rcases List.eq_nil_or_concat ((ks.drop (i * inn)).take inn) with e | ⟨L, b, e⟩
  · rw [e]; simp
  · rw [e]
    have : b ∈ (ks.drop (i * inn)).take inn := by rw [e]; simp
    have hb := h b (List.mem_of_mem_drop (List.mem_of_mem_take this))
    simpa using hb
theorem hiAt_small {fill : Nat} {l : List Ent} (h : ∀ e ∈ l, e.1.length ≤ 1152921504606) (i : Nat) : (hiAt fill l i).length ≤ 1152921504606 := by
  unfold hiAt
  split
  · rename_i hi
    refine Nat.le_trans (betw_len _ _) ?_
    rw [List.getD_eq_getElem?_getD, List.getElem?_eq_getElem hi]
    exact h _ (List.getElem_mem hi)
  · simp
/-- the state of the loop over levels: what is still to come -/
def UpSt (nd : Int) (inn : Nat) (k : Nat) (done : List Slt) (ks : List Kd) : Prop := ks.length = 1 ∨ (lv nd inn k (ks.length : Int) ((done.length : Int) - (ks.length : Int))).2 = 0
theorem UpSt.one {nd : Int} {inn : Nat} {done : List Slt} {ks : List Kd} (h : UpSt nd inn 0 done ks) : ks.length = 1 := h.elim id (fun h => by simp [lv] at h)
theorem UpSt.step {nd : Int} {inn k : Nat} {done : List Slt} {ks : List Kd} (hi : 1 ≤ inn) (h : UpSt nd inn (k + 1) done ks) (h1 : 1 < ks.length) {f : Nat → Slt} {g : Nat → List UInt8} :
    ((done.length : Int) + ((pn ks.length inn : Nat) : Int) ≤ nd ∨ pn ks.length inn = 0) ∧ UpSt nd inn k (done ++ (List.range (pn ks.length inn)).map f) (lvK done.length (pn ks.length inn) g) := by
  rcases h with h | h
  · omega
  · have hp := pn_cast ks.length inn hi
    by_cases hf : nd - ((done.length : Int) - (ks.length : Int)) < (ks.length : Int)
    · rw [lv_full hf] at h; simp at h
    · rw [lv_step hf (by omega)] at h
      rw [show (done.length : Int) - (ks.length : Int) + (ks.length : Int) = (done.length : Int) by omega, ← hp] at h
      refine ⟨?_, .inr ?_⟩
      · by_cases hf2 : nd - (done.length : Int) < ((pn ks.length inn : Nat) : Int)
        · rw [lv_full hf2] at h; simp at h
        · exact .inl (by omega)
      · rw [lvK_len, List.length_append, List.length_map, List.length_range]
        rw [show (((done.length + pn ks.length inn : Nat) : Int)) - ((pn ks.length inn : Nat) : Int) = (done.length : Int) by omega]
        exact h
end Go.Proofs.Ytgjphmlmndcaeaa

namespace Go.Proofs.Ytgjphmlmndcaeaa
open Go.RowKit

theorem Ents.lt {w : World} {F : Nat → Prop} {A : Option Addr} {n : Nat} {l : List Ent} (h : Ents w F A n l) : Ents w (fun b => F b ∧ b < w.heap.size) A n l :=
  let ⟨h1, vs, h2, h3⟩ := h; ⟨h1, vs, h2.lt (by omega), fun i e he => let ⟨u, v, a, b, c, d⟩ := h3 i e he; ⟨u, v, a, b, c.lt, d.lt⟩⟩
/-- the answer is an arena of these slots, in new memory -/
def NewTree (w : World) (nodes : Int) (t : List Slt × Int) (e : Ending) (w' : World) : Prop :=
  ∃ p, e = .returned (.pointer (some ⟨p, 0, none⟩)) ∧ ArX w' (From w.heap.size) p nodes t.1 t.2 ∧ Below w.heap.size w w'

theorem tree_nil (nd lf bl : Int) (inn fill : Nat) (A : Option Addr) (c : Nat) (w : World) (h1 : 1 ≤ nd) (h2 : nd ≤ 65536) :
    Calls Try.prog 33 #[.agg #[.int .i64 nd, .int .i64 lf, .int .i64 inn, .int .i64 fill, .int .i64 bl], .slice A 0 c] w (NewTree w nd ([(0, Nd.zero)], 1)) := by
  go_enter Try.func33, Try.ntmps33
  go_wp2_with (go_at_call 60; refine (anew_ok nd h1 h2 _).mono ?_; rintro e w1 ⟨p, rfl, q1, q2⟩; have HQ1 := Lib.hid q1; have HQ2 := Lib.hid q2; clear q1 q2)
  go_ret
  exact ⟨p, rfl, HQ1.out.weak (fun b hb => by simp only [From, World.size_alloc] at hb ⊢; omega), ((Below.refl _ _).alloc (Nat.le_refl _) _).trans (HQ2.out.mono (by simp))⟩

/-- the maker behind some levels -/
def TopSt (w wr : World) (p mm : Nat) (nd : Int) (done : List Slt) (top : Value) (ks : List Kd) : Prop :=
  ∃ F base, MakerSt wr F p mm nd 1 done ∧ KidRow wr (Off F mm) base top ks ∧ (∀ b, F b → w.heap.size < b) ∧ Below w.heap.size w wr
theorem Lv.top {w w0 wr : World} {F F' : Nat → Prop} {p mm : Nat} {nd : Int} {done : List Slt} {f : Nat → Slt} {hi : Nat → List UInt8} {M : Nat} {v : Value} (h : Lv w0 wr F F' p mm nd 1 done f hi M v) (hF : ∀ b, F b → w.heap.size < b) (hm : w.heap.size ≤ mm) (hl : w.heap.size < w0.heap.size) (hb : Below w.heap.size w w0) :
    TopSt w wr p mm nd (done ++ (List.range M).map f) v (lvK done.length M hi) :=
  ⟨F', w0.heap.size, h.st, h.row, fun b hb' => (h.sub b hb').elim (hF b) (fun h => by omega), hb.trans (h.chg.below_of hb.size (fun b hb' hs => hs.elim (fun h => by have := hF b h; omega) (fun h => by omega)))⟩

set_option maxRecDepth 100000 in
set_option maxHeartbeats 4000000 in
theorem tree_cons (nd lf bl : Int) (inn fill : Nat) (A : Option Addr) (n c : Nat) (F0 : Nat → Prop) (l : List Ent) (w : World) (h1 : 1 ≤ nd) (h2 : nd ≤ 65536) (hi1 : 3 ≤ inn) (hi2 : inn ≤ 64) (hf1 : 1 ≤ fill) (hf2 : fill ≤ 64) (hE : Ents w F0 A n l) (hnc : n ≤ c) (hcm : c ≤ maxLen) (hn : n ≤ 1152921504606) (hpos : 0 < n)
    (hsm : ∀ e ∈ l, e.1.length ≤ 1152921504606 ∧ e.2.length ≤ 1152921504606) (hlv : (lv nd inn 32 (parts n fill) 0).2 = 0) :
    Calls Try.prog 33 #[.agg #[.int .i64 nd, .int .i64 lf, .int .i64 inn, .int .i64 fill, .int .i64 bl], .slice A n c] w (NewTree w nd (treeOf fill inn l)) := by
  have HL := Lib.hid hE.len
  have hne : l ≠ [] := fun e => by have := HL.out; rw [e] at this; simp at this; omega
  have HNE := Lib.hid hne
  have HE := Lib.hid hE.lt
  have HS := Lib.hid hsm
  have hM1 := pn_bounds l.length fill hf1 (by have := HL.out; omega)
  have hpc := pn_cast l.length fill hf1
  have hMn : ((pn l.length fill : Nat) : Int) ≤ nd := by
    rw [hpc, ← HL.out]
    by_cases hf : nd - 0 < parts n fill
    · rw [lv_full hf] at hlv; simp at hlv
    · omega
  have HUP : Hid (UpSt nd inn 32 (leafD fill l) (leafK fill l)) := Lib.hid (.inr (by
    have e1 : (leafD fill l).length = pn l.length fill := by simp [leafD]
    have e2 : (leafK fill l).length = pn l.length fill := lvK_len _ _ _
    rw [e1, e2, hpc, ← HL.out, Int.sub_self]; exact hlv))
  have HM := Lib.hid hM1
  have HMN := Lib.hid hMn
  clear hne hE hsm hM1 hpc hMn hlv
  have hn0 : ((n : Int) == 0) = false := by rw [beq_eq_false_iff_ne]; omega
  go_enter Try.func33, Try.ntmps33
  go_wp2_with (first | (go_at_call 60; refine (anew_ok nd h1 h2 _).mono ?_; rintro e w1 ⟨p, rfl, q1, q2⟩; have HQ1 := Lib.hid q1; have HQ2 := Lib.hid q2; have HB1 : Hid (Below w.heap.size w w1) := Lib.hid (((Below.refl _ _).alloc (Nat.le_refl _) _).trans (q2.mono (by simp))); have HC1 := Lib.hid ((Blk.new w 23 #[.int .i64 nd, .int .i64 lf, .int .i64 inn, .int .i64 fill, .int .i64 bl]).below q2); have cc3 : w1.cell? ⟨w.heap.size, 3, none⟩ = some (.int .i64 fill) := (HC1.out.cell 3).trans rfl; have cl : w.heap.size < w1.heap.size := HC1.out.lt; clear q1 q2) | (go_at_call 61; have hM : MakerSt (w1.alloc (.cells #[.pointer (some ⟨p, 0, none⟩), .bool true] 132)) (fun b => w.heap.size + 1 ≤ b ∧ b < w1.heap.size) p w1.heap.size nd 1 [] := ⟨fun h => by have := h.2; omega, fun b hb => by have := hb.2; simp; omega, by simp, .inl ⟨rfl, (HQ1.out.lt.weak (fun b hb => ⟨by have := hb.1; simpa [From] using this, hb.2⟩)).below ((Below.refl _ _).alloc (Nat.le_refl _) _), Blk.new _ _ _⟩⟩; go_loud (refine (leaves_any _ p w1.heap.size nd 1 A n c l fill (pn l.length fill) _ hM (((HE.out.below HB1.out).below ((Below.refl _ _).alloc (Nat.le_refl _) _)).weak (fun b hb => ⟨fun h => by have := h.1; have := hb.2; omega, by have := hb.2; omega⟩)) hnc hcm hf1 (by omega) hn hpos HS.out (by have := HM.out; have := HL.out; omega) HMN.out h2).mono ?_); rintro e w3 ⟨F', v, rfl, hlv⟩; have HT3 : Hid (TopSt w w3 p w1.heap.size nd (leafD fill l) v (leafK fill l)) := Lib.hid (by have := hlv.top (w := w) (fun b hb => by have := hb.1; omega) (by omega) (by simp; omega) (HB1.out.alloc HB1.out.size _); simpa [leafD, leafK] using this); have HC3 := Lib.hid ((HC1.out.alloc (.cells #[.pointer (some ⟨p, 0, none⟩), .bool true] 132)).chg hlv.chg (fun h => h.elim (fun h => by have := h.1; omega) (fun h => by omega))); clear hlv hM))
  go_loopg [8, 28] 32 (fun g' top i wr => ∃ (k : Nat) (o : Value) (done : List Slt) (ks : List Kd), g' = 32 - k ∧ k ≤ 32 ∧ i = .int .i64 k ∧ o = top ∧ TopSt w wr p w1.heap.size nd done o ks ∧ UpSt nd inn (32 - k) done ks ∧ KdOk done ks ∧ ups inn (32 - k) ((k : Int) + 1) done ks = ups inn 32 1 (leafD fill l) (leafK fill l) ∧ Blk wr w.heap.size 23 #[.int .i64 nd, .int .i64 lf, .int .i64 inn, .int .i64 fill, .int .i64 bl] ∧ (done.length : Int) ≤ nd)
  case atStart => exact ⟨0, _, _, _, rfl, by omega, rfl, rfl, HT3.out, HUP.out, by have := kdOk_lv (done := []) (M := pn l.length fill) (f := leafS fill l (pn l.length fill)) (hi := hiAt fill l) (pn_pos _ _ hf1) (hiAt_small (fun e he => (HS.out e he).1)); simpa [leafD, leafK] using this, rfl, HC3.out, by have := HMN.out; simpa [leafD] using this⟩
  case round =>
    obtain ⟨k, o, done, ks, hg, hk, rfl, rfl, ht, hu, ho, he, hc, hdl⟩ := hrel
    have HDL := Lib.hid hdl
    have HG := Lib.hid hg
    have HT := Lib.hid ht
    have HU := Lib.hid hu
    have HO := Lib.hid ho
    have HEQ := Lib.hid he
    have HC := Lib.hid hc
    rename World => wq
    clear hg ht hu ho he hc hdl
    obtain ⟨F, base, st, ⟨us, hown, hblk, hkds⟩, hFw, hbw⟩ := HT.out
    obtain ⟨A2, c2, rfl, hn2, hc2⟩ := own_val hown
    obtain ⟨n2, hn2e⟩ : ∃ n2, n2 = ks.length := ⟨_, rfl⟩
    have HN2 := Lib.hid hn2e
    rw [← hn2e] at hown hn2 hblk hkds ⊢
    have HROW : Hid (KidRow wq (Off F p) base (.slice A2 n2 c2) ks ∨ True) := Lib.hid (.inr trivial)
    have HST := Lib.hid st
    have HOWN := Lib.hid hown
    have HBLK := Lib.hid hblk
    have HKDS := Lib.hid hkds
    have HFW := Lib.hid hFw
    have HBW := Lib.hid hbw
    clear hn2e st hown hblk hkds hFw hbw HT HROW
    have cc2 : wq.cell? ⟨w.heap.size, 2, none⟩ = some (.int .i64 inn) := (HC.out.cell 2).trans rfl
    by_cases hlt : k < 32
    · have hk1 : ((k : Int) < 32) := by omega
      have hwrap := IntWalk.i64_in ((k : Int) + 1) (by omega)
      by_cases hks : 1 < n2
      · have hks1 : (1 : Int) < (n2 : Int) := by omega
        have hstep := UpSt.step (k := 31 - k) (f := aboveS inn ((k : Int) + 1) ks done.length (pn ks.length inn)) (g := hiA inn ks) (by omega) (show UpSt nd inn (31 - k + 1) done ks from by have := HU.out; rwa [show 32 - k = 31 - k + 1 by omega] at this) (by have := HN2.out; omega)
        have hpp := pn_pos ks.length inn (by omega)
        have HSTEP := Lib.hid hstep
        have hlen := HO.out.1
        have hdn : (done.length : Int) + ((pn ks.length inn : Nat) : Int) ≤ nd := hstep.1.elim id (fun h => by omega)
        have HPB := Lib.hid (pn_bounds ks.length inn (by omega) (by have := HN2.out; omega))
        have HDN := Lib.hid hdn
        have hn64 : n2 ≤ 65536 := by have := HN2.out; omega
        clear hstep hpp hlen hdn
        go_wp2_with (first | (go_at_call 62; go_loud (refine (above_any F p w1.heap.size nd 1 done A2 n2 c2 ks inn (pn ks.length inn) ((k : Int) + 1) wq base HST.out ⟨us, (by have := HOWN.out; have e := HN2.out; rwa [e] at this ⊢), HBLK.out, HKDS.out⟩ (Lib.hid HN2.out) (by omega) (by omega) hn64 (by omega) (fun k hk => (HO.out.2.2 k hk).2.2) (by have := HPB.out; have := HN2.out; omega) HDN.out h2).mono ?_); go_loud (rintro e w3 ⟨F', v, rfl, hlv⟩); go_loud (have HT3 := Lib.hid (hlv.top (w := w) HFW.out (Nat.le_of_lt cl) (cell_lt cc2) HBW.out)); go_loud (have HC3 := Lib.hid (HC.out.chg hlv.chg (fun h => h.elim (fun h => by have := HFW.out _ h; omega) (fun h => by omega)))); clear hlv))
        go_roundg (32 - (k + 1))
        case measure => have := HG.out; omega
        case rel =>
          refine ⟨k + 1, _, _, _, rfl, by omega, by go_num, rfl, HT3.out, by have := HSTEP.out.2; rwa [show 31 - k = 32 - (k + 1) by omega] at this, kdOk_lv (pn_pos _ _ (by omega)) (hiA_small (fun k hk => (HO.out.2.2 k hk).2.2)), ?_, HC3.out, by have := HDN.out; simp; omega⟩
          have e := HEQ.out
          rw [show 32 - k = 31 - k + 1 by omega, ups, if_pos (by have := HN2.out; omega)] at e
          rw [← e, show 32 - (k + 1) = 31 - k by omega, show ((k + 1 : Nat) : Int) + 1 = (k : Int) + 1 + 1 by omega]
      · have hks1 : ¬ (1 : Int) < (n2 : Int) := by omega
        go_wp2
        go_roundg (32 - (k + 1))
        case measure => have := HG.out; omega
        case rel =>
          have hl1 : ¬ 1 < ks.length := by have := HN2.out; omega
          refine ⟨k + 1, _, done, ks, rfl, by omega, by go_num, rfl, ⟨F, base, HST.out, ⟨us, (by have := HOWN.out; have e := HN2.out; rwa [e] at this ⊢), HBLK.out, HKDS.out⟩, HFW.out, HBW.out⟩, .inl (by have := HO.out.2.1; omega), HO.out, ?_, HC.out, HDL.out⟩
          rw [← HEQ.out, ups_one hl1, ups_one hl1]
    · obtain rfl : k = 32 := by omega
      have hone : ks.length = 1 := (show UpSt nd inn 0 done ks from HU.out).one
      obtain ⟨x, hx⟩ : ∃ x, ks = [x] := List.length_eq_one_iff.1 hone
      have hx0 := HKDS.out 0 x (by rw [hx]; rfl)
      have hn1 : n2 = 1 := by have := HN2.out; omega
      subst hn1
      obtain ⟨b, o1, u, v, hA2, hD, e1, e2, cc, _⟩ := (rd_own_blk HOWN.out HBLK.out).at2 (k := 0) (by omega)
      subst hA2
      rw [hx0.1] at e1
      injection e1 with e1
      subst e1
      have hxo := HO.out.2.2 x (by rw [hx]; simp)
      have HTO : Hid (treeOf fill inn l = (done, x.1)) := Lib.hid (by
        rw [treeOf_cons HNE.out, ← HEQ.out, ups_one (by omega), hx]; rfl)
      have HX := Lib.hid hxo
      clear hone hx hD hx0 e2 hxo
      have hdl : done.length ≤ 65536 := by have := HDL.out; omega
      obtain ⟨_, _, _, st4⟩ := HST.out
      have hAr : ArX wq F p nd done 1 := by rcases st4 with ⟨e, _⟩ | ⟨_, a, _⟩; exact absurd HO.out.1 (by have := HO.out.2.1; rw [e]; show ¬ ks.length ≤ 0; omega); exact a
      have HAR := Lib.hid hAr
      clear st4 hAr
      simp only [Nat.mul_zero, Nat.add_zero] at cc
      go_wp2_with (first | (go_at_call 63; go_loud (refine (grow_hit F p nd 1 done x.1 _ HAR.out HX.out.1 HX.out.2.1 hdl (by omega)).mono ?_); rintro e w4 ⟨rfl, hx4, hc4⟩; have HX4 := Lib.hid hx4; have HC4 := Lib.hid hc4; clear hx4 hc4))
      go_ret
      exact ⟨p, rfl, by rw [HTO.out]; exact HX4.out.weak (fun b hb => by have := HFW.out b hb; simp only [From]; omega), HBW.out.trans (HC4.out.below_of HBW.out.size (fun b hb h => by have := HFW.out b h; omega))⟩
end Go.Proofs.Ytgjphmlmndcaeaa

namespace Go.Proofs.Ytgjphmlmndcaeaa
open Go.RowKit

def oddAt (sl : List Slt) (i : Nat) : Bool := match sl[i]? with | some s => s.1 % 2 == 1 | none => false
/-- the numbers of the first k slots whose latches are held -/
def heldTo (sl : List Slt) (k : Nat) : List Int := ((List.range k).filter (oddAt sl)).map fun (i : Nat) => (i : Int) + 1
theorem heldTo_zero (sl : List Slt) : heldTo sl 0 = [] := rfl
theorem heldTo_yes {sl : List Slt} {k : Nat} {s : Slt} (h : sl[k]? = some s) (ho : s.1 % 2 = 1) : heldTo sl (k + 1) = heldTo sl k ++ [(k : Int) + 1] := by
  have hk : oddAt sl k = true := by simp [oddAt, h, ho]
  simp [heldTo, List.range_succ, List.filter_append, hk]
theorem heldTo_no {sl : List Slt} {k : Nat} {s : Slt} (h : sl[k]? = some s) (ho : s.1 % 2 = 0) : heldTo sl (k + 1) = heldTo sl k := by
  have hk : oddAt sl k = false := by simp [oddAt, h, ho]
  simp [heldTo, List.range_succ, List.filter_append, hk]
theorem heldTo_len (sl : List Slt) (k : Nat) : (heldTo sl k).length ≤ k := by
  have := List.length_filter_le (oddAt sl) (List.range k)
  simpa [heldTo] using this

/-- the answer is a list of numbers in new memory -/
def NewInts (w : World) (ks : List Int) (e : Ending) (w' : World) : Prop := ∃ A n c, e = .returned (.slice A n c) ∧ It w' (From w.heap.size) A n c ks ∧ w'.ownsRow w.heap.size 3 1 (.slice A n c) n (ks.map (Value.int .i64)) ∧ Below w.heap.size w w'

set_option maxRecDepth 100000 in
theorem held_any (F : Nat → Prop) (p : Nat) (nodes root : Int) (sl : List Slt) (w : World) (h : ArX w F p nodes sl root) (hn : sl.length ≤ 65536) (hw : ∀ s ∈ sl, 0 ≤ s.1 ∧ s.1 ≤ 4611686018427387904) :
    Calls Try.prog 29 #[.pointer (some ⟨p, 0, none⟩)] w (NewInts w (heldTo sl sl.length)) := by
  obtain ⟨i0, hi0, iz0, iz1, iz2⟩ := info_parts int_info
  obtain ⟨A, n, c, bs, hY⟩ := h
  have e1 : n = sl.length := hY.len
  have HL := Lib.hid e1
  have h4 : n ≤ 65536 := by omega
  obtain ⟨c0, c1, c2, cf⟩ := hY.cells
  have HY := Lib.hid hY
  have HW := Lib.hid hw
  clear e1 hn hY hw
  go_enter Try.func29, Try.ntmps29
  go_wp2
  go_loopg [3, 11] n (fun g vs i wr => ∃ (k m : Nat) (v : Value), g = n - k ∧ k ≤ n ∧ i = .int .i64 k ∧ v = vs ∧ Hid (m = (heldTo sl k).length) ∧ m ≤ k ∧ wr.ownsRow w.heap.size 3 1 v m ((heldTo sl k).map (Value.int .i64)) ∧ Below w.heap.size w wr)
  case atStart => exact ⟨0, 0, _, by omega, by omega, rfl, rfl, rfl, by omega, World.ownsRow_nil _ _ _ _, Below.refl _ _⟩
  case round =>
    obtain ⟨k, m, v, hg, hk, rfl, rfl, HM, hmk, hown, hbl⟩ := hrel
    have HG := Lib.hid hg
    have HO := Lib.hid hown
    clear hg hown
    by_cases hlt : k < n
    · have hY1 := HY.out.below hbl
      obtain ⟨r, g, rfl, hbg, hcell⟩ := hY1.at_ hlt
      have hsl : k < sl.length := by have := HL.out; omega
      obtain ⟨s, hs⟩ : ∃ s, sl[k]? = some s := ⟨_, List.getElem?_eq_getElem hsl⟩
      obtain ⟨hA, hn', hc, kA, kn, kc, vA, vn, vc, dA, dn, dc, hb, _⟩ := hY1.slot _ g s hbg hs
      obtain ⟨z0, z1, z2, z3, z4, z5, z6, z7⟩ := blk7 hb
      obtain ⟨w0, w1⟩ := HW.out s (List.mem_of_getElem? hs)
      have HS := Lib.hid hs
      have hand : bits BinOp.and IntKind.u64 s.1 1 = s.1 % 2 := and_one_u64 s.1 w0 (by omega)
      have hsz := hbl.size
      clear hs hbg hb hY1
      by_cases ho : s.1 % 2 = 1
      · have hev : (s.1 % 2 == 1) = true := by rw [beq_iff_eq]; exact ho
        have HT := Lib.hid (heldTo_yes HS.out ho)
        clear ho
        go_wp2_with (first | (go_at_call 52; refine (u64load_any _ _ _ _ z0).mono ?_; rintro e w' ⟨rfl, rfl⟩) | (at_builtin; refine wpList_append_any _ rfl (.tmp 22) (.tmp 25) _ rfl w.heap.size 3 i0 _ 1 8 Try.underlying24 hi0 iz0 iz1 iz2 rfl (by omega) v m ((heldTo sl k).map (Value.int .i64)) rfl (HO.out.alloc _) (From wr.heap.size) (some ⟨wr.heap.size, 0, none⟩) 1 1 [.int .i64 ((k : Int) + 1)] rfl (Rd.one wr _ _) (by intro u hu; simp at hu; subst hu; rfl) (by simp only [maxLen]; omega) (by omega) (by simp; omega) ?_; intro v2 w2 hown2 hg2 hat2; have HO2 := Lib.hid hown2; clear hown2 hat2))
        go_roundg (n - (k + 1))
        case measure => have := HG.out; omega
        case rel => exact ⟨k + 1, m + 1, v2, rfl, by omega, by go_num, rfl, Lib.hid (by rw [HT.out]; simp [HM.out.symm]), by omega, by rw [HT.out, List.map_append]; exact HO2.out, (hbl.alloc hsz _).grown hg2 (by simp; omega) (fun j hj => (own_lt HO.out j hj).1)⟩
      · have ho0 : s.1 % 2 = 0 := by omega
        have hev : (s.1 % 2 == 1) = false := by rw [beq_eq_false_iff_ne]; exact ho
        have HT := Lib.hid (heldTo_no HS.out ho0)
        clear ho ho0
        go_wp2_with (first | (go_at_call 52; refine (u64load_any _ _ _ _ z0).mono ?_; rintro e w' ⟨rfl, rfl⟩))
        go_roundg (n - (k + 1))
        case measure => have := HG.out; omega
        case rel => exact ⟨k + 1, m, v, rfl, by omega, by go_num, rfl, Lib.hid (by rw [HT.out]; exact HM.out), by omega, by rw [HT.out]; exact HO.out, hbl⟩
    · have HK : Hid (k = sl.length) := Lib.hid (by have := HL.out; omega)
      go_wp2
      go_ret
      obtain ⟨A', c', hv, h1, h2⟩ := own_val HO.out
      have HO' := HO.out
      rw [hv] at HO'
      rw [← HK.out]
      exact ⟨A', m, c', by rw [hv]; rfl, ⟨h1, h2, HM, Rd.of_own HO'⟩, HO', hbl⟩
end Go.Proofs.Ytgjphmlmndcaeaa

namespace Go.Proofs.Ytgjphmlmndcaeaa
open Go.RowKit

/-- one slot's seven cells -/
def SlotV (w : World) (F : Nat → Prop) (vs : List Value) (s : Slt) : Prop :=
  ∃ hA hn hc kA kn kc vA vn vc dA dn dc, vs = [.int .u64 s.1, .int .i64 s.2.lev, .slice hA hn hc, .int .i64 s.2.right, .slice kA kn kc, .slice vA vn vc, .slice dA dn dc] ∧
    Bt w F hA hn hc s.2.high ∧ Tx w F kA kn kc s.2.keys ∧ Tx w F vA vn vc s.2.vals ∧ It w F dA dn dc s.2.kids
/-- a list of slots in the slice of n at A -/
def Slots (w : World) (F : Nat → Prop) (A : Option Addr) (n : Nat) (sl : List Slt) : Prop :=
  Hid (n = sl.length) ∧ ∃ vs, Rd w F 7 A n vs ∧ ∀ (i : Nat) (s : Slt), sl[i]? = some s → SlotV w F ((vs.drop (i * 7)).take 7) s
/-- the document's arena at block p -/
def ArR (w : World) (F : Nat → Prop) (p : Nat) (nodes : Int) (sl : List Slt) (top : Int) : Prop :=
  ∃ A n c, F p ∧ Blk w p 83 #[.int .i64 nodes, .slice A n c, .int .i64 top] ∧ Slots w F A n sl

section
variable {S F G : Nat → Prop} {w w' : World} {A : Option Addr} {n : Nat} {sl : List Slt} {p : Nat} {nodes top : Int}
theorem SlotV.weak {vs : List Value} {s : Slt} (h : SlotV w F vs s) (hF : ∀ b, F b → G b) : SlotV w G vs s := by
  obtain ⟨hA, hn, hc, kA, kn, kc, vA, vn, vc, dA, dn, dc, h1, h2, h3, h4, h5⟩ := h
  exact ⟨hA, hn, hc, kA, kn, kc, vA, vn, vc, dA, dn, dc, h1, h2.weak hF, h3.weak hF, h4.weak hF, h5.weak hF⟩
theorem SlotV.chg {vs : List Value} {s : Slt} (h : SlotV w F vs s) (hc : Chg S w w') (hs : ∀ b, F b → ¬ S b) : SlotV w' F vs s := by
  obtain ⟨hA, hn, hc', kA, kn, kc, vA, vn, vc, dA, dn, dc, h1, h2, h3, h4, h5⟩ := h
  exact ⟨hA, hn, hc', kA, kn, kc, vA, vn, vc, dA, dn, dc, h1, h2.chg hc hs, h3.chg hc hs, h4.chg hc hs, h5.chg hc hs⟩
theorem SlotV.lt {vs : List Value} {s : Slt} (h : SlotV w F vs s) : SlotV w (fun b => F b ∧ b < w.heap.size) vs s := by
  obtain ⟨hA, hn, hc', kA, kn, kc, vA, vn, vc, dA, dn, dc, h1, h2, h3, h4, h5⟩ := h
  exact ⟨hA, hn, hc', kA, kn, kc, vA, vn, vc, dA, dn, dc, h1, h2.lt, h3.lt, h4.lt, h5.lt⟩
theorem Slots.weak (h : Slots w F A n sl) (hF : ∀ b, F b → G b) : Slots w G A n sl := let ⟨h1, vs, h2, h3⟩ := h; ⟨h1, vs, h2.weak hF, fun i s hs => (h3 i s hs).weak hF⟩
theorem Slots.chg (h : Slots w F A n sl) (hc : Chg S w w') (hs : ∀ b, F b → ¬ S b) : Slots w' F A n sl := let ⟨h1, vs, h2, h3⟩ := h; ⟨h1, vs, h2.chg hc hs, fun i s hsl => (h3 i s hsl).chg hc hs⟩
theorem ArR.weak (h : ArR w F p nodes sl top) (hF : ∀ b, F b → G b) : ArR w G p nodes sl top := let ⟨A, n, c, h1, h2, h3⟩ := h; ⟨A, n, c, hF _ h1, h2, h3.weak hF⟩
theorem ArR.chg (h : ArR w F p nodes sl top) (hc : Chg S w w') (hs : ∀ b, F b → ¬ S b) : ArR w' F p nodes sl top := let ⟨A, n, c, h1, h2, h3⟩ := h; ⟨A, n, c, h1, h2.chg hc (hs _ h1), h3.chg hc hs⟩
theorem ArR.below (h : ArR w F p nodes sl top) (hb : Below w.heap.size w w') : ArR w' F p nodes sl top := h.chg (Chg.of_below (S := Nil) hb) (fun _ _ hf => hf)
theorem Slots.at_ {k : Nat} (h : Slots w F A n sl) (hk : k < n) : ∃ b o s hA hn hc kA kn kc vA vn vc dA dn dc, A = some ⟨b, o, none⟩ ∧ sl[k]? = some s ∧
    w.cell? ⟨b, o + k * 7, none⟩ = some (.int .u64 s.1) ∧ w.cell? ⟨b, o + k * 7 + 1, none⟩ = some (.int .i64 s.2.lev) ∧ w.cell? ⟨b, o + k * 7 + 1 + 1, none⟩ = some (.slice hA hn hc) ∧ w.cell? ⟨b, o + k * 7 + 1 + 2, none⟩ = some (.int .i64 s.2.right) ∧
    w.cell? ⟨b, o + k * 7 + 1 + 3, none⟩ = some (.slice kA kn kc) ∧ w.cell? ⟨b, o + k * 7 + 1 + 4, none⟩ = some (.slice vA vn vc) ∧ w.cell? ⟨b, o + k * 7 + 1 + 5, none⟩ = some (.slice dA dn dc) ∧
    Bt w F hA hn hc s.2.high ∧ Tx w F kA kn kc s.2.keys ∧ Tx w F vA vn vc s.2.vals ∧ It w F dA dn dc s.2.kids := by
  obtain ⟨h1, vs, h2, h3⟩ := h
  have hl : k < sl.length := by have : n = sl.length := h1; omega
  obtain ⟨b, o, hA', _, hcell⟩ := h2.2 (by omega)
  obtain ⟨hA, hn, hc, kA, kn, kc, vA, vn, vc, dA, dn, dc, e, q1, q2, q3, q4⟩ := h3 k sl[k] (List.getElem?_eq_getElem hl)
  have hg : ∀ (j : Nat) (u : Value), j < 7 → ((vs.drop (k * 7)).take 7)[j]? = some u → w.cell? ⟨b, o + k * 7 + j, none⟩ = some u := by
    intro j u hj hu
    rw [List.getElem?_take, if_pos hj, List.getElem?_drop] at hu
    rw [Nat.add_assoc]
    exact hcell _ u hu
  rw [e] at hg
  exact ⟨b, o, sl[k], hA, hn, hc, kA, kn, kc, vA, vn, vc, dA, dn, dc, hA', List.getElem?_eq_getElem hl, hg 0 _ (by omega) rfl, hg 1 _ (by omega) rfl, hg 2 _ (by omega) rfl, hg 3 _ (by omega) rfl, hg 4 _ (by omega) rfl, hg 5 _ (by omega) rfl, hg 6 _ (by omega) rfl, q1, q2, q3, q4⟩
end

theorem ret_bool {x y : Bool} (h : y = x) : Ending.returned (.bool x) = .returned (.bool y) := by rw [h]
theorem there_any (F : Nat → Prop) (p : Nat) (nodes top : Int) (sl : List Slt) (id : Int) (w : World) (h : ArR w F p nodes sl top) (x : Bool) (hx : x = decide (1 ≤ id ∧ id ≤ sl.length)) :
    Calls Try.prog 100 #[.pointer (some ⟨p, 0, none⟩), .int .i64 id] w fun e w' => e = .returned (.bool x) ∧ w = w' := by
  obtain ⟨A, n, c, _, hb, hs⟩ := h
  have e1 : n = sl.length := hs.1
  obtain ⟨c0, c1, c2, cf⟩ := blk3 hb
  have HX : Hid (x = decide (1 ≤ id ∧ id ≤ (n : Int))) := Lib.hid (by rw [hx, e1])
  clear hx e1 hb hs
  by_cases h0 : 1 ≤ id
  · by_cases h2 : id ≤ (n : Int)
    · have h3 : decide (id ≤ (n : Int)) = true := by simpa using h2
      go_enter Try.func100, Try.ntmps100
      go_wp2
      go_ret
      exact ⟨ret_bool (by rw [HX.out]; exact decide_eq_true (by omega)), rfl⟩
    · have h3 : decide (id ≤ (n : Int)) = false := by simpa using h2
      go_enter Try.func100, Try.ntmps100
      go_wp2
      go_ret
      exact ⟨ret_bool (by rw [HX.out]; exact decide_eq_false (by omega)), rfl⟩
  · have h3 : decide (1 ≤ id) = false := by simpa using h0
    go_enter Try.func100, Try.ntmps100
    go_wp2
    go_ret
    exact ⟨ret_bool (by rw [HX.out]; exact decide_eq_false (by omega)), rfl⟩
theorem rword_in (F : Nat → Prop) (p : Nat) (nodes top : Int) (sl : List Slt) (id : Int) (s : Slt) (w : World) (h : ArR w F p nodes sl top) (h1 : 1 ≤ id) (h2 : id ≤ sl.length) (hn : sl.length ≤ 65536) (hs : sl[id.toNat - 1]? = some s) :
    Calls Try.prog 84 #[.pointer (some ⟨p, 0, none⟩), .int .i64 id] w fun e w' => e = .returned (.tuple #[.int .u64 s.1, .int .i64 0]) ∧ w = w' := by
  have HA := Lib.hid h
  obtain ⟨A, n, c, _, hb, hsl⟩ := h
  have e1 : n = sl.length := hsl.1
  obtain ⟨b, o, s', hA, hn', hc, kA, kn, kc, vA, vn, vc, dA, dn, dc, rfl, hs', z0, z1, z2, z3, z4, z5, z6, _⟩ := hsl.at_ (k := id.toNat - 1) (by omega)
  rw [hs] at hs'
  injection hs' with hs'
  subst hs'
  obtain ⟨c0, c1, c2, cf⟩ := blk3 hb
  have h3 : id ≤ n := by omega
  have h4 : n ≤ 65536 := by omega
  have HT : Hid (true = decide (1 ≤ id ∧ id ≤ (sl.length : Int))) := Lib.hid (by simp [h1, h2])
  clear hs h2 hn e1 hb hsl
  go_enter Try.func84, Try.ntmps84
  go_wp2_with (first | (go_at_call 100; refine (there_any F p nodes top sl id _ HA.out true HT.out).mono ?_; rintro e w' ⟨rfl, rfl⟩))
  go_ret2
  exact ⟨rfl, rfl⟩
theorem rword_out (F : Nat → Prop) (p : Nat) (nodes top : Int) (sl : List Slt) (id : Int) (w : World) (h : ArR w F p nodes sl top) (h1 : id < 1 ∨ (sl.length : Int) < id) :
    Calls Try.prog 84 #[.pointer (some ⟨p, 0, none⟩), .int .i64 id] w fun e w' => e = .returned (.tuple #[.int .u64 0, .int .i64 101]) ∧ w = w' := by
  have HA := Lib.hid h
  have HT : Hid (false = decide (1 ≤ id ∧ id ≤ (sl.length : Int))) := Lib.hid (by symm; rw [decide_eq_false_iff_not]; omega)
  clear h h1
  go_enter Try.func84, Try.ntmps84
  go_wp2_with (first | (go_at_call 100; refine (there_any F p nodes top sl id _ HA.out false HT.out).mono ?_; rintro e w' ⟨rfl, rfl⟩))
  go_ret2
  exact ⟨rfl, rfl⟩
set_option maxRecDepth 100000 in
theorem rhead_in (F : Nat → Prop) (p : Nat) (nodes top : Int) (sl : List Slt) (id : Int) (s : Slt) (w : World) (h : ArR w F p nodes sl top) (h1 : 1 ≤ id) (h2 : id ≤ sl.length) (hn : sl.length ≤ 65536) (hs : sl[id.toNat - 1]? = some s) (hsm : Small s.2) :
    Calls Try.prog 85 #[.pointer (some ⟨p, 0, none⟩), .int .i64 id] w (NewHead w s.2.lev s.2.high s.2.right 0) := by
  have b1 : Below w.heap.size w (w.alloc (.cells #[.int .i64 0, .slice none 0 0, .int .i64 0] 88)) := (Below.refl _ _).alloc (Nat.le_refl _) _
  have HA := Lib.hid (h.below b1)
  obtain ⟨A, n, c, _, hb, hsl⟩ := h.below b1
  have e1 : n = sl.length := hsl.1
  obtain ⟨b, o, s', hA, hn', hc, kA, kn, kc, vA, vn, vc, dA, dn, dc, rfl, hs', z0, z1, z2, z3, z4, z5, z6, q1, q2, q3, q4⟩ := hsl.at_ (k := id.toNat - 1) (by omega)
  rw [hs] at hs'
  injection hs' with hs'
  subst hs'
  obtain ⟨c0, c1, c2, cf⟩ := blk3 hb
  have h3 : id ≤ n := by omega
  have h4 : n ≤ 65536 := by omega
  have HT : Hid (true = decide (1 ≤ id ∧ id ≤ (sl.length : Int))) := Lib.hid (by simp [h1, h2])
  have HSM := Lib.hid hsm
  clear hs h2 hn e1 hb hsl h hsm
  go_enter Try.func85, Try.ntmps85
  go_wp2_with (first | (go_at_call 100; refine (there_any F p nodes top sl id _ HA.out true HT.out).mono ?_; rintro e w' ⟨rfl, rfl⟩))
  refine (rnclone_any s.2 F hA kA vA dA hn' hc kn kc vn vc dn dc _ q1 q2 q3 q4 HSM.out).mono ?_
  rintro e w1 ⟨A1, n1, c1', A2, n2, c2', A3, n3, c3, A4, n4, c4, rfl, r1, r2, r3, r4, hb1⟩
  have y0 := bkeep (b := w.heap.size) (o := 0) (v := .int .i64 0) hb1 (by simp)
  have y1 := bkeep (b := w.heap.size) (o := 1) (v := .slice none 0 0) hb1 (by simp)
  have y2 := bkeep (b := w.heap.size) (o := 2) (v := .int .i64 0) hb1 (by simp)
  have yf : ∀ o, w1.frozen? ⟨w.heap.size, o, none⟩ = false := ((Blk.new w 88 #[.int .i64 0, .slice none 0 0, .int .i64 0]).below hb1).frozen
  have hws : w.heap.size < w1.heap.size := cell_lt y0
  go_wp2
  refine bodyPost_ret (v := .tuple #[.agg #[.int .i64 s.2.lev, .slice A1 n1 c1', .int .i64 s.2.right], .int .i64 0]) (by simp [results, Try.results85, go_sem, *]) rfl ?_
  have hch : Chg (One w.heap.size) w1 (((w1.setCell ⟨w.heap.size, 0, none⟩ (.int .i64 s.2.lev)).setCell ⟨w.heap.size, 1, none⟩ (.slice A1 n1 c1')).setCell ⟨w.heap.size, 2, none⟩ (.int .i64 s.2.right)) := (chg2 w1 w.heap.size 0 1 _ _).setCell (p := ⟨w.heap.size, 2, none⟩) (fun _ => rfl) _
  have hB1 := b1.trans (hb1.mono b1.size)
  have up : ∀ b, From (w.heap.size + 1) b → From w.heap.size b := fun b hb => by simp only [From] at hb ⊢; omega
  have no : ∀ b, From (w.heap.size + 1) b → ¬ One w.heap.size b := fun b hb e => by simp only [From, One] at hb e; omega
  have hB2 := hB1.trans (hch.below_of hB1.size (fun b hb e => by simp only [One] at e; omega))
  have r1' := ((r1.weak (G := From (w.heap.size + 1)) (fun b hb => by simpa [From] using hb)).chg hch no).weak up
  exact ⟨A1, n1, c1', rfl, r1'.below ((Below.refl _ _).alloc (Nat.le_refl _) _), hB2.alloc hB2.size _⟩
set_option maxRecDepth 100000 in
theorem rbody_in (F : Nat → Prop) (p : Nat) (nodes top : Int) (sl : List Slt) (id : Int) (s : Slt) (w : World) (h : ArR w F p nodes sl top) (h1 : 1 ≤ id) (h2 : id ≤ sl.length) (hn : sl.length ≤ 65536) (hs : sl[id.toNat - 1]? = some s) (hsm : Small s.2) :
    Calls Try.prog 86 #[.pointer (some ⟨p, 0, none⟩), .int .i64 id] w (NewBody w s.2.keys s.2.vals s.2.kids 0) := by
  have b1 : Below w.heap.size w (w.alloc (.cells #[.slice none 0 0, .slice none 0 0, .slice none 0 0] 91)) := (Below.refl _ _).alloc (Nat.le_refl _) _
  have HA := Lib.hid (h.below b1)
  obtain ⟨A, n, c, _, hb, hsl⟩ := h.below b1
  have e1 : n = sl.length := hsl.1
  obtain ⟨b, o, s', hA, hn', hc, kA, kn, kc, vA, vn, vc, dA, dn, dc, rfl, hs', z0, z1, z2, z3, z4, z5, z6, q1, q2, q3, q4⟩ := hsl.at_ (k := id.toNat - 1) (by omega)
  rw [hs] at hs'
  injection hs' with hs'
  subst hs'
  obtain ⟨c0, c1, c2, cf⟩ := blk3 hb
  have h3 : id ≤ n := by omega
  have h4 : n ≤ 65536 := by omega
  have HT : Hid (true = decide (1 ≤ id ∧ id ≤ (sl.length : Int))) := Lib.hid (by simp [h1, h2])
  have HSM := Lib.hid hsm
  clear hs h2 hn e1 hb hsl h hsm
  go_enter Try.func86, Try.ntmps86
  go_wp2_with (first | (go_at_call 100; refine (there_any F p nodes top sl id _ HA.out true HT.out).mono ?_; rintro e w' ⟨rfl, rfl⟩))
  refine (rnclone_any s.2 F hA kA vA dA hn' hc kn kc vn vc dn dc _ q1 q2 q3 q4 HSM.out).mono ?_
  rintro e w1 ⟨A1, n1, c1', A2, n2, c2', A3, n3, c3, A4, n4, c4, rfl, r1, r2, r3, r4, hb1⟩
  have y0 := bkeep (b := w.heap.size) (o := 0) (v := .slice none 0 0) hb1 (by simp)
  have y1 := bkeep (b := w.heap.size) (o := 1) (v := .slice none 0 0) hb1 (by simp)
  have y2 := bkeep (b := w.heap.size) (o := 2) (v := .slice none 0 0) hb1 (by simp)
  have yf : ∀ o, w1.frozen? ⟨w.heap.size, o, none⟩ = false := ((Blk.new w 91 #[.slice none 0 0, .slice none 0 0, .slice none 0 0]).below hb1).frozen
  have hws : w.heap.size < w1.heap.size := cell_lt y0
  go_wp2
  refine bodyPost_ret (v := .tuple #[.agg #[.slice A2 n2 c2', .slice A3 n3 c3, .slice A4 n4 c4], .int .i64 0]) (by simp [results, Try.results86, go_sem, *]) rfl ?_
  have hch : Chg (One w.heap.size) w1 (((w1.setCell ⟨w.heap.size, 0, none⟩ (.slice A2 n2 c2')).setCell ⟨w.heap.size, 1, none⟩ (.slice A3 n3 c3)).setCell ⟨w.heap.size, 2, none⟩ (.slice A4 n4 c4)) := (chg2 w1 w.heap.size 0 1 _ _).setCell (p := ⟨w.heap.size, 2, none⟩) (fun _ => rfl) _
  have hB1 := b1.trans (hb1.mono b1.size)
  have up : ∀ b, From (w.heap.size + 1) b → From w.heap.size b := fun b hb => by simp only [From] at hb ⊢; omega
  have no : ∀ b, From (w.heap.size + 1) b → ¬ One w.heap.size b := fun b hb e => by simp only [From, One] at hb e; omega
  have hB2 := hB1.trans (hch.below_of hB1.size (fun b hb e => by simp only [One] at e; omega))
  have r2' := ((r2.weak (G := From (w.heap.size + 1)) (fun b hb => by simpa [From] using hb)).chg hch no).weak up
  have r3' := ((r3.weak (G := From (w.heap.size + 1)) (fun b hb => by simpa [From] using hb)).chg hch no).weak up
  have r4' := ((r4.weak (G := From (w.heap.size + 1)) (fun b hb => by simpa [From] using hb)).chg hch no).weak up
  exact ⟨A2, n2, c2', A3, n3, c3, A4, n4, c4, rfl, r2'.below ((Below.refl _ _).alloc (Nat.le_refl _) _), r3'.below ((Below.refl _ _).alloc (Nat.le_refl _) _), r4'.below ((Below.refl _ _).alloc (Nat.le_refl _) _), hB2.alloc hB2.size _⟩

set_option maxRecDepth 100000 in
theorem rhead_out (F : Nat → Prop) (p : Nat) (nodes top : Int) (sl : List Slt) (id : Int) (w : World) (h : ArR w F p nodes sl top) (h1 : id < 1 ∨ (sl.length : Int) < id) :
    Calls Try.prog 85 #[.pointer (some ⟨p, 0, none⟩), .int .i64 id] w (NewHead w 0 [] 0 101) := by
  have b1 : Below w.heap.size w (w.alloc (.cells #[.int .i64 0, .slice none 0 0, .int .i64 0] 88)) := (Below.refl _ _).alloc (Nat.le_refl _) _
  have HA := Lib.hid (h.below b1)
  have HT : Hid (false = decide (1 ≤ id ∧ id ≤ (sl.length : Int))) := Lib.hid (by symm; rw [decide_eq_false_iff_not]; omega)
  clear h h1
  go_enter Try.func85, Try.ntmps85
  go_wp2_with (first | (go_at_call 100; refine (there_any F p nodes top sl id _ HA.out false HT.out).mono ?_; rintro e w' ⟨rfl, rfl⟩))
  refine bodyPost_ret (v := .tuple #[.agg #[.int .i64 0, .slice none 0 0, .int .i64 0], .int .i64 101]) (by simp [results, Try.results85, go_sem]) rfl ?_
  exact ⟨none, 0, 0, rfl, Bt.nil _ _, b1⟩
set_option maxRecDepth 100000 in
theorem rbody_out (F : Nat → Prop) (p : Nat) (nodes top : Int) (sl : List Slt) (id : Int) (w : World) (h : ArR w F p nodes sl top) (h1 : id < 1 ∨ (sl.length : Int) < id) :
    Calls Try.prog 86 #[.pointer (some ⟨p, 0, none⟩), .int .i64 id] w (NewBody w [] [] [] 101) := by
  have b1 : Below w.heap.size w (w.alloc (.cells #[.slice none 0 0, .slice none 0 0, .slice none 0 0] 91)) := (Below.refl _ _).alloc (Nat.le_refl _) _
  have HA := Lib.hid (h.below b1)
  have HT : Hid (false = decide (1 ≤ id ∧ id ≤ (sl.length : Int))) := Lib.hid (by symm; rw [decide_eq_false_iff_not]; omega)
  clear h h1
  go_enter Try.func86, Try.ntmps86
  go_wp2_with (first | (go_at_call 100; refine (there_any F p nodes top sl id _ HA.out false HT.out).mono ?_; rintro e w' ⟨rfl, rfl⟩))
  refine bodyPost_ret (v := .tuple #[.agg #[.slice none 0 0, .slice none 0 0, .slice none 0 0], .int .i64 101]) (by simp [results, Try.results86, go_sem]) rfl ?_
  exact ⟨none, 0, 0, none, 0, 0, none, 0, 0, rfl, Tx.nil _ _, Tx.nil _ _, It.nil _ _, b1⟩

theorem rused_any (F : Nat → Prop) (p : Nat) (nodes top : Int) (sl : List Slt) (w : World) (h : ArR w F p nodes sl top) :
    Calls Try.prog 54 #[.pointer (some ⟨p, 0, none⟩)] w fun e w' => e = .returned (.int .i64 sl.length) ∧ w = w' := by
  obtain ⟨A, n, c, _, hb, hs⟩ := h
  have HL := Lib.hid hs.1
  obtain ⟨c0, c1, c2, cf⟩ := blk3 hb
  clear hs hb
  go_enter Try.func54, Try.ntmps54
  go_wp2
  go_ret
  exact ⟨ret_int (by have : n = sl.length := HL.out.out; omega), rfl⟩
theorem rleft_any (F : Nat → Prop) (p : Nat) (nodes top : Int) (sl : List Slt) (w : World) (h : ArR w F p nodes sl top) (h1 : sl.length ≤ 65536) (h2 : 0 ≤ nodes) (h3 : nodes ≤ 65536) :
    Calls Try.prog 57 #[.pointer (some ⟨p, 0, none⟩)] w fun e w' => e = .returned (.int .i64 (nodes - sl.length)) ∧ ∃ q, w' = w.drewN q := by
  obtain ⟨A, n, c, _, hb, hs⟩ := h
  have HL := Lib.hid hs.1
  have h4 : n ≤ 65536 := by have : n = sl.length := hs.1; omega
  obtain ⟨c0, c1, c2, cf⟩ := blk3 hb
  clear hs hb h1
  go_enter Try.func57, Try.ntmps57
  have e1 := IntWalk.i64_in (nodes - (n : Int)) (by omega)
  go_wp2
  go_quiet (fail)
  go_wp2
  go_ret
  exact ⟨ret_int (by have : n = sl.length := HL.out.out; omega), _, rfl⟩
theorem rroot_any (F : Nat → Prop) (p : Nat) (nodes top : Int) (sl : List Slt) (w : World) (h : ArR w F p nodes sl top) :
    Calls Try.prog 58 #[.pointer (some ⟨p, 0, none⟩)] w fun e w' => e = .returned (.int .i64 top) ∧ w = w' := by
  obtain ⟨A, n, c, _, hb, hs⟩ := h
  obtain ⟨c0, c1, c2, cf⟩ := blk3 hb
  clear hs hb
  go_enter Try.func58, Try.ntmps58
  go_wp2
  go_ret
  exact ⟨rfl, rfl⟩
end Go.Proofs.Ytgjphmlmndcaeaa
