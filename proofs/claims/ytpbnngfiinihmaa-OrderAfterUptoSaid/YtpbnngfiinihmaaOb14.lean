/- WALKS: order.Line. The plain law of Check, After: what a line of calls makes of a map. No program in sight. WALKS: coppiceref20.Check: a call of the line is loaded. WALKS: coppiceref09.SameEntries of any two lists. -/
import Derived.Test.YtpbnngfiinihmaaOb13
import Derived.Test.YtpbnngfiinihmaaOb05
import Derived.Test.YtpbnngfiinihmaaOb02
import Derived.Test.YtpbnngfiinihmaaOb06
import Derived.Deep.Cut
import Derived.Test.YtpbnngfiinihmaaOb07
set_option linter.unusedVariables false
set_option linter.unusedSimpArgs false
namespace Go.Proofs.Ytpbnngfiinihmaa
open Go.RowKit
theorem ints_info : (Try.prog.info? 3).map (fun i => (i.zero, i.size, i.bytes)) = some (some (.int .i64 0), 1, 8) := by kernel_rfl
/-- a row that holds places, as numbers -/
theorem rowI_of_own {w : World} {base g n c : Nat} {o : List Nat} {e : TypeId} (h : w.ownsRow base e 1 (.slice (some ⟨g, 0, none⟩) n c) n (pvs o)) (hn : 0 < n) : RowI w g 0 n (seqI o) := fun i hi => by
  obtain ⟨g', cap, hv, _, _⟩ := h.form hn
  have hlen : o.length = n := by have := h.1; rw [pvs_len] at this; omega
  have ho : o[i]? = some (o[i]'(by omega)) := List.getElem?_eq_getElem (by omega)
  have hc := h.cells (g := g) rfl i _ (pvs_at ho)
  rw [add_eq] at hc
  refine ⟨by rw [hc]; unfold seqI; rw [ho]; rfl, ?_⟩
  rcases h.2 with ⟨h1, _⟩ | ⟨g2, cap2, cur, hv2, _, hb, _⟩
  · cases h1
  · injection hv2 with hv2
    injection hv2 with hv2
    injection hv2 with hv2
    subst hv2
    simp [World.frozen?, hb]
theorem chg_grown {w w2 : World} {v : Value} (hg : w.grownBy w2 v.ownBlock) : Chg (fun b => v.ownBlock = some b) w w2 := (Chg.refl _ _).grown hg (fun _ hk _ => hk)
/-- what order.Line answers -/
def LineAns (l : List CallD) (n : Nat) (w : World) (e : Ending) (w' : World) : Prop :=
  ∃ B m d, e = .returned (.slice B m d) ∧ m = (lineE l).length ∧ m ≤ n ∧ Rd w' (From w.heap.size) 1 B m (pvs (lineE l)) ∧ LineN l n (lineE l) ∧ Below w.heap.size w w'
set_option maxRecDepth 100000 in
set_option maxHeartbeats 4000000 in
theorem line_any (F : Nat → Prop) (A : Option Addr) (n c : Nat) (l : List CallD) (w : World) (hL : CallsM w F A n l) (hn : n ≤ 1048576) :
    Calls Try.prog 8 #[.slice A n c] w (LineAns l n w) := by
  have HL := Lib.hid hL.lt
  have HN := Lib.hid hL.len
  clear hL
  obtain ⟨i0, hi0, iz0, iz1, iz2⟩ := info_parts ints_info
  go_enter Try.func8, Try.ntmps8
  go_wp2
  go_loopg [8, 3] n (fun g' iv v wz => ∃ (k pn vc : Nat) (vA : Option Addr), g' = n - k ∧ k ≤ n ∧ iv = .int .i64 k ∧ v = .slice vA pn vc ∧ pn = (placesN l k).length ∧ wz.ownsRow (w.heap.size + 1) 3 1 (.slice vA pn vc) pn (pvs (placesN l k)) ∧ wz.cell? ⟨w.heap.size, 0, none⟩ = some (.slice A n c) ∧ Below w.heap.size w wz)
  case atStart => exact ⟨0, 0, 0, none, by omega, by omega, rfl, rfl, rfl, ⟨rfl, .inl ⟨rfl, rfl⟩⟩, by simp, (Below.refl _ _).alloc (Nat.le_refl _) _⟩
  case round =>
    obtain ⟨k, pn, vc, vA, hg, hk, rfl, rfl, hp, hown, hq, hb⟩ := hrel
    have HG := Lib.hid hg
    have HO := Lib.hid hown
    have HB := Lib.hid hb
    have HP := Lib.hid hp
    have hpk : pn ≤ k := by rw [hp]; exact placesN_len l k
    have hq0 : w.heap.size < wr.heap.size := cell_lt hq
    have hcap : pn ≤ vc ∧ vc ≤ maxLen := by obtain ⟨A', c', e, h1, h2⟩ := own_val hown; injection e with _ _ e; subst e; exact ⟨h1, h2⟩
    clear hg hown hb hp
    by_cases hlt : k < n
    · have hlt' : (k : Int) < (n : Int) := by omega
      obtain ⟨b, o, cl, x, rfl, hFb, hlk, hw, hat⟩ := (HL.out.below HB.out).at_ hlt
      have HAT := Lib.hid hat
      have HK := Lib.hid (ptOf_at hlk)
      clear hw hlk hFb hat
      go_upto_region 5 with (first | (refine wpList_load_call rfl (.tmp 11) rfl rfl HAT.out ?_) | (refine wpList_store_call _ rfl (.tmp 5) (.tmp 12) rfl rfl rfl rfl ?_))
      obtain ⟨w1, hw1⟩ : ∃ W, W = wr.alloc (.cells (callCs cl x) 48) := ⟨_, rfl⟩
      rw [← hw1]
      have z0 : w1.cell? ⟨wr.heap.size, 11, none⟩ = some (.int .i64 cl.pt) := by rw [hw1]; exact (Blk.new _ _ _).cell 11
      have hb1 : Below wr.heap.size wr w1 := by rw [hw1]; exact (Below.refl _ _).alloc (Nat.le_refl _) _
      have HO1 := Lib.hid (own_below HO.out hb1)
      have HB1 : Hid (Below w.heap.size w w1) := Lib.hid (HB.out.trans (hb1.mono HB.out.size))
      have HQ1 := Lib.hid (bkeep hb1 hq)
      have hz0 : w.heap.size + 1 ≤ w1.heap.size := by have := hb1.size; omega
      clear hw1 hb1 hq HO HAT
      by_cases hpt : 0 ≤ cl.pt
      · go_wp2_with (at_builtin; go_loud (refine wpList_append_any _ rfl (.tmp 16) (.tmp 18) _ rfl (w.heap.size + 1) 3 i0 _ 1 8 Try.underlying24 hi0 iz0 iz1 iz2 rfl (by omega) (.slice vA pn vc) pn (pvs (placesN l k)) rfl (own_below HO1.out ((Below.refl _ _).alloc (Nat.le_refl _) _)) (From w1.heap.size) (some ⟨w1.heap.size, 0, none⟩) 1 1 [.int .i64 k] rfl (Rd.one w1 (.int .i64 k) 3) (by simp [Value.oneCell']) (by simp only [maxLen]; omega) (by omega) (by simp; omega) ?_); intro v6 w6 hown6 hg6 hat6; obtain ⟨g6, gc6, hv6, _, _⟩ := hown6.form (by omega); subst hv6; have HO6 := Lib.hid hown6; have HG6 := Lib.hid hg6; clear hown6 hg6 hat6)
        go_roundg (n - (k + 1))
        case measure => have := HG.out; omega
        case rel =>
          have hz1 := HB1.out.size
          have hba : Below w1.heap.size w1 (w1.alloc (.cells #[.int .i64 k] 3)) := (Below.refl _ _).alloc (Nat.le_refl _) _
          have hgr := chg_grown HG6.out
          have hob : ∀ g, (Value.slice vA pn vc).ownBlock = some g → w.heap.size + 1 ≤ g := fun g hg => (own_lt HO1.out g hg).1
          refine ⟨k + 1, pn + 1, gc6, some ⟨g6, 0, none⟩, rfl, by omega, by go_num, rfl, by rw [placesN_put (by rw [HK.out]; exact hpt)]; simp [HP.out], by rw [placesN_put (by rw [HK.out]; exact hpt), pvs_put]; exact HO6.out, ?_, ?_⟩
          · exact hgr.cell (fun e => by have := hob _ e; omega) (bkeep hba HQ1.out)
          · exact (HB1.out.trans (hba.mono hz1)).trans (hgr.below_of (Nat.le_trans hz1 hba.size) (fun b hb e => by have := hob _ e; omega))
      · go_wp2
        go_roundg (n - (k + 1))
        case measure => have := HG.out; omega
        case rel =>
          refine ⟨k + 1, pn, vc, vA, rfl, by omega, by go_num, rfl, by rw [placesN_skip (by rw [HK.out]; omega)]; exact HP.out, by rw [placesN_skip (by rw [HK.out]; omega)]; exact HO1.out, HQ1.out, HB1.out⟩
    · have hlt' : ¬ (k : Int) < (n : Int) := by omega
      have hkn : k = n := by omega
      subst hkn
      clear HG hlt hlt'
      by_cases h0 : pn = 0
      · have HE : Hid (placesN l k = []) := Lib.hid (List.eq_nil_of_length_eq_zero (by rw [← HP.out]; exact h0))
        subst h0
        clear HO
        go_wp2_with (go_at_call 17; go_loud (refine (sortStable_none vA vc _ wr).mono ?_); rintro r w9 ⟨rfl, rfl⟩)
        go_ret
        have hl : LineN l k [] := ⟨List.Pairwise.nil, fun i => by rw [← placesN_mem, HE.out]⟩
        have hn := HN.out
        have hl2 : LineN l l.length [] := by rw [← hn]; exact hl
        have he : lineE l = [] := hl2.eq.symm
        exact ⟨vA, 0, vc, rfl, by rw [he]; rfl, by omega, by rw [he]; exact Rd.none_ _ _ _ _, by rw [he]; exact hl, HB.out⟩
      · obtain ⟨g, cap, hv, hbg, hlg⟩ := HO.out.form (by omega)
        injection hv with hv hv3 hv4
        subst hv
        subst hv4
        obtain ⟨b, o, cl, x, hA, hFb, _, _, _⟩ := HL.out.at_ (show 0 < k by omega)
        subst hA
        have HC := Lib.hid (lineCmp _ w.heap.size g b o k c l wr (by omega) (HL.out.below HB.out) (fun hf => by omega) hq (by omega))
        have HR := Lib.hid (rowI_of_own HO.out (by omega))
        have HV : Hid (Vs (fun x => ∃ p : Nat, p < k ∧ x = p) pn (seqI (placesN l k))) := Lib.hid (fun i hi => by
          have hi2 : i < (placesN l k).length := by rw [← HP.out]; exact hi
          refine ⟨(placesN l k)[i], ((placesN_mem l k _).1 (List.getElem_mem hi2)).1, ?_⟩
          unfold seqI; rw [List.getElem?_eq_getElem hi2]; rfl)
        have hp0 : 0 < pn := by omega
        have hpm : pn ≤ 1152921504606 := by omega
        clear h0 hFb HO
        go_wp2_with (go_at_call 17; go_loud (refine (sortStable_any g 0 pn vc _ _ _ _ wr hp0 hpm HC.out HR.out HV.out (seqI_rise HP.out)).mono ?_); rintro r w9 ⟨rfl, ⟨ys, q1, q2, q3⟩, q4⟩; have H1 := Lib.hid q1; have H2 := Lib.hid q2; have H3 := Lib.hid q3; have H4 := Lib.hid q4; clear q1 q2 q3 q4)
        go_ret
        obtain ⟨idx, hi1, hi2, hi3⟩ := line_sorted (l := l) (n := k) HP.out H2.out H3.out
        have hn := HN.out
        have hl2 : LineN l l.length idx := by rw [← hn]; exact hi2
        have he := hl2.eq
        refine ⟨some ⟨g, 0, none⟩, pn, vc, rfl, by rw [← he, hi1], hpk, by
          rw [← he]
          refine ⟨by rw [pvs_len, hi1, Nat.mul_one], fun _ => ⟨g, 0, rfl, by show w.heap.size ≤ g; omega, fun j u hu => ?_⟩⟩
          have hj : j < pn := by have := (List.getElem?_eq_some_iff.1 hu).1; rw [pvs_len, hi1] at this; exact this
          have hij : idx[j]? = some (idx[j]'(by omega)) := List.getElem?_eq_getElem (by omega)
          have hc := (H1.out j hj).1
          rw [hi3 j hj] at hc
          rw [pvs_at hij] at hu
          injection hu with hu
          rw [hc, ← hu]; unfold seqI; rw [hij]; rfl, by rw [← he]; exact hi2, HB.out.trans (H4.out.below_of HB.out.size (fun b hb e => by have e : b = g := e; omega))⟩
end Go.Proofs.Ytpbnngfiinihmaa

namespace Go.Proofs.Ytpbnngfiinihmaa
open Go.RowKit
theorem doesE_short {n : Nat} {m : List Ent} (h : Short n m) (c : CallD) (hn : 256 ≤ n) : Short n (doesE m c) := by
  unfold doesE
  split
  · rename_i hc
    split
    · rename_i hk
      refine h.put ⟨by have := hc.1.2.1; simp only; omega, ?_⟩
      rcases hc.1.2.2 with h1 | h1
      · exact absurd hk h1
      · simp only; omega
    · exact h.cut _
  · exact h
/-- the line of calls, one by one, over a map: the first that answers wrongly, or the map behind them -/
def runL (l : List CallD) : List Nat → List Ent → Nat ⊕ List Ent
  | [], m => .inr m
  | i :: r, m => match l[i]? with
    | none => runL l r m
    | some c => if c.dn = true ∧ ¬ answerE m c then .inl i else runL l r (doesE m c)
/-- the first call whose moments are wrong -/
def badPt (l : List CallD) : Option Nat := (List.range l.length).find? (fun i => match l[i]? with | some c => !decide (pointE l i c) | none => false)
/-- Check: of a history -/
noncomputable def checkE (start : List Ent) (l : List CallD) (endl : List Ent) (held : Nat) : Int × Int :=
  match badPt l with
  | some i => ((i : Int), 201)
  | none => match runL l (lineE l) (mapE start) with
    | .inl i => ((i : Int), 202)
    | .inr m => if held = 0 ∧ endl ≠ m then ((l.length : Int), 202) else (-1, 0)
/-- the line of calls ahead of a moment, over a map -/
def aftL (l : List CallD) (now : Int) : List Nat → List Ent → List Ent
  | [], m => m
  | i :: r, m => match l[i]? with
    | none => aftL l now r m
    | some c => aftL l now r (if c.pt < now then doesE m c else m)
/-- the map ahead of a moment -/
noncomputable def afterE (start : List Ent) (l : List CallD) (now : Int) : List Ent := aftL l now (lineE l) (mapE start)
theorem runL_step {l : List CallD} {idx : List Nat} {k p : Nat} {c : CallD} (hk : idx[k]? = some p) (hp : l[p]? = some c) (m : List Ent) :
    runL l (idx.drop k) m = if c.dn = true ∧ ¬ answerE m c then .inl p else runL l (idx.drop (k + 1)) (doesE m c) := by
  obtain ⟨h1, h2⟩ := List.getElem?_eq_some_iff.1 hk
  rw [List.drop_eq_getElem_cons h1, h2]
  conv => lhs; unfold runL
  rw [hp]
theorem aftL_step {l : List CallD} {idx : List Nat} {k p : Nat} {c : CallD} (hk : idx[k]? = some p) (hp : l[p]? = some c) (now : Int) (m : List Ent) :
    aftL l now (idx.drop k) m = aftL l now (idx.drop (k + 1)) (if c.pt < now then doesE m c else m) := by
  obtain ⟨h1, h2⟩ := List.getElem?_eq_some_iff.1 hk
  rw [List.drop_eq_getElem_cons h1, h2]
  conv => lhs; unfold aftL
  rw [hp]
theorem badPt_some {l : List CallD} {i : Nat} {c : CallD} (hc : l[i]? = some c) (hb : ¬ pointE l i c) (h : ∀ j, j < i → ∀ d, l[j]? = some d → pointE l j d) : badPt l = some i := by
  unfold badPt
  have hi := (List.getElem?_eq_some_iff.1 hc).1
  refine find_range_some hi (fun j hj => ?_) ?_
  · have hjl : j < l.length := by omega
    simp only [List.getElem?_eq_getElem hjl]
    have := h j hj l[j] (List.getElem?_eq_getElem hjl)
    simp [this]
  · simp only [hc]
    simp [hb]
theorem badPt_none {l : List CallD} (h : ∀ j, j < l.length → ∀ d, l[j]? = some d → pointE l j d) : badPt l = none := by
  unfold badPt
  refine find_range_none (fun j hj => ?_)
  simp only [List.getElem?_eq_getElem hj]
  have := h j hj l[j] (List.getElem?_eq_getElem hj)
  simp [this]
end Go.Proofs.Ytpbnngfiinihmaa

namespace Go.Proofs.Ytpbnngfiinihmaa
open Go.RowKit
noncomputable def ldC : Code := codeOr (Try.f11.body.bind (regionAt 12))
/-- what the load asks of a world -/
structure LdAt (q : Nat) (v : Value) (g e k p b o : Nat) (c : CallD) (x : CallX) (w : World) : Prop where
  q1 : w.cell? ⟨q, 1, none⟩ = some v
  zi : w.cell? ⟨g, e + k, none⟩ = some (.int .i64 p)
  at_ : CallAt w b (o + p * 17) c x
theorem LdAt.chg {S : Nat → Prop} {q g e k p b o : Nat} {v : Value} {c : CallD} {x : CallX} {w w' : World} (h : LdAt q v g e k p b o c x w) (hc : Chg S w w') (h1 : ¬ S q) (h2 : ¬ S g) (h3 : ¬ S b) : LdAt q v g e k p b o c x w' :=
  ⟨hc.cell h1 h.q1, hc.cell h2 h.zi, h.at_.chg hc h3⟩
theorem LdAt.new {q g e k p b o : Nat} {v : Value} {c : CallD} {x : CallX} {w : World} (h : LdAt q v g e k p b o c x w) (ob : Obj) : LdAt q v g e k p b o c x (w.alloc ob) :=
  h.chg (S := Nil) ((Chg.refl _ _).alloc _) (fun h => h) (fun h => h) (fun h => h)
set_option maxRecDepth 100000 in
set_option maxHeartbeats 4000000 in
theorem ld_call (q g e m lc k p b o n cc : Nat) (c : CallD) (x : CallX) (w : World) {u0 u2 u3 u4 u5 u6 u9 u10 u11 u12 u13 u14 u15 u16 u17 u18 u19 u20 u21 u22 u23 u24 u25 u26 u27 u28 u29 u30 u31 u32 u33 u34 u35 u36 u37 u38 u39 u40 u41 u42 u43 u44 u45 u46 u47 u48 u49 u50 u51 u52 u53 u54 u55 u56 u57 u58 u59 u60 u61 u62 u63 u64 u65 u66 u67 u68 u69 u70 u71 u72 : Value} (Q : Exit → Act → World → Prop) (HQP : Hid (∀ c t (a : Act) w, Q (.panic c) ⟨t, a.defers⟩ w → Q (.panic c) a w))
    (hk : k < m) (hm : m ≤ 1152921504606) (hp : p < n) (hn : n ≤ 1152921504606) (S0 : LdAt q (.slice (some ⟨b, o, none⟩) n cc) g e k p b o c x w)
    (hexit : ∀ (v37 v38 v39 v40 v41 v42 v43 v44 : Value) (w' : World), Blk w' w.heap.size 48 (callCs c x) → Below w.heap.size w w' → (let s9 := w.heap.size; Q .normal ⟨(u0 :: .pointer (some ⟨q, 0, none⟩) :: u2 :: u3 :: u4 :: u5 :: u6 :: .slice (some ⟨g, e, none⟩) m lc :: .int .i64 k :: .pointer (some ⟨s9, 0, none⟩) :: u10 :: u11 :: u12 :: u13 :: u14 :: u15 :: u16 :: u17 :: u18 :: u19 :: u20 :: u21 :: u22 :: u23 :: u24 :: u25 :: u26 :: u27 :: u28 :: u29 :: u30 :: u31 :: u32 :: u33 :: u34 :: u35 :: u36 :: v37 :: v38 :: v39 :: v40 :: v41 :: v42 :: v43 :: v44 :: u45 :: u46 :: u47 :: u48 :: u49 :: u50 :: u51 :: u52 :: u53 :: u54 :: u55 :: u56 :: u57 :: u58 :: u59 :: u60 :: u61 :: u62 :: u63 :: u64 :: u65 :: u66 :: u67 :: u68 :: u69 :: u70 :: u71 :: u72 :: []).toArray, []⟩ w')) :
    Code.wp Try.prog ldC Q ⟨(u0 :: .pointer (some ⟨q, 0, none⟩) :: u2 :: u3 :: u4 :: u5 :: u6 :: .slice (some ⟨g, e, none⟩) m lc :: .int .i64 k :: u9 :: u10 :: u11 :: u12 :: u13 :: u14 :: u15 :: u16 :: u17 :: u18 :: u19 :: u20 :: u21 :: u22 :: u23 :: u24 :: u25 :: u26 :: u27 :: u28 :: u29 :: u30 :: u31 :: u32 :: u33 :: u34 :: u35 :: u36 :: u37 :: u38 :: u39 :: u40 :: u41 :: u42 :: u43 :: u44 :: u45 :: u46 :: u47 :: u48 :: u49 :: u50 :: u51 :: u52 :: u53 :: u54 :: u55 :: u56 :: u57 :: u58 :: u59 :: u60 :: u61 :: u62 :: u63 :: u64 :: u65 :: u66 :: u67 :: u68 :: u69 :: u70 :: u71 :: u72 :: []).toArray, []⟩ w := by
  have HEX := Lib.hid hexit
  have S1 : LdAt q (.slice (some ⟨b, o, none⟩) n cc) g e k p b o c x w.drew := S0.chg (S := Nil) (Chg.refl _ _).drew (fun h => h) (fun h => h) (fun h => h)
  have s0l := cell_lt S0.q1
  have s1l := cell_lt S0.zi
  have s2l := cell_lt S0.at_.c0
  have hqw : ∀ b, b < w.heap.size → ¬ One w.heap.size b := (by intro b hb e; have e : b = w.heap.size := e; omega)
  clear hexit S0
  conv => arg 2; whnf
  refine wp_region_V (fun w' => LdAt q (.slice (some ⟨b, o, none⟩) n cc) g e k p b o c x w') (by kernel_rfl) ?_
  refine wpV_take (i := 0) (v := ?_) rfl (by kernel_rfl) (by kernel_rfl) (by kernel_rfl) (by first | exact fun _ _ _ h => h | exact fun c a w h => HQP.out c _ a w h) S1 (Or.inl ⟨by kernel_rfl, ?_⟩) ?_
  rotate_left
  · intro w hSw
    go_simp
    try with_reducible rfl
  try simp only [Act.put, List.setIfInBounds_toArray, List.set_cons_zero, List.set_cons_succ]
  refine wpV_take (i := 2) (v := ?_) rfl (by kernel_rfl) (by kernel_rfl) (by kernel_rfl) (by first | exact fun _ _ _ h => h | exact fun c a w h => HQP.out c _ a w h) S1 (Or.inl ⟨by kernel_rfl, ?_⟩) ?_
  rotate_left
  · intro w hSw
    go_simp
    try with_reducible rfl
  try simp only [Act.put, List.setIfInBounds_toArray, List.set_cons_zero, List.set_cons_succ]
  refine wpV_take (i := 3) (v := ?_) rfl (by kernel_rfl) (by kernel_rfl) (by kernel_rfl) (by first | exact fun _ _ _ h => h | exact fun c a w h => HQP.out c _ a w h) S1 (Or.inl ⟨by kernel_rfl, ?_⟩) ?_
  rotate_left
  · intro w hSw
    go_simp
    try with_reducible rfl
  try simp only [Act.put, List.setIfInBounds_toArray, List.set_cons_zero, List.set_cons_succ]
  refine wpV_take (i := 4) (v := ?_) rfl (by kernel_rfl) (by kernel_rfl) (by kernel_rfl) (by first | exact fun _ _ _ h => h | exact fun c a w h => HQP.out c _ a w h) S1 (Or.inl ⟨by kernel_rfl, ?_⟩) ?_
  rotate_left
  · intro w hSw
    go_simp
    try with_reducible rfl
  try simp only [Act.put, List.setIfInBounds_toArray, List.set_cons_zero, List.set_cons_succ]
  refine wpV_take (i := 1) (v := ?_) rfl (by kernel_rfl) (by kernel_rfl) (by kernel_rfl) (by first | exact fun _ _ _ h => h | exact fun c a w h => HQP.out c _ a w h) S1 (Or.inl ⟨by kernel_rfl, ?_⟩) ?_
  rotate_left
  · intro w hSw
    obtain ⟨s0, s1, _⟩ := hSw
    go_simp
    try with_reducible rfl
  try simp only [Act.put, List.setIfInBounds_toArray, List.set_cons_zero, List.set_cons_succ]
  refine wpV_take (i := 5) (v := ?_) rfl (by kernel_rfl) (by kernel_rfl) (by kernel_rfl) (by first | exact fun _ _ _ h => h | exact fun c a w h => HQP.out c _ a w h) S1 (Or.inl ⟨by kernel_rfl, ?_⟩) ?_
  rotate_left
  · intro w hSw
    obtain ⟨s0, s1, _⟩ := hSw
    go_simp
    try with_reducible rfl
  try simp only [Act.put, List.setIfInBounds_toArray, List.set_cons_zero, List.set_cons_succ]
  refine wpV_take (i := 6) (v := ?_) rfl (by kernel_rfl) (by kernel_rfl) (by kernel_rfl) (by first | exact fun _ _ _ h => h | exact fun c a w h => HQP.out c _ a w h) S1 (Or.inl ⟨by kernel_rfl, ?_⟩) ?_
  rotate_left
  · intro w hSw
    go_simp
    try with_reducible rfl
  try simp only [Act.put, List.setIfInBounds_toArray, List.set_cons_zero, List.set_cons_succ]
  refine wpV_take (i := 7) (v := callV c x) rfl (by kernel_rfl) (by kernel_rfl) (by kernel_rfl) (by first | exact fun _ _ _ h => h | exact fun c a w h => HQP.out c _ a w h) S1 ?_ ?_
  · refine yields_load_call (b := b) (o := o + p * 17) rfl (.tmp 43) rfl (by go_simp) (fun w h => h.at_)
  try simp only [Act.put, List.setIfInBounds_toArray, List.set_cons_zero, List.set_cons_succ]
  refine wpV_one (i := 8) (by kernel_rfl) rfl (fun K hK => ?_)
  go_simp
  skip
  refine hK.out _ _ (S1.new _) ?_
  clear hK K
  try simp only [Act.put, List.setIfInBounds_toArray, List.set_cons_zero, List.set_cons_succ]
  refine wpV_one (i := 9) (by kernel_rfl) rfl (fun K hK => ?_)
  refine step_store_call (c := c) (y := x) w.heap.size _ rfl (.tmp 9) (.tmp 44) rfl (by go_simp) (by go_simp) (Blk.new w _ _) rfl ?_; intro w2 hk2 hc2; have HC2 := Lib.hid hc2
  refine hK.out _ _ ((S1.new _).chg hc2 (hqw _ s0l) (hqw _ s1l) (hqw _ s2l)) ?_
  clear hK K
  try simp only [Act.put, List.setIfInBounds_toArray, List.set_cons_zero, List.set_cons_succ]
  refine wpV_done (by kernel_rfl) ?_ _
  go_simp
  have hb1 : Below w.heap.size w w2 := (((Below.refl w.heap.size w).alloc (Nat.le_refl _) _).drew).trans (HC2.out.below_of (by simp) (fun b hb e => hqw b hb e))
  exact HEX.out _ _ _ _ _ _ _ _ _ hk2 hb1
end Go.Proofs.Ytpbnngfiinihmaa

namespace Go.Proofs.Ytpbnngfiinihmaa
open Go.RowKit
noncomputable def saC : Code := codeOr (Try.f14.body.bind (regionAt 6))
/-- the two entries' cells, and what their texts are as strings -/
structure TwoAt (b o b' o' i : Nat) (u1 u2 u3 u4 : Value) (s1 s2 s3 s4 : List UInt8) (w : World) : Prop where
  c1 : w.cell? ⟨b, o + i * 2, none⟩ = some u1
  c2 : w.cell? ⟨b, o + i * 2 + 1, none⟩ = some u2
  c3 : w.cell? ⟨b', o' + i * 2, none⟩ = some u3
  c4 : w.cell? ⟨b', o' + i * 2 + 1, none⟩ = some u4
  q1 : (convert 36 9 u1).run Try.prog w = .ok (.string (sOf s1)) w
  q2 : (convert 36 9 u2).run Try.prog w = .ok (.string (sOf s2)) w
  q3 : (convert 36 9 u3).run Try.prog w = .ok (.string (sOf s3)) w
  q4 : (convert 36 9 u4).run Try.prog w = .ok (.string (sOf s4)) w
set_option maxRecDepth 100000 in
set_option maxHeartbeats 4000000 in
theorem sa_key (b o b' o' n c d i n1 c1 n2 c2 n3 c3 n4 c4 : Nat) (A1 A2 A3 A4 : Option Addr) (s1 s2 s3 s4 : List UInt8) (w : World) {u2 u3 u4 u6 u7 u8 u9 u10 u11 u12 u13 u14 u15 u16 u17 u18 u19 u20 u21 u22 u23 u24 u25 u26 u27 u28 u29 u30 u31 u32 u33 u34 u35 u36 u37 u38 u39 u40 u41 u42 u43 u44 : Value} (Q : Exit → Act → World → Prop) (HQP : Hid (∀ c t (a : Act) w, Q (.panic c) ⟨t, a.defers⟩ w → Q (.panic c) a w))
    (hi : i < n) (hn : n ≤ 1152921504606) (h1 : ((sOf s1).toList == (sOf s3).toList) = false) (S0 : TwoAt b o b' o' i (.slice A1 n1 c1) (.slice A2 n2 c2) (.slice A3 n3 c3) (.slice A4 n4 c4) s1 s2 s3 s4 w.drew)
    (hexit : ∀ (v17 v18 v19 v20 v21 v22 v23 v24 v25 v26 v27 v28 v29 v30 v31 v32 v33 v34 v35 v36 v37 v38 v39 v40 v41 v42 v43 : Value) (rb : Bool) (w' : World), (rb = true) → Chg Nil w w' → Q .normal ⟨(.slice (some ⟨b, o, none⟩) n c :: .slice (some ⟨b', o', none⟩) n d :: u2 :: u3 :: u4 :: .int .i64 i :: u6 :: u7 :: u8 :: u9 :: u10 :: u11 :: u12 :: u13 :: u14 :: u15 :: u16 :: v17 :: v18 :: v19 :: v20 :: v21 :: v22 :: v23 :: v24 :: v25 :: v26 :: v27 :: v28 :: v29 :: v30 :: v31 :: v32 :: v33 :: v34 :: v35 :: v36 :: v37 :: v38 :: v39 :: v40 :: v41 :: v42 :: v43 :: .bool rb :: []).toArray, []⟩ w') :
    Code.wp Try.prog saC Q ⟨(.slice (some ⟨b, o, none⟩) n c :: .slice (some ⟨b', o', none⟩) n d :: u2 :: u3 :: u4 :: .int .i64 i :: u6 :: u7 :: u8 :: u9 :: u10 :: u11 :: u12 :: u13 :: u14 :: u15 :: u16 :: u17 :: u18 :: u19 :: u20 :: u21 :: u22 :: u23 :: u24 :: u25 :: u26 :: u27 :: u28 :: u29 :: u30 :: u31 :: u32 :: u33 :: u34 :: u35 :: u36 :: u37 :: u38 :: u39 :: u40 :: u41 :: u42 :: u43 :: u44 :: []).toArray, []⟩ w := by
  have HEX := Lib.hid hexit
  clear hexit
  conv => arg 2; whnf
  refine wp_region_V (fun w' => TwoAt b o b' o' i (.slice A1 n1 c1) (.slice A2 n2 c2) (.slice A3 n3 c3) (.slice A4 n4 c4) s1 s2 s3 s4 w') (by kernel_rfl) ?_
  refine wpV_take (i := 0) (v := ?_) rfl (by kernel_rfl) (by kernel_rfl) (by kernel_rfl) (by first | exact fun _ _ _ h => h | exact fun c a w h => HQP.out c _ a w h) S0 (Or.inl ⟨by kernel_rfl, ?_⟩) ?_
  rotate_left
  · intro w hSw
    go_simp
    try with_reducible rfl
  try simp only [Act.put, List.setIfInBounds_toArray, List.set_cons_zero, List.set_cons_succ]
  refine wpV_take (i := 1) (v := ?_) rfl (by kernel_rfl) (by kernel_rfl) (by kernel_rfl) (by first | exact fun _ _ _ h => h | exact fun c a w h => HQP.out c _ a w h) S0 (Or.inl ⟨by kernel_rfl, ?_⟩) ?_
  rotate_left
  · intro w hSw
    go_simp
    try with_reducible rfl
  try simp only [Act.put, List.setIfInBounds_toArray, List.set_cons_zero, List.set_cons_succ]
  refine wpV_take (i := 2) (v := ?_) rfl (by kernel_rfl) (by kernel_rfl) (by kernel_rfl) (by first | exact fun _ _ _ h => h | exact fun c a w h => HQP.out c _ a w h) S0 (Or.inl ⟨by kernel_rfl, ?_⟩) ?_
  rotate_left
  · intro w hSw
    go_simp
    try with_reducible rfl
  try simp only [Act.put, List.setIfInBounds_toArray, List.set_cons_zero, List.set_cons_succ]
  refine wpV_take (i := 3) (v := ?_) rfl (by kernel_rfl) (by kernel_rfl) (by kernel_rfl) (by first | exact fun _ _ _ h => h | exact fun c a w h => HQP.out c _ a w h) S0 (Or.inl ⟨by kernel_rfl, ?_⟩) ?_
  rotate_left
  · intro w hSw
    go_simp
    try with_reducible rfl
  try simp only [Act.put, List.setIfInBounds_toArray, List.set_cons_zero, List.set_cons_succ]
  refine wpV_take (i := 6) (v := ?_) rfl (by kernel_rfl) (by kernel_rfl) (by kernel_rfl) (by first | exact fun _ _ _ h => h | exact fun c a w h => HQP.out c _ a w h) S0 (Or.inl ⟨by kernel_rfl, ?_⟩) ?_
  rotate_left
  · intro w hSw
    go_simp
    try with_reducible rfl
  try simp only [Act.put, List.setIfInBounds_toArray, List.set_cons_zero, List.set_cons_succ]
  refine wpV_take (i := 7) (v := ?_) rfl (by kernel_rfl) (by kernel_rfl) (by kernel_rfl) (by first | exact fun _ _ _ h => h | exact fun c a w h => HQP.out c _ a w h) S0 (Or.inl ⟨by kernel_rfl, ?_⟩) ?_
  rotate_left
  · intro w hSw
    go_simp
    try with_reducible rfl
  try simp only [Act.put, List.setIfInBounds_toArray, List.set_cons_zero, List.set_cons_succ]
  refine wpV_take (i := 8) (v := ?_) rfl (by kernel_rfl) (by kernel_rfl) (by kernel_rfl) (by first | exact fun _ _ _ h => h | exact fun c a w h => HQP.out c _ a w h) S0 (Or.inl ⟨by kernel_rfl, ?_⟩) ?_
  rotate_left
  · intro w hSw
    go_simp
    try with_reducible rfl
  try simp only [Act.put, List.setIfInBounds_toArray, List.set_cons_zero, List.set_cons_succ]
  refine wpV_take (i := 9) (v := ?_) rfl (by kernel_rfl) (by kernel_rfl) (by kernel_rfl) (by first | exact fun _ _ _ h => h | exact fun c a w h => HQP.out c _ a w h) S0 (Or.inl ⟨by kernel_rfl, ?_⟩) ?_
  rotate_left
  · intro w hSw
    go_simp
    try with_reducible rfl
  try simp only [Act.put, List.setIfInBounds_toArray, List.set_cons_zero, List.set_cons_succ]
  refine wpV_take (i := 4) (v := ?_) rfl (by kernel_rfl) (by kernel_rfl) (by kernel_rfl) (by first | exact fun _ _ _ h => h | exact fun c a w h => HQP.out c _ a w h) S0 (Or.inl ⟨by kernel_rfl, ?_⟩) ?_
  rotate_left
  · intro w hSw
    obtain ⟨z1, z2, z3, z4, q1, q2, q3, q4⟩ := hSw
    go_simp
    try with_reducible rfl
  try simp only [Act.put, List.setIfInBounds_toArray, List.set_cons_zero, List.set_cons_succ]
  refine wpV_take (i := 5) (v := ?_) rfl (by kernel_rfl) (by kernel_rfl) (by kernel_rfl) (by first | exact fun _ _ _ h => h | exact fun c a w h => HQP.out c _ a w h) S0 (Or.inl ⟨by kernel_rfl, ?_⟩) ?_
  rotate_left
  · intro w hSw
    obtain ⟨z1, z2, z3, z4, q1, q2, q3, q4⟩ := hSw
    go_simp
    try with_reducible rfl
  try simp only [Act.put, List.setIfInBounds_toArray, List.set_cons_zero, List.set_cons_succ]
  refine wpV_take (i := 10) (v := ?_) rfl (by kernel_rfl) (by kernel_rfl) (by kernel_rfl) (by first | exact fun _ _ _ h => h | exact fun c a w h => HQP.out c _ a w h) S0 (Or.inl ⟨by kernel_rfl, ?_⟩) ?_
  rotate_left
  · intro w hSw
    obtain ⟨z1, z2, z3, z4, q1, q2, q3, q4⟩ := hSw
    go_simp
    try with_reducible rfl
  try simp only [Act.put, List.setIfInBounds_toArray, List.set_cons_zero, List.set_cons_succ]
  refine wpV_take (i := 11) (v := ?_) rfl (by kernel_rfl) (by kernel_rfl) (by kernel_rfl) (by first | exact fun _ _ _ h => h | exact fun c a w h => HQP.out c _ a w h) S0 (Or.inl ⟨by kernel_rfl, ?_⟩) ?_
  rotate_left
  · intro w hSw
    obtain ⟨z1, z2, z3, z4, q1, q2, q3, q4⟩ := hSw
    go_simp
    try with_reducible rfl
  try simp only [Act.put, List.setIfInBounds_toArray, List.set_cons_zero, List.set_cons_succ]
  refine wpV_take (i := 12) (v := ?_) rfl (by kernel_rfl) (by kernel_rfl) (by kernel_rfl) (by first | exact fun _ _ _ h => h | exact fun c a w h => HQP.out c _ a w h) S0 (Or.inl ⟨by kernel_rfl, ?_⟩) ?_
  rotate_left
  · intro w hSw
    go_simp
    try with_reducible rfl
  try simp only [Act.put, List.setIfInBounds_toArray, List.set_cons_zero, List.set_cons_succ]
  refine wpV_take (i := 13) (v := ?_) rfl (by kernel_rfl) (by kernel_rfl) (by kernel_rfl) (by first | exact fun _ _ _ h => h | exact fun c a w h => HQP.out c _ a w h) S0 (Or.inl ⟨by kernel_rfl, ?_⟩) ?_
  rotate_left
  · intro w hSw
    go_simp
    try with_reducible rfl
  try simp only [Act.put, List.setIfInBounds_toArray, List.set_cons_zero, List.set_cons_succ]
  refine wpV_take (i := 14) (v := undef) rfl (by kernel_rfl) (by kernel_rfl) (by kernel_rfl) (fun c a w h => HQP.out c _ a w h) S0 (Or.inr ⟨by kernel_rfl, rfl⟩) ?_
  try simp only [Act.put, List.setIfInBounds_toArray, List.set_cons_zero, List.set_cons_succ]
  refine wpV_take (i := 15) (v := undef) rfl (by kernel_rfl) (by kernel_rfl) (by kernel_rfl) (fun c a w h => HQP.out c _ a w h) S0 (Or.inr ⟨by kernel_rfl, rfl⟩) ?_
  try simp only [Act.put, List.setIfInBounds_toArray, List.set_cons_zero, List.set_cons_succ]
  refine wpV_take (i := 16) (v := undef) rfl (by kernel_rfl) (by kernel_rfl) (by kernel_rfl) (fun c a w h => HQP.out c _ a w h) S0 (Or.inr ⟨by kernel_rfl, rfl⟩) ?_
  try simp only [Act.put, List.setIfInBounds_toArray, List.set_cons_zero, List.set_cons_succ]
  refine wpV_take (i := 17) (v := undef) rfl (by kernel_rfl) (by kernel_rfl) (by kernel_rfl) (fun c a w h => HQP.out c _ a w h) S0 (Or.inr ⟨by kernel_rfl, rfl⟩) ?_
  try simp only [Act.put, List.setIfInBounds_toArray, List.set_cons_zero, List.set_cons_succ]
  refine wpV_take (i := 18) (v := undef) rfl (by kernel_rfl) (by kernel_rfl) (by kernel_rfl) (fun c a w h => HQP.out c _ a w h) S0 (Or.inr ⟨by kernel_rfl, rfl⟩) ?_
  try simp only [Act.put, List.setIfInBounds_toArray, List.set_cons_zero, List.set_cons_succ]
  refine wpV_take (i := 19) (v := undef) rfl (by kernel_rfl) (by kernel_rfl) (by kernel_rfl) (fun c a w h => HQP.out c _ a w h) S0 (Or.inr ⟨by kernel_rfl, rfl⟩) ?_
  try simp only [Act.put, List.setIfInBounds_toArray, List.set_cons_zero, List.set_cons_succ]
  refine wpV_take (i := 20) (v := undef) rfl (by kernel_rfl) (by kernel_rfl) (by kernel_rfl) (fun c a w h => HQP.out c _ a w h) S0 (Or.inr ⟨by kernel_rfl, rfl⟩) ?_
  try simp only [Act.put, List.setIfInBounds_toArray, List.set_cons_zero, List.set_cons_succ]
  refine wpV_take (i := 21) (v := undef) rfl (by kernel_rfl) (by kernel_rfl) (by kernel_rfl) (fun c a w h => HQP.out c _ a w h) S0 (Or.inr ⟨by kernel_rfl, rfl⟩) ?_
  try simp only [Act.put, List.setIfInBounds_toArray, List.set_cons_zero, List.set_cons_succ]
  refine wpV_take (i := 22) (v := undef) rfl (by kernel_rfl) (by kernel_rfl) (by kernel_rfl) (fun c a w h => HQP.out c _ a w h) S0 (Or.inr ⟨by kernel_rfl, rfl⟩) ?_
  try simp only [Act.put, List.setIfInBounds_toArray, List.set_cons_zero, List.set_cons_succ]
  refine wpV_take (i := 23) (v := undef) rfl (by kernel_rfl) (by kernel_rfl) (by kernel_rfl) (fun c a w h => HQP.out c _ a w h) S0 (Or.inr ⟨by kernel_rfl, rfl⟩) ?_
  try simp only [Act.put, List.setIfInBounds_toArray, List.set_cons_zero, List.set_cons_succ]
  refine wpV_take (i := 24) (v := undef) rfl (by kernel_rfl) (by kernel_rfl) (by kernel_rfl) (fun c a w h => HQP.out c _ a w h) S0 (Or.inr ⟨by kernel_rfl, rfl⟩) ?_
  try simp only [Act.put, List.setIfInBounds_toArray, List.set_cons_zero, List.set_cons_succ]
  refine wpV_take (i := 25) (v := undef) rfl (by kernel_rfl) (by kernel_rfl) (by kernel_rfl) (fun c a w h => HQP.out c _ a w h) S0 (Or.inr ⟨by kernel_rfl, rfl⟩) ?_
  try simp only [Act.put, List.setIfInBounds_toArray, List.set_cons_zero, List.set_cons_succ]
  refine wpV_take (i := 26) (v := undef) rfl (by kernel_rfl) (by kernel_rfl) (by kernel_rfl) (fun c a w h => HQP.out c _ a w h) S0 (Or.inr ⟨by kernel_rfl, rfl⟩) ?_
  try simp only [Act.put, List.setIfInBounds_toArray, List.set_cons_zero, List.set_cons_succ]
  refine wpV_take (i := 27) (v := ?_) rfl (by kernel_rfl) (by kernel_rfl) (by kernel_rfl) (by first | exact fun _ _ _ h => h | exact fun c a w h => HQP.out c _ a w h) S0 (Or.inl ⟨by kernel_rfl, ?_⟩) ?_
  rotate_left
  · intro w hSw
    go_simp
    try with_reducible rfl
  try simp only [Act.put, List.setIfInBounds_toArray, List.set_cons_zero, List.set_cons_succ]
  refine wpV_done (by kernel_rfl) ?_ _
  go_simp
  exact HEX.out _ _ _ _ _ _ _ _ _ _ _ _ _ _ _ _ _ _ _ _ _ _ _ _ _ _ _ _ _ rfl (Chg.refl _ _).drew
set_option maxRecDepth 100000 in
set_option maxHeartbeats 4000000 in
theorem sa_val (b o b' o' n c d i n1 c1 n2 c2 n3 c3 n4 c4 : Nat) (A1 A2 A3 A4 : Option Addr) (s1 s2 s3 s4 : List UInt8) (w : World) {u2 u3 u4 u6 u7 u8 u9 u10 u11 u12 u13 u14 u15 u16 u17 u18 u19 u20 u21 u22 u23 u24 u25 u26 u27 u28 u29 u30 u31 u32 u33 u34 u35 u36 u37 u38 u39 u40 u41 u42 u43 u44 : Value} (Q : Exit → Act → World → Prop) (HQP : Hid (∀ c t (a : Act) w, Q (.panic c) ⟨t, a.defers⟩ w → Q (.panic c) a w))
    (hi : i < n) (hn : n ≤ 1152921504606) (h1 : ((sOf s1).toList == (sOf s3).toList) = true) (S0 : TwoAt b o b' o' i (.slice A1 n1 c1) (.slice A2 n2 c2) (.slice A3 n3 c3) (.slice A4 n4 c4) s1 s2 s3 s4 w.drew)
    (hexit : ∀ (v17 v18 v19 v20 v21 v22 v23 v24 v25 v26 v27 v28 v29 v30 v31 v32 v33 v34 v35 v36 v37 v38 v39 v40 v41 v42 v43 : Value) (rb : Bool) (w' : World), (rb = !((sOf s2).toList == (sOf s4).toList)) → Chg Nil w w' → Q .normal ⟨(.slice (some ⟨b, o, none⟩) n c :: .slice (some ⟨b', o', none⟩) n d :: u2 :: u3 :: u4 :: .int .i64 i :: u6 :: u7 :: u8 :: u9 :: u10 :: u11 :: u12 :: u13 :: u14 :: u15 :: u16 :: v17 :: v18 :: v19 :: v20 :: v21 :: v22 :: v23 :: v24 :: v25 :: v26 :: v27 :: v28 :: v29 :: v30 :: v31 :: v32 :: v33 :: v34 :: v35 :: v36 :: v37 :: v38 :: v39 :: v40 :: v41 :: v42 :: v43 :: .bool rb :: []).toArray, []⟩ w') :
    Code.wp Try.prog saC Q ⟨(.slice (some ⟨b, o, none⟩) n c :: .slice (some ⟨b', o', none⟩) n d :: u2 :: u3 :: u4 :: .int .i64 i :: u6 :: u7 :: u8 :: u9 :: u10 :: u11 :: u12 :: u13 :: u14 :: u15 :: u16 :: u17 :: u18 :: u19 :: u20 :: u21 :: u22 :: u23 :: u24 :: u25 :: u26 :: u27 :: u28 :: u29 :: u30 :: u31 :: u32 :: u33 :: u34 :: u35 :: u36 :: u37 :: u38 :: u39 :: u40 :: u41 :: u42 :: u43 :: u44 :: []).toArray, []⟩ w := by
  have HEX := Lib.hid hexit
  clear hexit
  conv => arg 2; whnf
  refine wp_region_V (fun w' => TwoAt b o b' o' i (.slice A1 n1 c1) (.slice A2 n2 c2) (.slice A3 n3 c3) (.slice A4 n4 c4) s1 s2 s3 s4 w') (by kernel_rfl) ?_
  refine wpV_take (i := 0) (v := ?_) rfl (by kernel_rfl) (by kernel_rfl) (by kernel_rfl) (by first | exact fun _ _ _ h => h | exact fun c a w h => HQP.out c _ a w h) S0 (Or.inl ⟨by kernel_rfl, ?_⟩) ?_
  rotate_left
  · intro w hSw
    go_simp
    try with_reducible rfl
  try simp only [Act.put, List.setIfInBounds_toArray, List.set_cons_zero, List.set_cons_succ]
  refine wpV_take (i := 1) (v := ?_) rfl (by kernel_rfl) (by kernel_rfl) (by kernel_rfl) (by first | exact fun _ _ _ h => h | exact fun c a w h => HQP.out c _ a w h) S0 (Or.inl ⟨by kernel_rfl, ?_⟩) ?_
  rotate_left
  · intro w hSw
    go_simp
    try with_reducible rfl
  try simp only [Act.put, List.setIfInBounds_toArray, List.set_cons_zero, List.set_cons_succ]
  refine wpV_take (i := 2) (v := ?_) rfl (by kernel_rfl) (by kernel_rfl) (by kernel_rfl) (by first | exact fun _ _ _ h => h | exact fun c a w h => HQP.out c _ a w h) S0 (Or.inl ⟨by kernel_rfl, ?_⟩) ?_
  rotate_left
  · intro w hSw
    go_simp
    try with_reducible rfl
  try simp only [Act.put, List.setIfInBounds_toArray, List.set_cons_zero, List.set_cons_succ]
  refine wpV_take (i := 3) (v := ?_) rfl (by kernel_rfl) (by kernel_rfl) (by kernel_rfl) (by first | exact fun _ _ _ h => h | exact fun c a w h => HQP.out c _ a w h) S0 (Or.inl ⟨by kernel_rfl, ?_⟩) ?_
  rotate_left
  · intro w hSw
    go_simp
    try with_reducible rfl
  try simp only [Act.put, List.setIfInBounds_toArray, List.set_cons_zero, List.set_cons_succ]
  refine wpV_take (i := 6) (v := ?_) rfl (by kernel_rfl) (by kernel_rfl) (by kernel_rfl) (by first | exact fun _ _ _ h => h | exact fun c a w h => HQP.out c _ a w h) S0 (Or.inl ⟨by kernel_rfl, ?_⟩) ?_
  rotate_left
  · intro w hSw
    go_simp
    try with_reducible rfl
  try simp only [Act.put, List.setIfInBounds_toArray, List.set_cons_zero, List.set_cons_succ]
  refine wpV_take (i := 7) (v := ?_) rfl (by kernel_rfl) (by kernel_rfl) (by kernel_rfl) (by first | exact fun _ _ _ h => h | exact fun c a w h => HQP.out c _ a w h) S0 (Or.inl ⟨by kernel_rfl, ?_⟩) ?_
  rotate_left
  · intro w hSw
    go_simp
    try with_reducible rfl
  try simp only [Act.put, List.setIfInBounds_toArray, List.set_cons_zero, List.set_cons_succ]
  refine wpV_take (i := 8) (v := ?_) rfl (by kernel_rfl) (by kernel_rfl) (by kernel_rfl) (by first | exact fun _ _ _ h => h | exact fun c a w h => HQP.out c _ a w h) S0 (Or.inl ⟨by kernel_rfl, ?_⟩) ?_
  rotate_left
  · intro w hSw
    go_simp
    try with_reducible rfl
  try simp only [Act.put, List.setIfInBounds_toArray, List.set_cons_zero, List.set_cons_succ]
  refine wpV_take (i := 9) (v := ?_) rfl (by kernel_rfl) (by kernel_rfl) (by kernel_rfl) (by first | exact fun _ _ _ h => h | exact fun c a w h => HQP.out c _ a w h) S0 (Or.inl ⟨by kernel_rfl, ?_⟩) ?_
  rotate_left
  · intro w hSw
    go_simp
    try with_reducible rfl
  try simp only [Act.put, List.setIfInBounds_toArray, List.set_cons_zero, List.set_cons_succ]
  refine wpV_take (i := 4) (v := ?_) rfl (by kernel_rfl) (by kernel_rfl) (by kernel_rfl) (by first | exact fun _ _ _ h => h | exact fun c a w h => HQP.out c _ a w h) S0 (Or.inl ⟨by kernel_rfl, ?_⟩) ?_
  rotate_left
  · intro w hSw
    obtain ⟨z1, z2, z3, z4, q1, q2, q3, q4⟩ := hSw
    go_simp
    try with_reducible rfl
  try simp only [Act.put, List.setIfInBounds_toArray, List.set_cons_zero, List.set_cons_succ]
  refine wpV_take (i := 5) (v := ?_) rfl (by kernel_rfl) (by kernel_rfl) (by kernel_rfl) (by first | exact fun _ _ _ h => h | exact fun c a w h => HQP.out c _ a w h) S0 (Or.inl ⟨by kernel_rfl, ?_⟩) ?_
  rotate_left
  · intro w hSw
    obtain ⟨z1, z2, z3, z4, q1, q2, q3, q4⟩ := hSw
    go_simp
    try with_reducible rfl
  try simp only [Act.put, List.setIfInBounds_toArray, List.set_cons_zero, List.set_cons_succ]
  refine wpV_take (i := 10) (v := ?_) rfl (by kernel_rfl) (by kernel_rfl) (by kernel_rfl) (by first | exact fun _ _ _ h => h | exact fun c a w h => HQP.out c _ a w h) S0 (Or.inl ⟨by kernel_rfl, ?_⟩) ?_
  rotate_left
  · intro w hSw
    obtain ⟨z1, z2, z3, z4, q1, q2, q3, q4⟩ := hSw
    go_simp
    try with_reducible rfl
  try simp only [Act.put, List.setIfInBounds_toArray, List.set_cons_zero, List.set_cons_succ]
  refine wpV_take (i := 11) (v := ?_) rfl (by kernel_rfl) (by kernel_rfl) (by kernel_rfl) (by first | exact fun _ _ _ h => h | exact fun c a w h => HQP.out c _ a w h) S0 (Or.inl ⟨by kernel_rfl, ?_⟩) ?_
  rotate_left
  · intro w hSw
    obtain ⟨z1, z2, z3, z4, q1, q2, q3, q4⟩ := hSw
    go_simp
    try with_reducible rfl
  try simp only [Act.put, List.setIfInBounds_toArray, List.set_cons_zero, List.set_cons_succ]
  refine wpV_take (i := 12) (v := ?_) rfl (by kernel_rfl) (by kernel_rfl) (by kernel_rfl) (by first | exact fun _ _ _ h => h | exact fun c a w h => HQP.out c _ a w h) S0 (Or.inl ⟨by kernel_rfl, ?_⟩) ?_
  rotate_left
  · intro w hSw
    go_simp
    try with_reducible rfl
  try simp only [Act.put, List.setIfInBounds_toArray, List.set_cons_zero, List.set_cons_succ]
  refine wpV_take (i := 13) (v := ?_) rfl (by kernel_rfl) (by kernel_rfl) (by kernel_rfl) (by first | exact fun _ _ _ h => h | exact fun c a w h => HQP.out c _ a w h) S0 (Or.inl ⟨by kernel_rfl, ?_⟩) ?_
  rotate_left
  · intro w hSw
    go_simp
    try with_reducible rfl
  try simp only [Act.put, List.setIfInBounds_toArray, List.set_cons_zero, List.set_cons_succ]
  refine wpV_take (i := 14) (v := ?_) rfl (by kernel_rfl) (by kernel_rfl) (by kernel_rfl) (by first | exact fun _ _ _ h => h | exact fun c a w h => HQP.out c _ a w h) S0 (Or.inl ⟨by kernel_rfl, ?_⟩) ?_
  rotate_left
  · intro w hSw
    go_simp
    try with_reducible rfl
  try simp only [Act.put, List.setIfInBounds_toArray, List.set_cons_zero, List.set_cons_succ]
  refine wpV_take (i := 15) (v := ?_) rfl (by kernel_rfl) (by kernel_rfl) (by kernel_rfl) (by first | exact fun _ _ _ h => h | exact fun c a w h => HQP.out c _ a w h) S0 (Or.inl ⟨by kernel_rfl, ?_⟩) ?_
  rotate_left
  · intro w hSw
    go_simp
    try with_reducible rfl
  try simp only [Act.put, List.setIfInBounds_toArray, List.set_cons_zero, List.set_cons_succ]
  refine wpV_take (i := 16) (v := ?_) rfl (by kernel_rfl) (by kernel_rfl) (by kernel_rfl) (by first | exact fun _ _ _ h => h | exact fun c a w h => HQP.out c _ a w h) S0 (Or.inl ⟨by kernel_rfl, ?_⟩) ?_
  rotate_left
  · intro w hSw
    go_simp
    try with_reducible rfl
  try simp only [Act.put, List.setIfInBounds_toArray, List.set_cons_zero, List.set_cons_succ]
  refine wpV_take (i := 17) (v := ?_) rfl (by kernel_rfl) (by kernel_rfl) (by kernel_rfl) (by first | exact fun _ _ _ h => h | exact fun c a w h => HQP.out c _ a w h) S0 (Or.inl ⟨by kernel_rfl, ?_⟩) ?_
  rotate_left
  · intro w hSw
    go_simp
    try with_reducible rfl
  try simp only [Act.put, List.setIfInBounds_toArray, List.set_cons_zero, List.set_cons_succ]
  refine wpV_take (i := 20) (v := ?_) rfl (by kernel_rfl) (by kernel_rfl) (by kernel_rfl) (by first | exact fun _ _ _ h => h | exact fun c a w h => HQP.out c _ a w h) S0 (Or.inl ⟨by kernel_rfl, ?_⟩) ?_
  rotate_left
  · intro w hSw
    go_simp
    try with_reducible rfl
  try simp only [Act.put, List.setIfInBounds_toArray, List.set_cons_zero, List.set_cons_succ]
  refine wpV_take (i := 21) (v := ?_) rfl (by kernel_rfl) (by kernel_rfl) (by kernel_rfl) (by first | exact fun _ _ _ h => h | exact fun c a w h => HQP.out c _ a w h) S0 (Or.inl ⟨by kernel_rfl, ?_⟩) ?_
  rotate_left
  · intro w hSw
    go_simp
    try with_reducible rfl
  try simp only [Act.put, List.setIfInBounds_toArray, List.set_cons_zero, List.set_cons_succ]
  refine wpV_take (i := 22) (v := ?_) rfl (by kernel_rfl) (by kernel_rfl) (by kernel_rfl) (by first | exact fun _ _ _ h => h | exact fun c a w h => HQP.out c _ a w h) S0 (Or.inl ⟨by kernel_rfl, ?_⟩) ?_
  rotate_left
  · intro w hSw
    go_simp
    try with_reducible rfl
  try simp only [Act.put, List.setIfInBounds_toArray, List.set_cons_zero, List.set_cons_succ]
  refine wpV_take (i := 23) (v := ?_) rfl (by kernel_rfl) (by kernel_rfl) (by kernel_rfl) (by first | exact fun _ _ _ h => h | exact fun c a w h => HQP.out c _ a w h) S0 (Or.inl ⟨by kernel_rfl, ?_⟩) ?_
  rotate_left
  · intro w hSw
    go_simp
    try with_reducible rfl
  try simp only [Act.put, List.setIfInBounds_toArray, List.set_cons_zero, List.set_cons_succ]
  refine wpV_take (i := 18) (v := ?_) rfl (by kernel_rfl) (by kernel_rfl) (by kernel_rfl) (by first | exact fun _ _ _ h => h | exact fun c a w h => HQP.out c _ a w h) S0 (Or.inl ⟨by kernel_rfl, ?_⟩) ?_
  rotate_left
  · intro w hSw
    obtain ⟨z1, z2, z3, z4, q1, q2, q3, q4⟩ := hSw
    go_simp
    try with_reducible rfl
  try simp only [Act.put, List.setIfInBounds_toArray, List.set_cons_zero, List.set_cons_succ]
  refine wpV_take (i := 19) (v := ?_) rfl (by kernel_rfl) (by kernel_rfl) (by kernel_rfl) (by first | exact fun _ _ _ h => h | exact fun c a w h => HQP.out c _ a w h) S0 (Or.inl ⟨by kernel_rfl, ?_⟩) ?_
  rotate_left
  · intro w hSw
    obtain ⟨z1, z2, z3, z4, q1, q2, q3, q4⟩ := hSw
    go_simp
    try with_reducible rfl
  try simp only [Act.put, List.setIfInBounds_toArray, List.set_cons_zero, List.set_cons_succ]
  refine wpV_take (i := 24) (v := ?_) rfl (by kernel_rfl) (by kernel_rfl) (by kernel_rfl) (by first | exact fun _ _ _ h => h | exact fun c a w h => HQP.out c _ a w h) S0 (Or.inl ⟨by kernel_rfl, ?_⟩) ?_
  rotate_left
  · intro w hSw
    obtain ⟨z1, z2, z3, z4, q1, q2, q3, q4⟩ := hSw
    go_simp
    try with_reducible rfl
  try simp only [Act.put, List.setIfInBounds_toArray, List.set_cons_zero, List.set_cons_succ]
  refine wpV_take (i := 25) (v := ?_) rfl (by kernel_rfl) (by kernel_rfl) (by kernel_rfl) (by first | exact fun _ _ _ h => h | exact fun c a w h => HQP.out c _ a w h) S0 (Or.inl ⟨by kernel_rfl, ?_⟩) ?_
  rotate_left
  · intro w hSw
    obtain ⟨z1, z2, z3, z4, q1, q2, q3, q4⟩ := hSw
    go_simp
    try with_reducible rfl
  try simp only [Act.put, List.setIfInBounds_toArray, List.set_cons_zero, List.set_cons_succ]
  refine wpV_take (i := 26) (v := ?_) rfl (by kernel_rfl) (by kernel_rfl) (by kernel_rfl) (by first | exact fun _ _ _ h => h | exact fun c a w h => HQP.out c _ a w h) S0 (Or.inl ⟨by kernel_rfl, ?_⟩) ?_
  rotate_left
  · intro w hSw
    go_simp
    try with_reducible rfl
  try simp only [Act.put, List.setIfInBounds_toArray, List.set_cons_zero, List.set_cons_succ]
  refine wpV_take (i := 27) (v := ?_) rfl (by kernel_rfl) (by kernel_rfl) (by kernel_rfl) (by first | exact fun _ _ _ h => h | exact fun c a w h => HQP.out c _ a w h) S0 (Or.inl ⟨by kernel_rfl, ?_⟩) ?_
  rotate_left
  · intro w hSw
    go_simp
    try with_reducible rfl
  try simp only [Act.put, List.setIfInBounds_toArray, List.set_cons_zero, List.set_cons_succ]
  refine wpV_done (by kernel_rfl) ?_ _
  go_simp
  exact HEX.out _ _ _ _ _ _ _ _ _ _ _ _ _ _ _ _ _ _ _ _ _ _ _ _ _ _ _ _ _ rfl (Chg.refl _ _).drew
theorem TwoAt.of {w : World} {b o b' o' i n1 c1 n2 c2 n3 c3 n4 c4 : Nat} {A1 A2 A3 A4 : Option Addr} {s1 s2 s3 s4 : List UInt8}
    (z1 : w.cell? ⟨b, o + i * 2, none⟩ = some (.slice A1 n1 c1)) (z2 : w.cell? ⟨b, o + i * 2 + 1, none⟩ = some (.slice A2 n2 c2)) (z3 : w.cell? ⟨b', o' + i * 2, none⟩ = some (.slice A3 n3 c3)) (z4 : w.cell? ⟨b', o' + i * 2 + 1, none⟩ = some (.slice A4 n4 c4))
    (h1 : SB w Any (.slice A1 n1 c1) s1) (h2 : SB w Any (.slice A2 n2 c2) s2) (h3 : SB w Any (.slice A3 n3 c3) s3) (h4 : SB w Any (.slice A4 n4 c4) s4) :
    TwoAt b o b' o' i (.slice A1 n1 c1) (.slice A2 n2 c2) (.slice A3 n3 c3) (.slice A4 n4 c4) s1 s2 s3 s4 w.drew :=
  ⟨z1, z2, z3, z4, conv_any _ Any _ _ _ _ h1.parts.2.2.2.drew h1.parts.2.2.1, conv_any _ Any _ _ _ _ h2.parts.2.2.2.drew h2.parts.2.2.1, conv_any _ Any _ _ _ _ h3.parts.2.2.2.drew h3.parts.2.2.1, conv_any _ Any _ _ _ _ h4.parts.2.2.2.drew h4.parts.2.2.1⟩
set_option maxRecDepth 100000 in
set_option maxHeartbeats 8000000 in
theorem sameEntries_any (A B : Option Addr) (n m c d : Nat) (l r : List Ent) (w : World) (h : Ents w Any A n l) (k : Ents w Any B m r) (hn : n ≤ 1152921504) (hm : m ≤ 1152921504) :
    Calls Try.prog 14 #[.slice A n c, .slice B m d] w fun e w' => e = .returned (.bool (decide (l = r))) ∧ Below w.heap.size w w' := by
  have HH := Lib.hid h
  have HK := Lib.hid k
  have H1 := Lib.hid h.len
  have H2 := Lib.hid k.len
  clear h k
  by_cases hnm : n = m
  · subst hnm
    go_enter Try.func14, Try.ntmps14
    go_wp2
    go_loopg [5] n (fun g' iv wz => ∃ (i : Nat), g' = n - i ∧ i ≤ n ∧ iv = .int .i64 i ∧ l.take i = r.take i ∧ Below w.heap.size w wz)
    case atStart => exact ⟨0, by omega, by omega, rfl, by simp, Below.refl _ _⟩
    case round =>
      obtain ⟨i, hg, hi, rfl, heq, hb⟩ := hrel
      have HG := Lib.hid hg
      have HEQ := Lib.hid heq
      have HB := Lib.hid hb
      clear hg heq hb
      by_cases hlt : i < n
      · obtain ⟨b, o, A1, n1, c1, A2, n2, c2, k1, v1, rfl, hl, z1, z2, s1, s2⟩ := rd_text (HH.out.below HB.out) hlt
        obtain ⟨b', o', A3, n3, c3, A4, n4, c4, k2, v2, rfl, hr, z3, z4, s3, s4⟩ := rd_text (HK.out.below HB.out) hlt
        have HL := Lib.hid hl
        have HR := Lib.hid hr
        have HT := Lib.hid (TwoAt.of z1 z2 z3 z4 s1 s2 s3 s4)
        have hnn : n ≤ 1152921504606 := by omega
        clear hl hr z1 z2 z3 z4 s1 s2 s3 s4
        go_upto_region 6 with fail
        by_cases hk : k1 = k2
        · refine sa_val b o b' o' n c d i n1 c1 n2 c2 n3 c3 n4 c4 A1 A2 A3 A4 k1 v1 k2 v2 wr _ (by exact Lib.hid (fun _ _ _ _ h => h)) hlt hnn (by rw [sOf_eq]; simpa using hk) HT.out ?_
          intro v17 v18 v19 v20 v21 v22 v23 v24 v25 v26 v27 v28 v29 v30 v31 v32 v33 v34 v35 v36 v37 v38 v39 v40 v41 v42 v43 rb w1 hrb hc1
          have HB1 := Lib.hid (HB.out.trans (hc1.below.mono HB.out.size))
          rw [sOf_eq] at hrb
          clear hc1
          by_cases hv : v1 = v2
          · have hr2 : rb = false := by rw [hrb]; simp [hv]
            subst hr2
            clear hrb
            have HKV : Hid (k1 = k2 ∧ v1 = v2) := Lib.hid ⟨hk, hv⟩
            clear hk hv
            go_wp2
            go_roundg (n - (i + 1))
            case measure => have := HG.out; omega
            case rel => exact ⟨i + 1, rfl, by omega, by go_num, by rw [List.take_add_one, List.take_add_one, HL.out, HR.out, HEQ.out, HKV.out.1, HKV.out.2], HB1.out⟩
          · have hr2 : rb = true := by rw [hrb]; simp [hv]
            subst hr2
            clear hrb
            go_wp2
            go_ret
            refine ⟨ret_bool ⟨fun h => (by simp at h), fun h => ?_⟩, HB1.out⟩
            subst h
            have := HL.out.symm.trans HR.out
            injection this with this; injection this with _ this
            exact (hv this).elim
        · refine sa_key b o b' o' n c d i n1 c1 n2 c2 n3 c3 n4 c4 A1 A2 A3 A4 k1 v1 k2 v2 wr _ (by exact Lib.hid (fun _ _ _ _ h => h)) hlt hnn (by rw [sOf_eq]; simpa using hk) HT.out ?_
          intro v17 v18 v19 v20 v21 v22 v23 v24 v25 v26 v27 v28 v29 v30 v31 v32 v33 v34 v35 v36 v37 v38 v39 v40 v41 v42 v43 rb w1 hrb hc1
          have HB1 := Lib.hid (HB.out.trans (hc1.below.mono HB.out.size))
          subst hrb
          clear hc1
          go_wp2
          go_ret
          refine ⟨ret_bool ⟨fun h => (by simp at h), fun h => ?_⟩, HB1.out⟩
          subst h
          have := HL.out.symm.trans HR.out
          injection this with this; injection this with this _
          exact (hk this).elim
      · have hin : i = n := by omega
        subst hin
        go_wp2
        go_ret
        refine ⟨ret_bool ⟨fun _ => ?_, fun _ => rfl⟩, HB.out⟩
        have h1 := HEQ.out
        rwa [List.take_of_length_le (by have := H1.out; omega), List.take_of_length_le (by have := H2.out; omega)] at h1
  · have hne : ((n : Int) == (m : Int)) = false := by rw [beq_eq_false_iff_ne]; omega
    have HNE := Lib.hid hnm
    clear hnm
    go_enter Try.func14, Try.ntmps14
    go_wp2
    go_ret
    refine ⟨ret_bool ⟨fun h => (by simp at h), fun h => ?_⟩, Below.refl _ _⟩
    subst h
    exact (HNE.out (by have := H1.out; have := H2.out; omega)).elim
end Go.Proofs.Ytpbnngfiinihmaa
