/- WALKS: the document's packed tree: a level is put into the arena. The document's packed tree, level by level, as data; and that it is the program's. No program in sight. WALKS: the document's number of nodes; the live question; the law. WALKS: entries that may be, lists that rise; the program's text and the document's. -/
import Derived.Test.YtgjphmlmndcaeaaPs13
import Derived.Test.YtgjphmlmndcaeaaPs02
import Derived.Deep.LoopGhost
import Derived.Test.YtgjphmlmndcaeaaPs05
import Derived.Test.YtgjphmlmndcaeaaPs07
set_option linter.unusedVariables false
set_option linter.unusedSimpArgs false
namespace Go.Proofs.Ytgjphmlmndcaeaa
open Go.RowKit
/-- node i of a level, in its slot -/
def slotN (lv : List Nd) (first : Int) (i : Nat) : Slt := (2, ⟨(lv.getD i Nd.zero).lev, (lv.getD i Nd.zero).high, if i + 1 < lv.length then first + (i : Int) + 1 else (lv.getD i Nd.zero).right, (lv.getD i Nd.zero).keys, (lv.getD i Nd.zero).vals, (lv.getD i Nd.zero).kids⟩)
theorem node6_at {w : World} {D : Nat → Prop} {us : List Value} {low : List Nd} {b o n i : Nat} (hr : Rd w D 6 (some ⟨b, o, none⟩) n us) (ht : Nds w D us low) (hm : n ≤ low.length) (hi : i < n) :
    ∃ hA hn hc kA kn kc vA vn vc dA dn dc, w.cell? ⟨b, o + i * 6, none⟩ = some (.int .i64 (low.getD i Nd.zero).lev) ∧ w.cell? ⟨b, o + i * 6 + 1, none⟩ = some (.slice hA hn hc) ∧ w.cell? ⟨b, o + i * 6 + 2, none⟩ = some (.int .i64 (low.getD i Nd.zero).right) ∧ w.cell? ⟨b, o + i * 6 + 3, none⟩ = some (.slice kA kn kc) ∧ w.cell? ⟨b, o + i * 6 + 4, none⟩ = some (.slice vA vn vc) ∧ w.cell? ⟨b, o + i * 6 + 5, none⟩ = some (.slice dA dn dc) ∧
      Bt w D hA hn hc (low.getD i Nd.zero).high ∧ Tx w D kA kn kc (low.getD i Nd.zero).keys ∧ Tx w D vA vn vc (low.getD i Nd.zero).vals ∧ It w D dA dn dc (low.getD i Nd.zero).kids := by
  have hl : i < low.length := by omega
  obtain ⟨b', o', hA', hD, hcell⟩ := hr.2 (by omega)
  injection hA' with hA'
  injection hA' with e1 e2
  subst e1; subst e2
  obtain ⟨hA, hn, hc, kA, kn, kc, vA, vn, vc, dA, dn, dc, e, q1, q2, q3, q4⟩ := ht i low[i] (List.getElem?_eq_getElem hl)
  have hg : low.getD i Nd.zero = low[i] := by rw [List.getD_eq_getElem?_getD, List.getElem?_eq_getElem hl]; rfl
  rw [hg]
  have hx : ∀ (j : Nat) (u : Value), j < 6 → (nb us i)[j]? = some u → w.cell? ⟨b, o + i * 6 + j, none⟩ = some u := fun j u hj hu => by rw [Nat.add_assoc]; exact hcell _ u (nb_at hj hu)
  rw [e] at hx
  exact ⟨hA, hn, hc, kA, kn, kc, vA, vn, vc, dA, dn, dc, hx 0 _ (by omega) rfl, hx 1 _ (by omega) rfl, hx 2 _ (by omega) rfl, hx 3 _ (by omega) rfl, hx 4 _ (by omega) rfl, hx 5 _ (by omega) rfl, q1, q2, q3, q4⟩
theorem getD_mem {α : Type} {l : List α} {i : Nat} {d : α} (h : i < l.length) : l.getD i d ∈ l := by rw [List.getD_eq_getElem?_getD, List.getElem?_eq_getElem h]; exact List.getElem_mem h
noncomputable def rbInC : Code := codeOr (Try.f21.body.bind (blockIn 2))
set_option maxRecDepth 100000 in
set_option maxHeartbeats 4000000 in
theorem rb_in (base p b o n c : Nat) (nodes first : Int) (sl : List Slt) (out : Value) (us us' : List Value) (DL : Nat → Prop) (lv : List Nd) (w : World) {u0 u1 u2 u3 u4 u5 u6 u7 u8 u10 u14 u15 u16 u17 u18 u19 u20 u21 u22 u23 u24 u25 u26 u27 u28 u29 u30 u31 u32 u33 u34 u35 u36 u37 u38 u39 u40 u41 u42 u43 u44 u45 u46 u47 u48 u49 u50 u51 u52 u53 u54 u55 u56 u57 u58 u59 u60 u61 u62 u63 u64 u65 u66 u67 u68 u69 u70 u71 u72 u73 u74 u75 u76 u77 u78 u79 u80 u81 u82 u83 u84 u85 u86 u87 u88 u89 u90 u91 u92 u93 u94 u95 u96 u97 u98 u99 u100 u101 u102 u103 u104 : Value} (Q : Exit → Act → World → Prop) (HQP : Hid (∀ c t (a : Act) w, Q (.panic c) ⟨t, a.defers⟩ w → Q (.panic c) a w))
    (HAB : Hid (ArB w base p nodes sl out us)) (hsl : sl.length + n ≤ 65536) (hbase : base ≤ w.heap.size) (HR : Hid (Rd w DL 6 (some ⟨b, o, none⟩) n us')) (HT : Hid (Nds w DL us' lv)) (HL : Hid (lv.length = n)) (HD : Hid (∀ y, DL y → y ≠ p ∧ out.ownBlock ≠ some y ∧ y < w.heap.size)) (hf : 0 ≤ first ∧ first ≤ 1152921504606) (HS : Hid (∀ nd ∈ lv, Small nd))
    (hexit : ∀ (v14 v60 v61 v62 v63 v64 v65 v66 v67 v68 v69 v70 v71 v72 v73 v74 v75 v76 v77 v78 v79 v80 v81 v82 v83 v84 v85 v86 v87 v88 v89 v90 v91 v92 : Value) (out' : Value) (us'' : List Value) (w' : World), ArB w' base p nodes (sl ++ (List.range n).map (slotN lv first)) out' us'' → Chg (fun b => b = p ∨ out.ownBlock = some b) w w' → (out'.ownBlock = out.ownBlock ∨ ∃ y, w.heap.size ≤ y ∧ out'.ownBlock = some y) → Q (.exit 2) ⟨(u0 :: u1 :: u2 :: u3 :: u4 :: u5 :: u6 :: u7 :: u8 :: .pointer (some ⟨p, 0, none⟩) :: u10 :: .slice (some ⟨b, o, none⟩) n c :: .int .i64 first :: .int .i64 n :: v14 :: u15 :: u16 :: u17 :: u18 :: u19 :: u20 :: u21 :: u22 :: u23 :: u24 :: u25 :: u26 :: u27 :: u28 :: u29 :: u30 :: u31 :: u32 :: u33 :: u34 :: u35 :: u36 :: u37 :: u38 :: u39 :: u40 :: u41 :: u42 :: u43 :: u44 :: u45 :: u46 :: u47 :: u48 :: u49 :: u50 :: u51 :: u52 :: u53 :: u54 :: u55 :: u56 :: u57 :: u58 :: u59 :: v60 :: v61 :: v62 :: v63 :: v64 :: v65 :: v66 :: v67 :: v68 :: v69 :: v70 :: v71 :: v72 :: v73 :: v74 :: v75 :: v76 :: v77 :: v78 :: v79 :: v80 :: v81 :: v82 :: v83 :: v84 :: v85 :: v86 :: v87 :: v88 :: v89 :: v90 :: v91 :: v92 :: u93 :: u94 :: u95 :: u96 :: u97 :: u98 :: u99 :: u100 :: u101 :: u102 :: u103 :: u104 :: []).toArray, []⟩ w') :
    Code.wp Try.prog rbInC Q ⟨(u0 :: u1 :: u2 :: u3 :: u4 :: u5 :: u6 :: u7 :: u8 :: .pointer (some ⟨p, 0, none⟩) :: u10 :: .slice (some ⟨b, o, none⟩) n c :: .int .i64 first :: .int .i64 0 :: u14 :: u15 :: u16 :: u17 :: u18 :: u19 :: u20 :: u21 :: u22 :: u23 :: u24 :: u25 :: u26 :: u27 :: u28 :: u29 :: u30 :: u31 :: u32 :: u33 :: u34 :: u35 :: u36 :: u37 :: u38 :: u39 :: u40 :: u41 :: u42 :: u43 :: u44 :: u45 :: u46 :: u47 :: u48 :: u49 :: u50 :: u51 :: u52 :: u53 :: u54 :: u55 :: u56 :: u57 :: u58 :: u59 :: u60 :: u61 :: u62 :: u63 :: u64 :: u65 :: u66 :: u67 :: u68 :: u69 :: u70 :: u71 :: u72 :: u73 :: u74 :: u75 :: u76 :: u77 :: u78 :: u79 :: u80 :: u81 :: u82 :: u83 :: u84 :: u85 :: u86 :: u87 :: u88 :: u89 :: u90 :: u91 :: u92 :: u93 :: u94 :: u95 :: u96 :: u97 :: u98 :: u99 :: u100 :: u101 :: u102 :: u103 :: u104 :: []).toArray, []⟩ w := by
  have HEX := Lib.hid hexit
  clear hexit
  conv => arg 2; whnf
  go_loopg [13] n (fun g' iv wr => ∃ (i : Nat) (out' : Value) (us'' : List Value), g' = n - i ∧ i ≤ n ∧ iv = .int .i64 i ∧ ArB wr base p nodes (sl ++ (List.range i).map (slotN lv first)) out' us'' ∧ Chg (fun b => b = p ∨ out.ownBlock = some b) w wr ∧ (out'.ownBlock = out.ownBlock ∨ ∃ y, w.heap.size ≤ y ∧ out'.ownBlock = some y))
  case atStart => exact ⟨0, out, us, by omega, by omega, rfl, by simpa using HAB.out, Chg.refl _ _, .inl rfl⟩
  case round =>
    obtain ⟨i, out', us'', hg, hin, rfl, hab, hch, hat⟩ := hrel
    have HG := Lib.hid hg
    have HAB' := Lib.hid hab
    have HCH := Lib.hid hch
    have HAT := Lib.hid hat
    rename World => wr
    clear hg hab hch hat
    have hws : w.heap.size ≤ wr.heap.size := HCH.out.size
    have hbr : base ≤ wr.heap.size := Nat.le_trans hbase hws
    have hdis : ∀ y, DL y → ¬ (y = p ∨ out.ownBlock = some y) := fun y hy h => h.elim (HD.out y hy).1 (HD.out y hy).2.1
    have HR' := Lib.hid (HR.out.chg HCH.out hdis)
    have HT' := Lib.hid (HT.out.next HCH.out (fun y _ hy => hdis y hy) (fun _ _ h => h))
    by_cases hlt : i < n
    · obtain ⟨hA, hn, hc, kA, kn, kc, vA, vn, vc, dA, dn, dc, z0, z1, z2, z3, z4, z5, p1, p2, p3, p4⟩ := node6_at HR'.out HT'.out (by have := HL.out; omega) hlt
      have hlt' : (i : Int) < (n : Int) := by omega
      have w1 := IntWalk.i64_in ((n : Int) - 1) (by omega)
      have w2 := IntWalk.i64_in (first + (i : Int)) (by omega)
      have w3 := IntWalk.i64_in (first + (i : Int) + 1) (by omega)
      have w4 := IntWalk.i64_in ((i : Int) + 1) (by omega)
      have hsm : Small (lv.getD i Nd.zero) := HS.out _ (getD_mem (by have := HL.out; omega))
      have HP1' := Lib.hid p1
      have HP2' := Lib.hid p2
      have HP3' := Lib.hid p3
      have HP4' := Lib.hid p4
      have HSM := Lib.hid hsm
      clear p1 p2 p3 p4 hsm hdis
      obtain ⟨nd, hnd⟩ : ∃ nd, nd = lv.getD i Nd.zero := ⟨_, rfl⟩
      rw [← hnd] at HP1' HP2' HP3' HP4' HSM z0 z2
      have HND := Lib.hid hnd
      clear hnd
      by_cases hmore : i + 1 < n
      · have hm1 : (i : Int) < (n : Int) - 1 := by omega
        go_upto_region 22 with (first | (go_at_call 44; refine (rnclone_any nd DL hA kA vA dA hn hc kn kc vn vc dn dc wr HP1'.out HP2'.out HP3'.out HP4'.out HSM.out).mono ?_; rintro e w5 ⟨hA2, hn2, hc2, kA2, kn2, kc2, vA2, vn2, vc2, dA2, dn2, dc2, rfl, p1, p2, p3, p4, hb5⟩; have HQ1 := Lib.hid p1; have HQ2 := Lib.hid p2; have HQ3 := Lib.hid p3; have HQ4 := Lib.hid p4; have HB5 := Lib.hid hb5; clear p1 p2 p3 p4 hb5))
        skip
        have HBX : Hid (Below wr.heap.size wr (w5.alloc (.cells #[.int .i64 nd.lev, .slice hA2 hn2 hc2, .int .i64 (first + (i : Int) + 1), .slice kA2 kn2 kc2, .slice vA2 vn2 vc2, .slice dA2 dn2 dc2] 93))) := Lib.hid (HB5.out.alloc HB5.out.size _)
        have hb56 : Below w5.heap.size w5 (w5.alloc (.cells #[.int .i64 nd.lev, .slice hA2 hn2 hc2, .int .i64 (first + (i : Int) + 1), .slice kA2 kn2 kc2, .slice vA2 vn2 vc2, .slice dA2 dn2 dc2] 93)) := (Below.refl _ _).alloc (Nat.le_refl _) _
        have HBK := Lib.hid (Blk.new w5 93 #[.int .i64 nd.lev, .slice hA2 hn2 hc2, .int .i64 (first + (i : Int) + 1), .slice kA2 kn2 kc2, .slice vA2 vn2 vc2, .slice dA2 dn2 dc2])
        have HP1 := Lib.hid (HQ1.out.lt.below hb56)
        have HP2 := Lib.hid (HQ2.out.lt.below hb56)
        have HP3 := Lib.hid (HQ3.out.lt.below hb56)
        have HP4 := Lib.hid (HQ4.out.lt.below hb56)
        clear hb56
        have hxg : ∀ y, wr.heap.size ≤ y → (base ≤ y ∧ y ≠ p ∧ out'.ownBlock ≠ some y) := fun y hy => ⟨by omega, by have := HAB'.out.blk.lt; omega, fun e => by have := (own_lt HAB'.out.own y e).2; omega⟩
        refine rb_put base p w5.heap.size nodes (sl ++ (List.range i).map (slotN lv first)) out' us'' ⟨nd.lev, nd.high, (first + (i : Int) + 1), nd.keys, nd.vals, nd.kids⟩ hA2 kA2 vA2 dA2 hn2 hc2 kn2 kc2 vn2 vc2 dn2 dc2 _ _ (by exact Lib.hid (fun c t a w h => HQP.out c t a w h)) (Lib.hid (HAB'.out.below HBX.out)) (by simp; omega) (Nat.le_trans hbr HBX.out.size) HBK.out (HP1.out.weak (fun y hy => hxg y hy.1)) (HP2.out.weak (fun y hy => hxg y hy.1)) (HP3.out.weak (fun y hy => hxg y hy.1)) (HP4.out.weak (fun y hy => hxg y hy.1)) ?_
        intro v82 v83 v84 v85 v86 v87 v88 v89 v90 v91 v92 out2 us2 w' hab2 hch2 hat2
        have HAB2 := Lib.hid hab2
        have HCH2 : Hid (Chg (fun b => b = p ∨ out.ownBlock = some b) w w') := Lib.hid ((HCH.out.then HBX.out).trans hch2 (fun y hy h => h.elim .inl (fun h => HAT.out.elim (fun e => .inr (e ▸ h)) (fun ⟨z, hz, e⟩ => by rw [e] at h; injection h with h; omega))))
        have HAT2 : Hid (out2.ownBlock = out.ownBlock ∨ ∃ y, w.heap.size ≤ y ∧ out2.ownBlock = some y) := Lib.hid (hat2.elim (fun e => HAT.out.imp (fun e' => e.trans e') (fun ⟨z, hz, e'⟩ => ⟨z, hz, e.trans e'⟩)) (fun ⟨y, hy, e⟩ => .inr ⟨y, by have := HCH.out.size; have := HBX.out.size; omega, e⟩))
        clear hab2 hch2 hat2
        go_wp2
        go_roundg (n - (i + 1))
        case measure => have := HG.out; omega
        case rel => exact ⟨i + 1, out2, us2, rfl, by omega, by go_num, by have h := HAB2.out; rw [List.range_succ, List.map_append, ← List.append_assoc]; rw [List.map_cons, List.map_nil, show slotN lv first i = (2, ⟨nd.lev, nd.high, (first + (i : Int) + 1), nd.keys, nd.vals, nd.kids⟩) by unfold slotN; rw [← HND.out, HL.out, if_pos hmore]]; exact h, HCH2.out, HAT2.out⟩
      · have hm1 : ¬ (i : Int) < (n : Int) - 1 := by omega
        go_upto_region 22 with (first | (go_at_call 44; refine (rnclone_any nd DL hA kA vA dA hn hc kn kc vn vc dn dc wr HP1'.out HP2'.out HP3'.out HP4'.out HSM.out).mono ?_; rintro e w5 ⟨hA2, hn2, hc2, kA2, kn2, kc2, vA2, vn2, vc2, dA2, dn2, dc2, rfl, p1, p2, p3, p4, hb5⟩; have HQ1 := Lib.hid p1; have HQ2 := Lib.hid p2; have HQ3 := Lib.hid p3; have HQ4 := Lib.hid p4; have HB5 := Lib.hid hb5; clear p1 p2 p3 p4 hb5))
        skip
        have HBX : Hid (Below wr.heap.size wr (w5.alloc (.cells #[.int .i64 nd.lev, .slice hA2 hn2 hc2, .int .i64 nd.right, .slice kA2 kn2 kc2, .slice vA2 vn2 vc2, .slice dA2 dn2 dc2] 93))) := Lib.hid (HB5.out.alloc HB5.out.size _)
        have hb56 : Below w5.heap.size w5 (w5.alloc (.cells #[.int .i64 nd.lev, .slice hA2 hn2 hc2, .int .i64 nd.right, .slice kA2 kn2 kc2, .slice vA2 vn2 vc2, .slice dA2 dn2 dc2] 93)) := (Below.refl _ _).alloc (Nat.le_refl _) _
        have HBK := Lib.hid (Blk.new w5 93 #[.int .i64 nd.lev, .slice hA2 hn2 hc2, .int .i64 nd.right, .slice kA2 kn2 kc2, .slice vA2 vn2 vc2, .slice dA2 dn2 dc2])
        have HP1 := Lib.hid (HQ1.out.lt.below hb56)
        have HP2 := Lib.hid (HQ2.out.lt.below hb56)
        have HP3 := Lib.hid (HQ3.out.lt.below hb56)
        have HP4 := Lib.hid (HQ4.out.lt.below hb56)
        clear hb56
        have hxg : ∀ y, wr.heap.size ≤ y → (base ≤ y ∧ y ≠ p ∧ out'.ownBlock ≠ some y) := fun y hy => ⟨by omega, by have := HAB'.out.blk.lt; omega, fun e => by have := (own_lt HAB'.out.own y e).2; omega⟩
        refine rb_put base p w5.heap.size nodes (sl ++ (List.range i).map (slotN lv first)) out' us'' ⟨nd.lev, nd.high, nd.right, nd.keys, nd.vals, nd.kids⟩ hA2 kA2 vA2 dA2 hn2 hc2 kn2 kc2 vn2 vc2 dn2 dc2 _ _ (by exact Lib.hid (fun c t a w h => HQP.out c t a w h)) (Lib.hid (HAB'.out.below HBX.out)) (by simp; omega) (Nat.le_trans hbr HBX.out.size) HBK.out (HP1.out.weak (fun y hy => hxg y hy.1)) (HP2.out.weak (fun y hy => hxg y hy.1)) (HP3.out.weak (fun y hy => hxg y hy.1)) (HP4.out.weak (fun y hy => hxg y hy.1)) ?_
        intro v82 v83 v84 v85 v86 v87 v88 v89 v90 v91 v92 out2 us2 w' hab2 hch2 hat2
        have HAB2 := Lib.hid hab2
        have HCH2 : Hid (Chg (fun b => b = p ∨ out.ownBlock = some b) w w') := Lib.hid ((HCH.out.then HBX.out).trans hch2 (fun y hy h => h.elim .inl (fun h => HAT.out.elim (fun e => .inr (e ▸ h)) (fun ⟨z, hz, e⟩ => by rw [e] at h; injection h with h; omega))))
        have HAT2 : Hid (out2.ownBlock = out.ownBlock ∨ ∃ y, w.heap.size ≤ y ∧ out2.ownBlock = some y) := Lib.hid (hat2.elim (fun e => HAT.out.imp (fun e' => e.trans e') (fun ⟨z, hz, e'⟩ => ⟨z, hz, e.trans e'⟩)) (fun ⟨y, hy, e⟩ => .inr ⟨y, by have := HCH.out.size; have := HBX.out.size; omega, e⟩))
        clear hab2 hch2 hat2
        go_wp2
        go_roundg (n - (i + 1))
        case measure => have := HG.out; omega
        case rel => exact ⟨i + 1, out2, us2, rfl, by omega, by go_num, by have h := HAB2.out; rw [List.range_succ, List.map_append, ← List.append_assoc]; rw [List.map_cons, List.map_nil, show slotN lv first i = (2, ⟨nd.lev, nd.high, nd.right, nd.keys, nd.vals, nd.kids⟩) by unfold slotN; rw [← HND.out, HL.out, if_neg hmore]]; exact h, HCH2.out, HAT2.out⟩
    · obtain rfl : i = n := by omega
      go_wp2
      exact HEX.out _ _ _ _ _ _ _ _ _ _ _ _ _ _ _ _ _ _ _ _ _ _ _ _ _ _ _ _ _ _ _ _ _ _ _ _ _ HAB'.out HCH.out HAT.out
end Go.Proofs.Ytgjphmlmndcaeaa

namespace Go.Proofs.Ytgjphmlmndcaeaa
open Go.RowKit

/-- the levels from one on: so many at most -/
def rups (inn : Nat) : Nat → Int → List Slt → List Nd → List Slt × Int
  | 0, _, sl, _ => (sl, 0)
  | f + 1, lev, sl, lv => if lv.length = 1 then (sl ++ (List.range lv.length).map (slotN lv ((sl.length : Int) + 1)), (sl.length : Int) + 1) else
      rups inn f (lev + 1) (sl ++ (List.range lv.length).map (slotN lv ((sl.length : Int) + 1))) ((List.range (pn lv.length inn)).map (aboveN inn (lev + 1) lv ((sl.length : Int) + 1)))
def rtreeOf (fill inn : Nat) (l : List Ent) : List Slt × Int := if l = [] then ([(0, Nd.zero)], 1) else rups inn 32 0 [] (leavesN fill l)

/-- the kids of the nodes of a level whose first node lies in a slot -/
def kidsOf (lv : List Nd) (d0 : Nat) : List Kd := (List.range lv.length).map fun (i : Nat) => ((d0 : Int) + (i : Int) + 1, (lv.getD i Nd.zero).high)
theorem kidsOf_len (lv : List Nd) (d0 : Nat) : (kidsOf lv d0).length = lv.length := by simp [kidsOf]
theorem kidsOf_at {lv : List Nd} {d0 i : Nat} (h : i < lv.length) : (kidsOf lv d0)[i]? = some ((d0 : Int) + (i : Int) + 1, (lv.getD i Nd.zero).high) := by
  unfold kidsOf; rw [List.getElem?_map, List.getElem?_range h]; rfl

theorem getD_of_get {α : Type} {l : List α} {i : Nat} {d x : α} (h : l[i]? = some x) : l.getD i d = x := by rw [List.getD_eq_getElem?_getD, h]; rfl

/-- a part of the kids, and of the nodes -/
theorem kpart_at {lv : List Nd} {d0 inn i j : Nat} (hj : j < (npart inn lv i).length) : (kpart inn (kidsOf lv d0) i)[j]? = some ((d0 : Int) + ((i * inn + j : Nat) : Int) + 1, ((npart inn lv i).getD j Nd.zero).high) := by
  have hl : (npart inn lv i).length = min inn (lv.length - i * inn) := by unfold npart; rw [List.length_take, List.length_drop]
  have h1 : j < inn := by omega
  have h2 : i * inn + j < lv.length := by omega
  unfold kpart
  rw [List.getElem?_take, if_pos h1, List.getElem?_drop, kidsOf_at h2]
  have : (npart inn lv i)[j]? = lv[i * inn + j]? := by unfold npart; rw [List.getElem?_take, if_pos h1, List.getElem?_drop]
  rw [List.getD_eq_getElem?_getD, List.getD_eq_getElem?_getD, this]
theorem kpart_len {lv : List Nd} {d0 inn i : Nat} : (kpart inn (kidsOf lv d0) i).length = (npart inn lv i).length := by
  unfold kpart npart; rw [List.length_take, List.length_take, List.length_drop, List.length_drop, kidsOf_len]

theorem last_at {α : Type} {l : List α} (h : l ≠ []) (d : α) : l.getLastD d = l.getD (l.length - 1) d := by
  rw [List.getLastD_eq_getLast?, List.getLast?_eq_getElem?, List.getD_eq_getElem?_getD]

/-- a node of the level above: the program's is the document's -/
theorem above_same {inn : Nat} {lev : Int} {lv : List Nd} {d0 d1 i : Nat} (hne : npart inn lv i ≠ []) (M : Nat) (hi : i < M) :
    aboveS inn lev (kidsOf lv d0) d1 M i = slotN ((List.range M).map (aboveN inn lev lv ((d0 : Int) + 1))) ((d1 : Int) + 1) i := by
  have hg : ((List.range M).map (aboveN inn lev lv ((d0 : Int) + 1))).getD i Nd.zero = aboveN inn lev lv ((d0 : Int) + 1) i := getD_of_get (by rw [List.getElem?_map, List.getElem?_range hi]; rfl)
  have hl : 0 < (npart inn lv i).length := List.length_pos_iff.2 hne
  have hkl := kpart_len (lv := lv) (d0 := d0) (inn := inn) (i := i)
  have hkne : kpart inn (kidsOf lv d0) i ≠ [] := by intro e; rw [e] at hkl; simp at hkl; omega
  have hhi : hiA inn (kidsOf lv d0) i = ((npart inn lv i).getLastD Nd.zero).high := by
    unfold hiA
    rw [last_at hkne, last_at hne, hkl]
    rw [getD_of_get (kpart_at (d0 := d0) (show (npart inn lv i).length - 1 < (npart inn lv i).length by omega))]
  have hkeys : (kpart inn (kidsOf lv d0) i).dropLast.map Prod.snd = (npart inn lv i).dropLast.map Nd.high := by
    apply List.ext_getElem?
    intro j
    rw [List.getElem?_map, List.getElem?_map, List.getElem?_dropLast, List.getElem?_dropLast, hkl]
    by_cases hj : j < (npart inn lv i).length - 1
    · rw [if_pos hj, if_pos hj, kpart_at (show j < (npart inn lv i).length by omega), List.getElem?_eq_getElem (show j < (npart inn lv i).length by omega)]
      simp [List.getD_eq_getElem?_getD, List.getElem?_eq_getElem (show j < (npart inn lv i).length by omega)]
    · rw [if_neg hj, if_neg hj]; rfl
  have hkids : (kpart inn (kidsOf lv d0) i).map Prod.fst = (List.range (npart inn lv i).length).map fun j => (d0 : Int) + 1 + ((i * inn + j : Nat) : Int) := by
    apply List.ext_getElem?
    intro j
    rw [List.getElem?_map, List.getElem?_map]
    by_cases hj : j < (npart inn lv i).length
    · rw [kpart_at hj, List.getElem?_range hj]
      simp only [Option.map_some]
      congr 1
      omega
    · rw [List.getElem?_eq_none (by omega), List.getElem?_eq_none (by simpa using hj)]; rfl
  unfold aboveS slotN
  rw [hg, hhi, hkeys, hkids]
  simp only [aboveN, List.length_map, List.length_range]
  congr 2
  split
  · omega
  · rfl

theorem npart_ne {inn : Nat} {lv : List Nd} {i : Nat} (h1 : 1 ≤ inn) (hi : i < pn lv.length inn) (hl : 1 ≤ lv.length) : npart inn lv i ≠ [] := by
  have hb := pn_bounds lv.length inn h1 hl
  have h2 : i * inn < lv.length := by
    have : (i + 1) * inn ≤ pn lv.length inn * inn := Nat.mul_le_mul_right _ hi
    rw [Nat.add_mul] at this
    omega
  intro e
  have : (npart inn lv i).length = min inn (lv.length - i * inn) := by unfold npart; rw [List.length_take, List.length_drop]
  rw [e] at this
  simp at this
  omega


/-- the levels: the program's are the document's, while the document's come to an end -/
theorem ups_rups {nd : Int} {inn : Nat} (h1 : 1 ≤ inn) : ∀ (f g : Nat) (lev : Int) (sl : List Slt) (lv : List Nd), 1 ≤ lv.length → f ≤ g + 1 → (Go.Proofs.Ytgjphmlmndcaeaa.lv nd inn f (lv.length : Int) (sl.length : Int)).2 = 0 →
    (ups inn g (lev + 1) (sl ++ (List.range lv.length).map (slotN lv ((sl.length : Int) + 1))) (kidsOf lv sl.length)).1 = (rups inn f lev sl lv).1 ∧
    ((ups inn g (lev + 1) (sl ++ (List.range lv.length).map (slotN lv ((sl.length : Int) + 1))) (kidsOf lv sl.length)).2.headD (0, [])).1 = (rups inn f lev sl lv).2 := by
  intro f
  induction f with
  | zero => intro g lev sl lv _ _ h; simp [Go.Proofs.Ytgjphmlmndcaeaa.lv] at h
  | succ f ih =>
    intro g lev sl lv hl hfg h
    by_cases hone : lv.length = 1
    · rw [rups, if_pos hone, ups_one (by rw [kidsOf_len]; omega)]
      refine ⟨rfl, ?_⟩
      have h0 := kidsOf_at (lv := lv) (d0 := sl.length) (i := 0) (by omega)
      obtain ⟨x, hx⟩ : ∃ x, kidsOf lv sl.length = [x] := List.length_eq_one_iff.1 (by rw [kidsOf_len]; exact hone)
      rw [hx] at h0 ⊢
      simp at h0
      simp [h0]
    · have hf : ¬ nd - (sl.length : Int) < (lv.length : Int) := by
        intro hx
        rw [lv_full hx] at h
        simp at h
      rw [lv_step hf (by omega), ← pn_cast lv.length inn h1] at h
      have hg : ∃ g', g = g' + 1 := by
        cases g with
        | zero =>
          have : f = 0 := by omega
          subst this
          simp [Go.Proofs.Ytgjphmlmndcaeaa.lv] at h
        | succ g' => exact ⟨g', rfl⟩
      obtain ⟨g', rfl⟩ := hg
      obtain ⟨M, hM⟩ : ∃ M, M = pn lv.length inn := ⟨_, rfl⟩
      obtain ⟨done, hdone⟩ : ∃ d, d = sl ++ (List.range lv.length).map (slotN lv ((sl.length : Int) + 1)) := ⟨_, rfl⟩
      obtain ⟨lv', hlv'⟩ : ∃ x, x = (List.range M).map (aboveN inn (lev + 1) lv ((sl.length : Int) + 1)) := ⟨_, rfl⟩
      have hdl : done.length = sl.length + lv.length := by rw [hdone]; simp
      have hll : lv'.length = M := by rw [hlv']; simp
      have hMp : 1 ≤ M := by rw [hM]; exact pn_pos _ _ h1
      have hne : ∀ i, i < M → npart inn lv i ≠ [] := fun i hi => npart_ne h1 (by rw [← hM]; exact hi) hl
      have hsame : ∀ i, i < M → aboveS inn (lev + 1) (kidsOf lv sl.length) done.length M i = slotN lv' ((done.length : Int) + 1) i := fun i hi => by rw [hlv']; exact above_same (hne i hi) M hi
      rw [rups, if_neg hone, ← hdone, ← hM, ← hlv', ups, if_pos (by rw [kidsOf_len]; omega), kidsOf_len, ← hM]
      have e1 : (List.range M).map (aboveS inn (lev + 1) (kidsOf lv sl.length) done.length M) = (List.range lv'.length).map (slotN lv' ((done.length : Int) + 1)) := by
        rw [hll]
        exact List.map_congr_left (fun i hi => hsame i (by simpa using hi))
      have e2 : lvK done.length M (hiA inn (kidsOf lv sl.length)) = kidsOf lv' done.length := by
        unfold lvK kidsOf
        rw [hll]
        refine List.map_congr_left (fun i hi => ?_)
        have hi' : i < M := by simpa using hi
        have := congrArg (fun s : Slt => s.2.high) (hsame i hi')
        have h2 : hiA inn (kidsOf lv sl.length) i = (lv'.getD i Nd.zero).high := this
        unfold kidsOf at h2
        rw [h2]
      rw [e1, e2]
      refine ih g' (lev + 1) done lv' (by omega) (by omega) ?_
      rw [hll, hdl, hM]
      have : ((sl.length + lv.length : Nat) : Int) = (sl.length : Int) + (lv.length : Int) := by omega
      rw [this]
      exact h

theorem leaves_same (fill : Nat) (l : List Ent) : leafD fill l = [] ++ (List.range (leavesN fill l).length).map (slotN (leavesN fill l) ((([] : List Slt).length : Int) + 1)) ∧ leafK fill l = kidsOf (leavesN fill l) ([] : List Slt).length := by
  have hll : (leavesN fill l).length = pn l.length fill := by simp [leavesN]
  have hg : ∀ i, i < pn l.length fill → (leavesN fill l).getD i Nd.zero = leafN fill l i := fun i hi => getD_of_get (by unfold leavesN; rw [List.getElem?_map, List.getElem?_range hi]; rfl)
  constructor
  · rw [List.nil_append, hll]
    unfold leafD
    refine List.map_congr_left (fun i hi => ?_)
    have hi' : i < pn l.length fill := by simpa using hi
    unfold leafS slotN
    rw [hg i hi', hll]
    simp only [leafN, List.length_nil]
    congr 2
    split
    · simp; omega
    · rfl
  · unfold leafK lvK kidsOf
    rw [hll]
    refine List.map_congr_left (fun i hi => ?_)
    have hi' : i < pn l.length fill := by simpa using hi
    rw [hg i hi']; rfl

/-- both trees are the same -/
theorem tree_same {nd : Int} {fill inn : Nat} {l : List Ent} (h1 : 1 ≤ inn) (hf : 1 ≤ fill) (h : (lv nd inn 32 (parts l.length fill) 0).2 = 0) : treeOf fill inn l = rtreeOf fill inn l := by
  by_cases hl : l = []
  · subst hl; rfl
  · rw [treeOf_cons hl, rtreeOf, if_neg hl, (leaves_same fill l).1, (leaves_same fill l).2]
    have hll : (leavesN fill l).length = pn l.length fill := by simp [leavesN]
    have := ups_rups (nd := nd) h1 32 32 0 [] (leavesN fill l) (by rw [hll]; exact pn_pos _ _ hf) (by omega) (by rw [hll, pn_cast _ _ hf]; exact h)
    exact Prod.ext this.1 this.2
end Go.Proofs.Ytgjphmlmndcaeaa

namespace Go.Proofs.Ytgjphmlmndcaeaa
open Go.RowKit

theorem rnodes_bad (nd lf inn fl bl n : Int) (w : World) (hc : ¬ cfgOk nd lf inn fl bl ∨ n < 0) :
    Calls Try.prog 9 #[.agg #[.int .i64 nd, .int .i64 lf, .int .i64 inn, .int .i64 fl, .int .i64 bl], .int .i64 n] w fun e w' => e = .returned (nodesV (0, 1)) ∧ Below w.heap.size w w' := by
  by_cases h : cfgOk nd lf inn fl bl
  · have hn : n < 0 := hc.resolve_left (by simpa using h)
    have he := cfgE_ok h
    go_enter Try.func9, Try.ntmps9
    go_wp2_with (go_at_call 11; refine (rconfig_any _ _ _ _ _ _).mono ?_; rintro e w' ⟨rfl, hb⟩)
    go_ret2
    exact ⟨rfl, ((Below.refl _ _).alloc (Nat.le_refl _) _).trans (hb.mono (by simp))⟩
  · have he := cfgE_bad h
    go_enter Try.func9, Try.ntmps9
    go_wp2_with (go_at_call 11; refine (rconfig_any _ _ _ _ _ _).mono ?_; rintro e w' ⟨rfl, hb⟩)
    go_ret2
    exact ⟨rfl, ((Below.refl _ _).alloc (Nat.le_refl _) _).trans (hb.mono (by simp))⟩

theorem rnodes_ok (nd lf inn fl bl n : Int) (w : World) (h : cfgOk nd lf inn fl bl) (hn : ¬ n < 0) (hn2 : n ≤ 9223372036854775807) :
    Calls Try.prog 9 #[.agg #[.int .i64 nd, .int .i64 lf, .int .i64 inn, .int .i64 fl, .int .i64 bl], .int .i64 n] w fun e w' => e = .returned (nodesV (nodesOf nd lf inn fl bl n)) ∧ Below w.heap.size w w' := by
  have he := cfgE_ok h
  have HN := Lib.hid (nodesOf_ok h hn)
  have hc : 1 ≤ nd ∧ nd ≤ 65536 ∧ 2 ≤ lf ∧ lf ≤ 64 ∧ 3 ≤ inn ∧ inn ≤ 64 ∧ 1 ≤ fl ∧ fl ≤ lf ∧ 1 ≤ bl ∧ bl ≤ 64 := h
  obtain ⟨c1, c2, c3, c4, c5, c6, c7, c8, c9, c10⟩ := hc
  have p1 := parts_pos (n := n) (most := fl) (by omega) (by omega)
  have p2 := parts_self (n := n) (most := fl) (by omega) (by omega)
  go_enter Try.func9, Try.ntmps9
  go_wp2_with (go_at_call 11; refine (rconfig_any _ _ _ _ _ _).mono ?_; rintro e w' ⟨rfl, hb⟩; have b1 : Below w.heap.size w w' := ((Below.refl _ _).alloc (Nat.le_refl _) _).trans (hb.mono (by simp)); have k0 : w'.cell? ⟨w.heap.size, 0, none⟩ = some (.int .i64 nd) := nbcell hb (by simp) (by simp); have k2 : w'.cell? ⟨w.heap.size, 2, none⟩ = some (.int .i64 inn) := nbcell hb (by simp) (by simp); have k3 : w'.cell? ⟨w.heap.size, 3, none⟩ = some (.int .i64 fl) := nbcell hb (by simp) (by simp); clear hb)
  go_wp2_with (go_at_call 31; refine (parts_any _ _ (by omega) (by omega) (by omega) (by omega) _).mono ?_; rintro e w' ⟨rfl, rfl⟩)
  go_loopg [7, 8] 32 (fun g m all wr => ∃ (a q : Int) (k : Nat), g = k + 1 ∧ all = .int .i64 a ∧ m = .int .i64 q ∧ 0 ≤ a ∧ a ≤ nd ∧ 1 ≤ q ∧ q ≤ 9223372036854775807 ∧ Enough q k ∧
      Hid (nodesOf nd lf inn fl bl n = lv nd inn (k + 1) q a) ∧ wr = w')
  case atStart => exact ⟨0, parts n fl, 31, rfl, rfl, rfl, by omega, by omega, by omega, by omega, enough_start _, HN, rfl⟩
  case round =>
    obtain ⟨a, q, k, hg, rfl, rfl, ha, ha2, hq, hq2, HE, HR, rfl⟩ := hrel
    have HG := Lib.hid hg
    clear hg HN
    by_cases hf : nd - a < q
    · have HF := Lib.hid (HR.out.trans (lv_full hf))
      go_wp2
      go_ret2
      exact ⟨by rw [HF.out]; rfl, b1⟩
    · by_cases h1 : q = 1
      · have HF := Lib.hid (HR.out.trans (lv_one hf h1))
        subst h1
        go_wp2
        go_ret2
        exact ⟨by rw [HF.out]; rfl, b1⟩
      · obtain ⟨j, hj, HE2⟩ := enough_step c5 ha c2 hq h1 hf HE
        have HF := Lib.hid (HR.out.trans (lv_step hf h1))
        have HJ := Lib.hid hj
        clear hj
        have hb1 : (q == 1) = false := by simpa using h1
        have p3 := parts_pos (n := q) (most := inn) (by omega) (by omega)
        have p4 := parts_self (n := q) (most := inn) (by omega) (by omega)
        go_wp2_with (go_at_call 31; refine (parts_any _ _ (by omega) (by omega) (by omega) (by omega) _).mono ?_; rintro e w' ⟨rfl, rfl⟩)
        go_roundg k
        case measure => have := HG.out; omega
        case rel => exact ⟨a + q, parts q inn, j, HJ.out, rfl, rfl, by omega, by omega, by omega, by omega, HE2, by have := HF.out; rw [HJ.out] at this; exact this, rfl⟩
end Go.Proofs.Ytgjphmlmndcaeaa

namespace Go.Proofs.Ytgjphmlmndcaeaa
open Go.RowKit
open Go.Lib (compareBytes)

theorem check_any (A B : Option Addr) (n m c d : Nat) (x : Ent) (hn : n = x.1.length) (hm : m = x.2.length) (w : World) :
    Calls Try.prog 35 #[.agg #[.slice A n c, .slice B m d]] w fun e w' => e = .returned (.int .i64 (entE x)) ∧ Below w.heap.size w w' := by
  have HN := Lib.hid hn
  have HM := Lib.hid hm
  have HE := Lib.hid (entE_max x)
  clear hn hm
  go_enter Try.func35, Try.ntmps35
  go_wp2
  go_quiet (first | (go_at_call 64; exact quiet_left (key_any _ _ _ x.1 HN.out _)) | (go_at_call 65; exact quiet_left (value_any _ _ _ x.2 HM.out _)))
  go_wp2
  go_ret
  refine ⟨ret_int (by rw [HE.out]), below_drewN ((Below.refl _ _).alloc (Nat.le_refl _) _) _⟩

theorem rcheck_any (A B : Option Addr) (n m c d : Nat) (x : Ent) (hn : n = x.1.length) (hm : m = x.2.length) (w : World) :
    Calls Try.prog 39 #[.agg #[.slice A n c, .slice B m d]] w fun e w' => e = .returned (.int .i64 (entE x)) ∧ Below w.heap.size w w' := by
  have HN := Lib.hid hn
  have HM := Lib.hid hm
  clear hn hm
  rcases keyE_cases x.1 with hk | hk
  · have HE := Lib.hid (entE_val hk)
    have HK := Lib.hid hk
    clear hk
    go_enter Try.func39, Try.ntmps39
    go_wp2_with (first | (go_at_call 68; refine (rkey_any _ _ _ x.1 HN.out _).mono ?_; rintro e w' ⟨rfl, rfl⟩; rw [HK.out]) | (go_at_call 69; refine (rvalue_any _ _ _ x.2 HM.out _).mono ?_; rintro e w' ⟨rfl, rfl⟩))
    go_ret
    exact ⟨ret_int (by rw [HE.out]), (Below.refl _ _).alloc (Nat.le_refl _) _⟩
  · have HE := Lib.hid (entE_key (e := x) (by omega))
    have HK := Lib.hid hk
    clear hk
    go_enter Try.func39, Try.ntmps39
    go_wp2_with (first | (go_at_call 68; refine (rkey_any _ _ _ x.1 HN.out _).mono ?_; rintro e w' ⟨rfl, rfl⟩; rw [HK.out]))
    go_ret
    exact ⟨ret_int (by rw [HE.out, HK.out]), (Below.refl _ _).alloc (Nat.le_refl _) _⟩

/-- the last key that was met -/
def LastIs (w : World) (F : Nat → Prop) (A : Option Addr) (n : Nat) (l : List Ent) (k : Nat) : Prop :=
  0 < k → ∃ e : Ent, l[k - 1]? = some e ∧ Hid (n = e.1.length) ∧ Rd w F 1 A n (bvs e.1)

theorem sorted_any (A : Option Addr) (n c : Nat) (F : Nat → Prop) (l : List Ent) (w : World) (h : Ents w F A n l) (hn2 : n ≤ 1152921504606) :
    Calls Try.prog 41 #[.slice A n c] w fun e w' => e = .returned (.tuple #[.int .i64 (sortedOf l).1, .int .i64 (sortedOf l).2]) ∧ Below w.heap.size w w' := by
  have HH := Lib.hid h
  have HL := Lib.hid h.len
  clear h
  go_enter Try.func41, Try.ntmps41
  go_wp2
  go_loopg [4, 10] n (fun g last i wr => ∃ (k : Nat) (Al : Option Addr) (nl cl : Nat), g = n - k ∧ k ≤ n ∧ i = .int .i64 k ∧ last = .slice Al nl cl ∧ LastIs w F Al nl l k ∧ Hid (∀ j, j < k → badAt l j = 0) ∧ Below w.heap.size w wr)
  case atStart => exact ⟨0, none, 0, 0, by omega, by omega, rfl, rfl, fun h => absurd h (by omega), fun j hj => absurd hj (by omega), Below.refl _ _⟩
  case round =>
    obtain ⟨k, Al, nl, cl, hg, hk, rfl, rfl, hlast, HB, hbl⟩ := hrel
    have HG := Lib.hid hg
    have HLA := Lib.hid hlast
    clear hg hlast
    by_cases hlt : k < n
    · obtain ⟨b, o, Ak, nk, ck, Av, nv, cv, key, val, rfl, _, he, c1, c2, h1, h2, h3, h4, h5, h6, h7, h8⟩ := HH.out.at_ hlt
      have d1 := bkeep hbl c1
      have d2 := bkeep hbl c2
      have HE := Lib.hid he
      have H4 := Lib.hid h4
      have H8 := Lib.hid h8
      clear c1 c2 he h4 h8
      rcases entE_cases (key, val) with hx | hx
      · have HX := Lib.hid hx
        clear hx
        by_cases hk0 : k = 0
        · subst hk0
          simp only [Nat.zero_mul, Nat.add_zero] at d1 d2
          have HB0 := Lib.hid (badAt_first HE.out HX.out)
          go_wp2_with (first | (go_at_call 35; refine (check_any _ _ _ _ _ _ (key, val) h3.out h7.out _).mono ?_; rintro e w1 ⟨rfl, hb1⟩; rw [HX.out]; have kk := bkeep (v := .slice Ak nk ck) (b := wr.heap.size) (o := 0) hb1 (by simp); have hbl1 : Below w.heap.size w w1 := (hbl.alloc hbl.size _).trans (hb1.mono (by have := hbl.size; simp; omega))))
          go_roundg (n - 1)
          case measure => have := HG.out; omega
          case rel => exact ⟨1, Ak, nk, ck, rfl, by omega, rfl, rfl, fun _ => ⟨(key, val), HE.out, h3, H4.out⟩, Lib.hid (fun j hj => (show j = 0 by omega) ▸ HB0.out), hbl1⟩
        · obtain ⟨d, hd, hnl, hrd⟩ := HLA.out (by omega)
          have HD := Lib.hid hd
          have HRD := Lib.hid hrd
          have kp : 0 < k := by omega
          clear hd hrd
          by_cases hc : 0 ≤ compareBytes d.1 key
          · have HB0 := Lib.hid (badAt_order HE.out HD.out HX.out kp hc)
            have HR := Lib.hid (sorted_at (l := l) (i := k) (by have := HL.out; omega) HB.out (by rw [HB0.out]; decide))
            go_wp2_with (first | (go_at_call 35; refine (check_any _ _ _ _ _ _ (key, val) h3.out h7.out _).mono ?_; rintro e w1 ⟨rfl, hb1⟩; rw [HX.out]; have kk := bkeep (v := .slice Ak nk ck) (b := wr.heap.size) (o := 0) hb1 (by simp); have hbl1 : Below w.heap.size w w1 := (hbl.alloc hbl.size _).trans (hb1.mono (by have := hbl.size; simp; omega))) | (go_at_call 36; refine (compare_any _ _ _ _ _ _ F F d.1 key _ (HRD.out.below hbl1) hnl.out (H4.out.below hbl1) h3.out).mono ?_; rintro e w' ⟨rfl, rfl⟩))
            go_ret2
            rw [HR.out, HB0.out]
            exact ⟨rfl, hbl1⟩
          · have HB0 := Lib.hid (badAt_fine HE.out HD.out HX.out (by show compareBytes d.1 key < 0; omega))
            go_wp2_with (first | (go_at_call 35; refine (check_any _ _ _ _ _ _ (key, val) h3.out h7.out _).mono ?_; rintro e w1 ⟨rfl, hb1⟩; rw [HX.out]; have kk := bkeep (v := .slice Ak nk ck) (b := wr.heap.size) (o := 0) hb1 (by simp); have hbl1 : Below w.heap.size w w1 := (hbl.alloc hbl.size _).trans (hb1.mono (by have := hbl.size; simp; omega))) | (go_at_call 36; refine (compare_any _ _ _ _ _ _ F F d.1 key _ (HRD.out.below hbl1) hnl.out (H4.out.below hbl1) h3.out).mono ?_; rintro e w' ⟨rfl, rfl⟩))
            go_roundg (n - (k + 1))
            case measure => have := HG.out; omega
            case rel => exact ⟨k + 1, Ak, nk, ck, rfl, by omega, by go_num, rfl, fun _ => ⟨(key, val), HE.out, h3, H4.out⟩, Lib.hid (fun j hj => by
              rcases Nat.lt_or_ge j k with h | h
              · exact HB.out j h
              · obtain rfl : j = k := by omega
                exact HB0.out), hbl1⟩
      · have HX := Lib.hid hx
        have HB0 := Lib.hid (badAt_bad HE.out (by rw [hx]; decide))
        have HR := Lib.hid (sorted_at (l := l) (i := k) (by have := HL.out; omega) HB.out (by rw [HB0.out, hx]; decide))
        clear hx
        go_wp2_with (first | (go_at_call 35; refine (check_any _ _ _ _ _ _ (key, val) h3.out h7.out _).mono ?_; rintro e w1 ⟨rfl, hb1⟩; rw [HX.out]; have kk := bkeep (v := .slice Ak nk ck) (b := wr.heap.size) (o := 0) hb1 (by simp); have hbl1 : Below w.heap.size w w1 := (hbl.alloc hbl.size _).trans (hb1.mono (by have := hbl.size; simp; omega))))
        go_ret2
        rw [HR.out, HB0.out, HX.out]
        exact ⟨rfl, hbl1⟩
    · have HR := Lib.hid (sorted_ok (l := l) (fun j hj => HB.out j (by have := HL.out; omega)))
      go_wp2
      go_ret2
      rw [HR.out]
      exact ⟨rfl, hbl⟩

theorem rsorted_any (A : Option Addr) (n c : Nat) (F : Nat → Prop) (l : List Ent) (w : World) (h : Ents w F A n l) (hn2 : n ≤ 1152921504606) (hsm : ∀ (i : Nat) (e : Ent), l[i]? = some e → e.1.length ≤ 1152921504606) :
    Calls Try.prog 23 #[.slice A n c] w fun e w' => e = .returned (.tuple #[.int .i64 (sortedOf l).1, .int .i64 (sortedOf l).2]) ∧ Below w.heap.size w w' := by
  have HH := Lib.hid h
  have HL := Lib.hid h.len
  have HS := Lib.hid hsm
  clear h hsm
  go_enter Try.func23, Try.ntmps23
  go_wp2
  go_loopg [4] n (fun g i wr => ∃ (k : Nat), g = n - k ∧ k ≤ n ∧ i = .int .i64 k ∧ Hid (∀ j, j < k → badAt l j = 0) ∧ Below w.heap.size w wr)
  case atStart => exact ⟨0, by omega, by omega, rfl, fun j hj => absurd hj (by omega), Below.refl _ _⟩
  case round =>
    obtain ⟨k, hg, hk, rfl, HB, hbl⟩ := hrel
    have HG := Lib.hid hg
    clear hg
    by_cases hlt : k < n
    · obtain ⟨b, o, Ak, nk, ck, Av, nv, cv, key, val, rfl, _, he, c1, c2, h1, h2, h3, h4, h5, h6, h7, h8⟩ := HH.out.at_ hlt
      have d1 := bkeep hbl c1
      have d2 := bkeep hbl c2
      have HE := Lib.hid he
      have H4 := Lib.hid h4
      have H8 := Lib.hid h8
      clear c1 c2 he h4 h8
      rcases entE_cases (key, val) with hx | hx
      · have HX := Lib.hid hx
        clear hx
        by_cases hk0 : k = 0
        · subst hk0
          simp only [Nat.zero_mul, Nat.add_zero] at d1 d2
          have HB0 := Lib.hid (badAt_first HE.out HX.out)
          go_wp2_with (first | (go_at_call 39; refine (rcheck_any _ _ _ _ _ _ (key, val) h3.out h7.out _).mono ?_; rintro e w1 ⟨rfl, hb1⟩; rw [HX.out]; have hbl1 : Below w.heap.size w w1 := hbl.trans (hb1.mono hbl.size)))
          go_quiet (fail)
          go_wp2
          go_roundg (n - 1)
          case measure => have := HG.out; omega
          case rel => exact ⟨1, rfl, by omega, rfl, Lib.hid (fun j hj => (show j = 0 by omega) ▸ HB0.out), below_drewN hbl1 _⟩
        · have hlt1 : k - 1 < n := by omega
          obtain ⟨b', o', Bk, mk, dk, Bv, mv, dv, key', val', hA, _, he', c1', c2', h1', h2', h3', h4', h5', h6', h7', h8'⟩ := HH.out.at_ hlt1
          obtain ⟨rfl, rfl⟩ : b' = b ∧ o' = o := by injection hA with hA; injection hA with hA hB; exact ⟨hA.symm, hB.symm⟩
          have d1' := bkeep hbl c1'
          have HD := Lib.hid he'
          have H4' := Lib.hid h4'
          have kp : 0 < k := by omega
          have kp2 : (0 : Int) < (k : Int) := by omega
          clear c1' c2' he' h4' h8' hA
          by_cases hc : 0 ≤ compareBytes key' key
          · have HB0 := Lib.hid (badAt_order HE.out HD.out HX.out kp hc)
            have HR := Lib.hid (sorted_at (l := l) (i := k) (by have := HL.out; omega) HB.out (by rw [HB0.out]; decide))
            have e1 := IntWalk.i64_in ((k : Int) - 1) (by omega)
            have e2 : 0 ≤ (k : Int) - 1 := by omega
            have e3 : ((k : Int) - 1).toNat = k - 1 := by omega
            have e4 : (k : Int) - 1 < (n : Int) := by omega
            have HSM := Lib.hid (HS.out (k - 1) _ HD.out)
            go_wp2_with (first | (go_at_call 39; refine (rcheck_any _ _ _ _ _ _ (key, val) h3.out h7.out _).mono ?_; rintro e w1 ⟨rfl, hb1⟩; rw [HX.out]; have hbl1 : Below w.heap.size w w1 := hbl.trans (hb1.mono hbl.size); have q1 := bkeep hb1 d1; have q2 := bkeep hb1 d1'))
            go_quiet ((go_at_call 40; exact Calls.quiet_of (rcompare_any _ _ _ _ _ _ F F key' key _ (((H4'.out.below hbl).below hb1).drewN _) h3'.out (((H4.out.below hbl).below hb1).drewN _) h3.out (by have := HSM.out; have := h3'.out; omega))))
            clear e1 e3
            go_wp2
            go_ret2
            rw [HR.out, HB0.out]
            exact ⟨rfl, below_drewN hbl1 _⟩
          · have HB0 := Lib.hid (badAt_fine HE.out HD.out HX.out (by show compareBytes key' key < 0; omega))
            have e1 := IntWalk.i64_in ((k : Int) - 1) (by omega)
            have e2 : 0 ≤ (k : Int) - 1 := by omega
            have e3 : ((k : Int) - 1).toNat = k - 1 := by omega
            have e4 : (k : Int) - 1 < (n : Int) := by omega
            have HSM := Lib.hid (HS.out (k - 1) _ HD.out)
            go_wp2_with (first | (go_at_call 39; refine (rcheck_any _ _ _ _ _ _ (key, val) h3.out h7.out _).mono ?_; rintro e w1 ⟨rfl, hb1⟩; rw [HX.out]; have hbl1 : Below w.heap.size w w1 := hbl.trans (hb1.mono hbl.size); have q1 := bkeep hb1 d1; have q2 := bkeep hb1 d1'))
            go_quiet ((go_at_call 40; exact Calls.quiet_of (rcompare_any _ _ _ _ _ _ F F key' key _ (((H4'.out.below hbl).below hb1).drewN _) h3'.out (((H4.out.below hbl).below hb1).drewN _) h3.out (by have := HSM.out; have := h3'.out; omega))))
            clear e1 e3
            go_wp2
            go_roundg (n - (k + 1))
            case measure => have := HG.out; omega
            case rel => exact ⟨k + 1, rfl, by omega, by go_num, Lib.hid (fun j hj => by
              rcases Nat.lt_or_ge j k with h | h
              · exact HB.out j h
              · obtain rfl : j = k := by omega
                exact HB0.out), below_drewN hbl1 _⟩
      · have HX := Lib.hid hx
        have HB0 := Lib.hid (badAt_bad HE.out (by rw [hx]; decide))
        have HR := Lib.hid (sorted_at (l := l) (i := k) (by have := HL.out; omega) HB.out (by rw [HB0.out, hx]; decide))
        clear hx
        go_wp2_with (first | (go_at_call 39; refine (rcheck_any _ _ _ _ _ _ (key, val) h3.out h7.out _).mono ?_; rintro e w1 ⟨rfl, hb1⟩; rw [HX.out]; have hbl1 : Below w.heap.size w w1 := hbl.trans (hb1.mono hbl.size)))
        go_ret2
        rw [HR.out, HB0.out, HX.out]
        exact ⟨rfl, hbl1⟩
    · have HR := Lib.hid (sorted_ok (l := l) (fun j hj => HB.out j (by have := HL.out; omega)))
      go_wp2
      go_ret2
      rw [HR.out]
      exact ⟨rfl, hbl⟩
end Go.Proofs.Ytgjphmlmndcaeaa
