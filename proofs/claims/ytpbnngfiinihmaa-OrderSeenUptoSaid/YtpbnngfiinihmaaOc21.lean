/- WALKS: order.after, order.After. WALKS: order.of, order.after, with texts in a set of blocks. (offs.py printed this from XTabW and XAfter) WALKS: order.Seen: the second loop, the third. WALKS: order.Seen: the third loop. -/
import Derived.Test.YtpbnngfiinihmaaOc20
import Derived.Test.YtpbnngfiinihmaaOc08
import Derived.Test.YtpbnngfiinihmaaOc07
set_option linter.unusedVariables false
set_option linter.unusedSimpArgs false
namespace Go.Proofs.Ytpbnngfiinihmaa
open Go.RowKit
/-- a new table that reads as m: its block, and how many entries it may have -/
def NewTabA (w : World) (n : Nat) (m : List Ent) (e : Ending) (w' : World) : Prop := ∃ tb n2, e = .returned (.map (some tb)) ∧ w.heap.size ≤ tb ∧ n2 ≤ n ∧ TabM w' tb n2 (Under w.heap.size) m ∧ Up m ∧ Short 1048576 m ∧ m.length ≤ n ∧ Below w.heap.size w w'
set_option maxRecDepth 100000 in
set_option maxHeartbeats 8000000 in
theorem afterT_any (sA cA : Option Addr) (sn sc cn cc : Nat) (now : Int) (start : List Ent) (l : List CallD) (w : World) (hS : Ents w Any sA sn start) (hL : CallsM w Any cA cn l)
    (h1 : sn ≤ 1048576) (h2 : cn ≤ 1048576) (hsh : Short 1048576 start) :
    Calls Try.prog 32 #[.slice sA sn sc, .slice cA cn cc, .int .i64 now] w (NewTabA w (sn + cn) (afterE start l now)) := by
  have HS := Lib.hid hS
  have HL := Lib.hid hL
  have HLL := Lib.hid hL.lt
  have HSH := Lib.hid hsh
  have HN := Lib.hid hL.len
  clear hS hL hsh
  go_enter Try.func32, Try.ntmps32
  go_upto_region 2 with (go_at_call 21; go_loud (refine (of_any sA sn sc start w HS.out h1 (fun e he => ⟨Nat.le_trans (HSH.out e he).1 (by omega), Nat.le_trans (HSH.out e he).2 (by omega)⟩)).mono ?_); rintro e w2 ⟨rfl, ht2, hb2⟩; have HT2 := Lib.hid ht2; have HB3 := Lib.hid hb2; have hsz2 := hb2.size; clear ht2 hb2)
  obtain ⟨tb, htb⟩ : ∃ tb, tb = w.heap.size := ⟨_, rfl⟩
  have HTB := Lib.hid htb
  rw [← htb] at HT2 ⊢
  have htbs : w.heap.size ≤ tb := by omega
  have htbs2 : tb ≤ w.heap.size := by omega
  have htl := HT2.out.lt
  clear htb
  go_upto_region 3 with (go_at_call 8; go_loud (refine (line_any Any cA cn cc l w2 (HL.out.below HB3.out) h2).mono ?_); rintro e w3 ⟨lA, lm, lc, rfl, hlm, hlm2, hrd, hln, hb3⟩; have HLM := Lib.hid hlm; have HRD := Lib.hid hrd; have HLN := Lib.hid hln; have HB4 := Lib.hid (HB3.out.trans (hb3.mono HB3.out.size)); have HT3 := Lib.hid (HT2.out.below hb3); have hsz3 := hb3.size; clear hlm hrd hln hb3)
  have hlmb : lm ≤ 1048576 := by omega
  go_loopg [15] lm (fun g' iv wz => ∃ (k n2 : Nat) (m : List Ent), g' = lm - k ∧ k ≤ lm ∧ iv = .int .i64 k ∧ TabM wz tb n2 (Under tb) m ∧ Up m ∧ Short 1048576 m ∧ n2 ≤ sn + k ∧ m.length ≤ sn + k ∧ aftL l now ((lineE l).drop k) m = aftL l now (lineE l) (mapE start) ∧ Chg (One tb) w3 wz)
  case atStart => exact ⟨0, sn, mapE start, by omega, by omega, rfl, HT3.out, mapE_up _, fun e he => HSH.out e (mapE_sub start start.length e (by rw [List.take_length]; exact he)), by omega, by have h1 := mapE_len start; have h2 := HS.out.len; omega, rfl, Chg.refl _ _⟩
  case round =>
    obtain ⟨k, n2, m, hg, hk, rfl, ht, hup, hsm, hn2, hml, hrun, hc3⟩ := hrel
    have HG := Lib.hid hg
    have HT := Lib.hid ht
    have HUP := Lib.hid hup
    have HSM := Lib.hid hsm
    have HRUN := Lib.hid hrun
    have HC3 := Lib.hid hc3
    have HB6 := Lib.hid (HB4.out.trans (hc3.below_of HB4.out.size (fun g hg e => by have e : g = tb := e; omega)))
    have HLn := Lib.hid (HLL.out.below HB6.out)
    have hsz4 : w3.heap.size ≤ wr.heap.size := hc3.size
    clear hg ht hup hsm hrun
    by_cases hlt : k < lm
    · have hlt' : (k : Int) < (lm : Int) := by omega
      obtain ⟨g, e, u, rfl, hgF, hu, zc0⟩ := HRD.out.at_ hlt
      have hgF : w2.heap.size ≤ g := hgF
      have zc := hc3.cell (show ¬ One tb g from fun e => by have e : g = tb := e; omega) zc0
      have hkl : k < (lineE l).length := by have := HLM.out; omega
      obtain ⟨p, hp⟩ : ∃ p, (lineE l)[k]? = some p := ⟨_, List.getElem?_eq_getElem hkl⟩
      rw [pvs_at hp] at hu
      injection hu with hu
      subst hu
      have hpn : p < cn := ((HLN.out.2 p).1 (List.mem_of_getElem? hp)).1
      have hpn' : (p : Int) < (cn : Int) := by omega
      obtain ⟨b, o, c, x, rfl, hFb, hlp, hcw, hat⟩ := HLn.out.at_ hpn
      have HCW := Lib.hid (hcw.weakS (B := tb) (fun g hg => by have := hg.2; omega))
      have HAT := Lib.hid hat
      have HST := Lib.hid (aftL_step hp hlp now m)
      have z11 := hat.c11
      have hbs : b < w.heap.size := hFb.2
      clear hp hlp hcw hat hkl zc0 hc3 hFb
      by_cases hpt : c.pt < now
      · go_wp2_with (first | (refine wpList_load_call rfl (.tmp 29) rfl rfl HAT.out ?_) | (go_at_call 23; go_loud (refine (does_any (Under tb) tb n2 m c x wr HCW.out HT.out (by omega) (fun g (hg : g < tb) => by omega)).mono ?_); rintro e6 w6 ⟨rfl, ht6, hc6⟩; have HT6 := Lib.hid ht6; have HC6 := Lib.hid (HC3.out.trans hc6 (fun _ _ h => h)); clear ht6 hc6))
        go_roundg (lm - (k + 1))
        case measure => have := HG.out; omega
        case rel =>
          refine ⟨k + 1, n2 + 1, doesE m c, rfl, by omega, by go_num, HT6.out, doesE_up HUP.out c, doesE_short HSM.out c (by omega), by omega, by have := doesE_len m c; omega, ?_, HC6.out⟩
          have h1 := HRUN.out
          rw [HST.out, if_pos hpt] at h1
          exact h1
      · go_wp2
        go_roundg (lm - (k + 1))
        case measure => have := HG.out; omega
        case rel =>
          refine ⟨k + 1, n2, m, rfl, by omega, by go_num, HT.out, HUP.out, HSM.out, by omega, by omega, ?_, HC3.out⟩
          have h1 := HRUN.out
          rw [HST.out, if_neg (by omega)] at h1
          exact h1
    · have hkm : k = lm := by omega
      subst hkm
      go_wp2
      go_ret
      have h1 := HRUN.out
      rw [List.drop_of_length_le (by have := HLM.out; omega)] at h1
      have h2 : m = afterE start l now := h1
      rw [← h2]
      exact ⟨tb, n2, rfl, htbs, by omega, HT.out.weak (fun b (hb : b < tb) => (show b < w.heap.size by omega)), HUP.out, HSM.out, by omega, HB6.out⟩
set_option maxRecDepth 100000 in
set_option maxHeartbeats 4000000 in
theorem after_any (sA cA : Option Addr) (sn sc cn cc : Nat) (now : Int) (start : List Ent) (l : List CallD) (w : World) (hS : Ents w Any sA sn start) (hL : CallsM w Any cA cn l)
    (h1 : sn ≤ 1048576) (h2 : cn ≤ 1048576) (hsh : Short 1048576 start) :
    Calls Try.prog 12 #[.slice sA sn sc, .slice cA cn cc, .int .i64 now] w fun e w' => NewList w (afterE start l now) e w' ∧ (afterE start l now).length ≤ sn + cn ∧ Short 1048576 (afterE start l now) := by
  have HH := Lib.hid (afterT_any sA cA sn sc cn cc now start l w hS hL h1 h2 hsh)
  clear hS hL hsh
  go_enter Try.func12, Try.ntmps12
  go_wp2_with (first | (go_at_call 32; go_loud (refine HH.out.mono ?_); rintro e w2 ⟨tb, n2, rfl, hb, hn2, ht, hu, hs, hml, hb2⟩; have HT := Lib.hid ht; have HU := Lib.hid hu; have HS := Lib.hid hs; have HML := Lib.hid hml; have HB2 := Lib.hid hb2; clear ht hu hs hb2) | (go_at_call 25; go_loud (refine (list_any tb n2 _ _ w2 HT.out HU.out HS.out (by omega) (by omega)).mono ?_); rintro e w3 ⟨lA, ln, lc, us, rfl, hln, hel, hb3⟩; have HLN := Lib.hid hln; have HEL := Lib.hid hel; have HB3 := Lib.hid hb3; clear hln hel hb3))
  go_ret
  exact ⟨⟨lA, ln, lc, us, rfl, HLN.out, HEL.out.mono HB2.out.size, HB2.out.trans (HB3.out.mono HB2.out.size)⟩, HML.out, HS.out⟩
end Go.Proofs.Ytpbnngfiinihmaa

namespace Go.Proofs.Ytpbnngfiinihmaa
open Go.RowKit Go.Maps
/-- a new table that reads as m; its texts lie in what was there -/
def NewTabF (F : Nat → Prop) (w : World) (n : Nat) (m : List Ent) (e : Ending) (w' : World) : Prop := e = .returned (.map (some w.heap.size)) ∧ TabM w' w.heap.size n F m ∧ Below w.heap.size w w'
set_option maxRecDepth 100000 in
set_option maxHeartbeats 4000000 in
theorem of_anyF {F : Nat → Prop} (A : Option Addr) (n c : Nat) (l : List Ent) (w : World) (h : Ents w F A n l) (hn : n ≤ 1048576) (hF : ∀ b, F b → b < w.heap.size) (hs : Short 1152921504606 l) :
    Calls Try.prog 21 #[.slice A n c] w (NewTabF F w n (mapE l)) := by
  have HE := Lib.hid h
  have HN := Lib.hid h.len
  have HS := Lib.hid hs
  have hmm := @run_makeMap Try.prog
  have HF := Lib.hid hF
  clear h hs hF
  go_enter Try.func21, Try.ntmps21
  go_wp2
  go_loopg [9] n (fun g' iv wz => ∃ (i : Nat), g' = n - i ∧ i ≤ n ∧ iv = .int .i64 i ∧ TabM wz w.heap.size i F (mapE (l.take i)) ∧ Below w.heap.size w wz)
  case atStart => exact ⟨0, by omega, by omega, rfl, TabM.made _ _, (Below.refl _ _).alloc (Nat.le_refl _) _⟩
  case round =>
    obtain ⟨i, hg, hi, rfl, hm, hb⟩ := hrel
    have HG := Lib.hid hg
    have HM := Lib.hid hm
    have HB := Lib.hid hb
    clear hg hm hb
    by_cases hlt : i < n
    · obtain ⟨b, o, Ak, nk, ck, Av, nv, cv, key, val, rfl, hmi, c1', c2', s1, s2⟩ := Sf.rd_textF HE.out hlt
      have c1 := bkeep HB.out c1'
      have c2 := bkeep HB.out c2'
      have HST := Lib.hid (mapE_take hmi)
      have HKL : Hid (key.length ≤ 1152921504606) := Lib.hid (HS.out _ (List.mem_of_getElem? hmi)).1
      have K1 := Lib.hid (s1.below HB.out)
      have K2 := Lib.hid (s2.below HB.out)
      clear s1 s2 hmi c1' c2'
      go_upto_region 5 with fail
      obtain ⟨w1, hw1⟩ : ∃ W, W = wr.alloc (.cells #[.slice Ak nk ck, .slice Av nv cv] 38) := ⟨_, rfl⟩
      rw [← hw1]
      have z0 : w1.cell? ⟨wr.heap.size, 0, none⟩ = some (.slice Ak nk ck) := by rw [hw1]; exact (Blk.new _ _ _).cell 0
      have z1 : w1.cell? ⟨wr.heap.size, 1, none⟩ = some (.slice Av nv cv) := by rw [hw1]; exact (Blk.new _ _ _).cell 1
      have hb1 : Below wr.heap.size wr w1 := by rw [hw1]; exact (Below.refl _ _).alloc (Nat.le_refl _) _
      have HM1 := Lib.hid (HM.out.below hb1)
      have L1 := Lib.hid (K1.out.below hb1)
      have L2 := Lib.hid (K2.out.below hb1)
      have HB1 := Lib.hid (HB.out.trans (hb1.mono HB.out.size))
      have q1 := conv_any w1 _ Ak nk ck key L1.out.parts.2.2.2 L1.out.parts.2.2.1
      clear hw1 hb1 c1 c2
      go_wp2_with (at_mapUpdate; go_loud (refine wpList_tab_put rfl (.tmp 13) (.tmp 16) (.tmp 18) rfl rfl HM1.out (by simp only [maxLen]; omega) (key, val) (by have := HKL.out; simp only [maxLen]; omega) (.slice Av nv cv) rfl rfl L2.out (fun h => by have h := HF.out _ h; omega) ?_); intro w2 hm2 hc2; have HM2 := Lib.hid hm2; have HC2 := Lib.hid hc2; clear hm2 hc2)
      go_roundg (n - (i + 1))
      case measure => have := HG.out; omega
      case rel => exact ⟨i + 1, rfl, by omega, by go_num, by rw [HST.out]; exact HM2.out, HB1.out.trans (HC2.out.below_of HB1.out.size (fun b hb e => by have e : b = w.heap.size := e; omega))⟩
    · have hin : i = n := by omega
      subst hin
      go_wp2
      go_ret
      have hd : l.take i = l := List.take_of_length_le (by have := HN.out; omega)
      have h1 := HM.out
      rw [hd] at h1
      exact ⟨rfl, h1, HB.out⟩
/-- a new table that reads as m: its block, and how many entries it may have -/
def NewTabAF (F : Nat → Prop) (w : World) (n : Nat) (m : List Ent) (e : Ending) (w' : World) : Prop := ∃ tb n2, e = .returned (.map (some tb)) ∧ w.heap.size ≤ tb ∧ n2 ≤ n ∧ TabM w' tb n2 F m ∧ Up m ∧ Short 1048576 m ∧ m.length ≤ n ∧ Below w.heap.size w w'
set_option maxRecDepth 100000 in
set_option maxHeartbeats 8000000 in
theorem afterT_anyF {F : Nat → Prop} (sA cA : Option Addr) (sn sc cn cc : Nat) (now : Int) (start : List Ent) (l : List CallD) (w : World) (hS : Ents w F sA sn start) (hL : CallsM w F cA cn l)
    (h1 : sn ≤ 1048576) (h2 : cn ≤ 1048576) (hsh : Short 1048576 start) (hF : ∀ b, F b → b < w.heap.size) :
    Calls Try.prog 32 #[.slice sA sn sc, .slice cA cn cc, .int .i64 now] w (NewTabAF F w (sn + cn) (afterE start l now)) := by
  have HS := Lib.hid hS
  have HL := Lib.hid hL
  have HLL := Lib.hid hL.lt
  have HSH := Lib.hid hsh
  have HN := Lib.hid hL.len
  have HF := Lib.hid hF
  clear hS hL hsh hF
  go_enter Try.func32, Try.ntmps32
  go_upto_region 2 with (go_at_call 21; go_loud (refine (of_anyF sA sn sc start w HS.out h1 HF.out (fun e he => ⟨Nat.le_trans (HSH.out e he).1 (by omega), Nat.le_trans (HSH.out e he).2 (by omega)⟩)).mono ?_); rintro e w2 ⟨rfl, ht2, hb2⟩; have HT2 := Lib.hid ht2; have HB3 := Lib.hid hb2; have hsz2 := hb2.size; clear ht2 hb2)
  obtain ⟨tb, htb⟩ : ∃ tb, tb = w.heap.size := ⟨_, rfl⟩
  have HTB := Lib.hid htb
  rw [← htb] at HT2 ⊢
  have htbs : w.heap.size ≤ tb := by omega
  have htbs2 : tb ≤ w.heap.size := by omega
  have htl := HT2.out.lt
  clear htb
  go_upto_region 3 with (go_at_call 8; go_loud (refine (line_any F cA cn cc l w2 (HL.out.below HB3.out) h2).mono ?_); rintro e w3 ⟨lA, lm, lc, rfl, hlm, hlm2, hrd, hln, hb3⟩; have HLM := Lib.hid hlm; have HRD := Lib.hid hrd; have HLN := Lib.hid hln; have HB4 := Lib.hid (HB3.out.trans (hb3.mono HB3.out.size)); have HT3 := Lib.hid (HT2.out.below hb3); have hsz3 := hb3.size; clear hlm hrd hln hb3)
  have hlmb : lm ≤ 1048576 := by omega
  go_loopg [15] lm (fun g' iv wz => ∃ (k n2 : Nat) (m : List Ent), g' = lm - k ∧ k ≤ lm ∧ iv = .int .i64 k ∧ TabM wz tb n2 F m ∧ Up m ∧ Short 1048576 m ∧ n2 ≤ sn + k ∧ m.length ≤ sn + k ∧ aftL l now ((lineE l).drop k) m = aftL l now (lineE l) (mapE start) ∧ Chg (One tb) w3 wz)
  case atStart => exact ⟨0, sn, mapE start, by omega, by omega, rfl, HT3.out, mapE_up _, fun e he => HSH.out e (mapE_sub start start.length e (by rw [List.take_length]; exact he)), by omega, by have h1 := mapE_len start; have h2 := HS.out.len; omega, rfl, Chg.refl _ _⟩
  case round =>
    obtain ⟨k, n2, m, hg, hk, rfl, ht, hup, hsm, hn2, hml, hrun, hc3⟩ := hrel
    have HG := Lib.hid hg
    have HT := Lib.hid ht
    have HUP := Lib.hid hup
    have HSM := Lib.hid hsm
    have HRUN := Lib.hid hrun
    have HC3 := Lib.hid hc3
    have HB6 := Lib.hid (HB4.out.trans (hc3.below_of HB4.out.size (fun g hg e => by have e : g = tb := e; omega)))
    have HLn := Lib.hid (HLL.out.below HB6.out)
    have hsz4 : w3.heap.size ≤ wr.heap.size := hc3.size
    clear hg ht hup hsm hrun
    by_cases hlt : k < lm
    · have hlt' : (k : Int) < (lm : Int) := by omega
      obtain ⟨g, e, u, rfl, hgF, hu, zc0⟩ := HRD.out.at_ hlt
      have hgF : w2.heap.size ≤ g := hgF
      have zc := hc3.cell (show ¬ One tb g from fun e => by have e : g = tb := e; omega) zc0
      have hkl : k < (lineE l).length := by have := HLM.out; omega
      obtain ⟨p, hp⟩ : ∃ p, (lineE l)[k]? = some p := ⟨_, List.getElem?_eq_getElem hkl⟩
      rw [pvs_at hp] at hu
      injection hu with hu
      subst hu
      have hpn : p < cn := ((HLN.out.2 p).1 (List.mem_of_getElem? hp)).1
      have hpn' : (p : Int) < (cn : Int) := by omega
      obtain ⟨b, o, c, x, rfl, hFb, hlp, hcw, hat⟩ := HLn.out.at_ hpn
      have HCW := Lib.hid (hcw.weak (fun g hg => hg.1))
      have HAT := Lib.hid hat
      have HST := Lib.hid (aftL_step hp hlp now m)
      have z11 := hat.c11
      have hbs : b < w.heap.size := hFb.2
      clear hp hlp hcw hat hkl zc0 hc3 hFb
      by_cases hpt : c.pt < now
      · go_wp2_with (first | (refine wpList_load_call rfl (.tmp 29) rfl rfl HAT.out ?_) | (go_at_call 23; go_loud (refine (does_any F tb n2 m c x wr HCW.out HT.out (by omega) (fun g hg => by have h := HF.out g hg; omega)).mono ?_); rintro e6 w6 ⟨rfl, ht6, hc6⟩; have HT6 := Lib.hid ht6; have HC6 := Lib.hid (HC3.out.trans hc6 (fun _ _ h => h)); clear ht6 hc6))
        go_roundg (lm - (k + 1))
        case measure => have := HG.out; omega
        case rel =>
          refine ⟨k + 1, n2 + 1, doesE m c, rfl, by omega, by go_num, HT6.out, doesE_up HUP.out c, doesE_short HSM.out c (by omega), by omega, by have := doesE_len m c; omega, ?_, HC6.out⟩
          have h1 := HRUN.out
          rw [HST.out, if_pos hpt] at h1
          exact h1
      · go_wp2
        go_roundg (lm - (k + 1))
        case measure => have := HG.out; omega
        case rel =>
          refine ⟨k + 1, n2, m, rfl, by omega, by go_num, HT.out, HUP.out, HSM.out, by omega, by omega, ?_, HC3.out⟩
          have h1 := HRUN.out
          rw [HST.out, if_neg (by omega)] at h1
          exact h1
    · have hkm : k = lm := by omega
      subst hkm
      go_wp2
      go_ret
      have h1 := HRUN.out
      rw [List.drop_of_length_le (by have := HLM.out; omega)] at h1
      have h2 : m = afterE start l now := h1
      rw [← h2]
      exact ⟨tb, n2, rfl, htbs, by omega, HT.out, HUP.out, HSM.out, by omega, HB6.out⟩
end Go.Proofs.Ytpbnngfiinihmaa

namespace Go.Proofs.Ytpbnngfiinihmaa
open Go.RowKit
open Go.Lib (compareBytes)
noncomputable def s2C : Code := codeOr (Try.f15.body.bind (blockIn 2))
set_option maxRecDepth 100000 in
set_option maxHeartbeats 4000000 in
theorem s2_in (F : Nat → Prop) (kb n0 : Nat) (ks : List (List UInt8)) (sA : Option Addr) (sn sc : Nat) (l : List Ent) (w : World) {u0 u1 u2 u3 u4 u5 u6 u7 u8 u9 u10 u11 u12 u13 u15 u16 u17 u18 u19 u20 u21 u22 u23 u24 u25 u26 u27 u28 u29 u30 u31 u32 u33 u34 u35 u36 u37 u38 u39 u40 u41 u42 u43 u44 u45 u46 u47 u48 u49 u50 u51 u52 u53 u54 u55 u56 u57 u58 u59 u60 u61 u62 u63 u64 u68 u69 u70 u71 u72 u73 u74 u75 u76 u77 u78 u79 u80 u81 u82 u83 u84 u85 u86 u87 u88 u89 u90 u91 u92 u93 u94 u95 u96 u97 u98 u99 u100 u101 u102 u103 u104 u105 u106 u107 u108 u109 u110 u111 u112 u113 u114 u115 u116 u117 u118 u119 u120 u121 u122 u123 u124 u125 u126 u127 u128 u129 u130 u131 u132 u133 u134 u135 u136 u137 u138 u139 u140 u141 u142 u143 u144 u145 u146 u147 u148 u149 u150 u151 u152 : Value} (Q : Exit → Act → World → Prop)
    (hsn : sn ≤ 1048576) (hn0 : n0 ≤ 1048576) (HS : Hid (Short 1048576 l)) (HE : Hid (Ents w F sA sn l)) (HF : Hid (∀ b, F b → b ≠ kb))
    (HK : Hid (KeysM w kb n0 ks))
    (hexit : ∀ (v18 v67 v68 v69 v70 v71 v72 v73 v74 v75 v76 v77 : Value) (w' : World), KeysM w' kb (n0 + sn) (ks ++ l.map (·.1)) → Chg (One kb) w w' → Q (.exit 2) ⟨(u0 :: u1 :: u2 :: u3 :: u4 :: u5 :: u6 :: u7 :: u8 :: u9 :: u10 :: u11 :: u12 :: u13 :: .map (some kb) :: u15 :: u16 :: u17 :: v18 :: u19 :: u20 :: u21 :: u22 :: u23 :: u24 :: u25 :: u26 :: u27 :: u28 :: u29 :: u30 :: u31 :: u32 :: u33 :: u34 :: u35 :: u36 :: u37 :: u38 :: u39 :: u40 :: u41 :: u42 :: u43 :: u44 :: u45 :: u46 :: u47 :: u48 :: u49 :: u50 :: u51 :: u52 :: u53 :: u54 :: u55 :: u56 :: u57 :: u58 :: u59 :: u60 :: u61 :: u62 :: u63 :: u64 :: .slice sA sn sc :: .int .i64 sn :: v67 :: v68 :: v69 :: v70 :: v71 :: v72 :: v73 :: v74 :: v75 :: v76 :: v77 :: u78 :: u79 :: u80 :: u81 :: u82 :: u83 :: u84 :: u85 :: u86 :: u87 :: u88 :: u89 :: u90 :: u91 :: u92 :: u93 :: u94 :: u95 :: u96 :: u97 :: u98 :: u99 :: u100 :: u101 :: u102 :: u103 :: u104 :: u105 :: u106 :: u107 :: u108 :: u109 :: u110 :: u111 :: u112 :: u113 :: u114 :: u115 :: u116 :: u117 :: u118 :: u119 :: u120 :: u121 :: u122 :: u123 :: u124 :: u125 :: u126 :: u127 :: u128 :: u129 :: u130 :: u131 :: u132 :: u133 :: u134 :: u135 :: u136 :: u137 :: u138 :: u139 :: u140 :: u141 :: u142 :: u143 :: u144 :: u145 :: u146 :: u147 :: u148 :: u149 :: u150 :: u151 :: u152 :: []).toArray, []⟩ w') :
    Code.wp Try.prog s2C Q ⟨(u0 :: u1 :: u2 :: u3 :: u4 :: u5 :: u6 :: u7 :: u8 :: u9 :: u10 :: u11 :: u12 :: u13 :: .map (some kb) :: u15 :: u16 :: u17 :: u18 :: u19 :: u20 :: u21 :: u22 :: u23 :: u24 :: u25 :: u26 :: u27 :: u28 :: u29 :: u30 :: u31 :: u32 :: u33 :: u34 :: u35 :: u36 :: u37 :: u38 :: u39 :: u40 :: u41 :: u42 :: u43 :: u44 :: u45 :: u46 :: u47 :: u48 :: u49 :: u50 :: u51 :: u52 :: u53 :: u54 :: u55 :: u56 :: u57 :: u58 :: u59 :: u60 :: u61 :: u62 :: u63 :: u64 :: .slice sA sn sc :: .int .i64 sn :: .int .i64 0 :: u68 :: u69 :: u70 :: u71 :: u72 :: u73 :: u74 :: u75 :: u76 :: u77 :: u78 :: u79 :: u80 :: u81 :: u82 :: u83 :: u84 :: u85 :: u86 :: u87 :: u88 :: u89 :: u90 :: u91 :: u92 :: u93 :: u94 :: u95 :: u96 :: u97 :: u98 :: u99 :: u100 :: u101 :: u102 :: u103 :: u104 :: u105 :: u106 :: u107 :: u108 :: u109 :: u110 :: u111 :: u112 :: u113 :: u114 :: u115 :: u116 :: u117 :: u118 :: u119 :: u120 :: u121 :: u122 :: u123 :: u124 :: u125 :: u126 :: u127 :: u128 :: u129 :: u130 :: u131 :: u132 :: u133 :: u134 :: u135 :: u136 :: u137 :: u138 :: u139 :: u140 :: u141 :: u142 :: u143 :: u144 :: u145 :: u146 :: u147 :: u148 :: u149 :: u150 :: u151 :: u152 :: []).toArray, []⟩ w := by
  have HEX := Lib.hid hexit
  have HN := Lib.hid HE.out.len
  clear hexit
  conv => arg 2; whnf
  go_loopg [67] sn (fun g' iv wz => ∃ (i : Nat), g' = sn - i ∧ i ≤ sn ∧ iv = .int .i64 i ∧ KeysM wz kb (n0 + i) (ks ++ (l.take i).map (·.1)) ∧ Chg (One kb) w wz)
  case atStart => exact ⟨0, by omega, by omega, rfl, by simpa using HK.out, Chg.refl _ _⟩
  case round =>
    obtain ⟨i, hg, hi1, rfl, hk, hc1⟩ := hrel
    have HG := Lib.hid hg
    have HKM := Lib.hid hk
    have HC := Lib.hid hc1
    clear hg hk
    by_cases hlt : i < sn
    · have hlt' : (i : Int) < (sn : Int) := by omega
      have HE1 := Lib.hid (HE.out.chg hc1 (fun b hb e => HF.out b hb e))
      obtain ⟨b, o, Ak, nk, ck, Av, nv, cv, key, val, hA1, hl, z1, z2, s1, s2⟩ := Sf.rd_textF HE1.out hlt
      subst hA1
      have HLI := Lib.hid hl
      have HKL : Hid (key.length ≤ 1048576) := Lib.hid (HS.out _ (List.mem_of_getElem? hl)).1
      have HS1 := Lib.hid s1
      clear hl s1 s2 hc1
      go_upto_region 13 with fail
      obtain ⟨w1, hw1⟩ : ∃ W, W = wr.alloc (.cells #[.slice Ak nk ck, .slice Av nv cv] 38) := ⟨_, rfl⟩
      rw [← hw1]
      have hb1 : Below wr.heap.size wr w1 := by rw [hw1]; exact (Below.refl _ _).alloc (Nat.le_refl _) _
      have HBK : Hid (Blk w1 wr.heap.size 38 #[.slice Ak nk ck, .slice Av nv cv]) := Lib.hid (by rw [hw1]; exact Blk.new _ _ _)
      have HKM1 := Lib.hid (HKM.out.below hb1)
      have HC1 := Lib.hid (HC.out.then hb1)
      have HS2 := Lib.hid (HS1.out.below hb1)
      clear hw1 hb1 z1 z2
      have x0 : w1.cell? ⟨wr.heap.size, 0, none⟩ = some (.slice Ak nk ck) := HBK.out.cell 0
      have q1 := conv_any w1 _ Ak nk ck key HS2.out.parts.2.2.2 HS2.out.parts.2.2.1
      have hkl : key.length ≤ maxLen := by have := HKL.out; simp only [maxLen]; omega
      obtain ⟨z, hz, q2⟩ := HKM1.out.look hkl
      have hz1 : z ≤ 2097152 := by omega
      have HZ := Lib.hid hz
      clear hz
      go_wp2_with (at_mapUpdate; go_loud (refine wpList_keys_put rfl (.tmp 71) (.tmp 74) (.tmp 76) rfl rfl HKM1.out (by simp only [maxLen]; omega) key hkl (z + 1) (by have := HZ.out; omega) rfl (by go_num) ?_); intro w3 hk3 hc3; have HK3 := Lib.hid hk3; have HC3 := Lib.hid (HC1.out.trans hc3 (fun _ _ h => h)); clear hk3 hc3)
      go_roundg (sn - (i + 1))
      case measure => have := HG.out; omega
      case rel =>
        refine ⟨i + 1, rfl, by omega, by go_num, ?_, HC3.out⟩
        rw [take_succ_keys HLI.out, ← List.append_assoc]; exact HK3.out
    · have hin : i = sn := by omega
      subst hin
      go_wp2
      refine HEX.out _ _ _ _ _ _ _ _ _ _ _ _ _ ?_ HC.out
      have h1 := HKM.out
      rwa [take_all HN.out] at h1
end Go.Proofs.Ytpbnngfiinihmaa

namespace Go.Proofs.Ytpbnngfiinihmaa
open Go.RowKit Go.Maps
open Go.Lib (compareBytes)
/-- what the loop over the calls may change -/
def KB (kb base : Nat) : Nat → Prop := fun g => g = kb ∨ base ≤ g
noncomputable def s4C : Code := codeOr (Try.f15.body.bind (blockIn 4))
set_option maxRecDepth 100000 in
set_option maxHeartbeats 8000000 in
theorem s4_in (F : Nat → Prop) (base kb hb n0 : Nat) (a b : Int) (ks : List (List UInt8)) (v : Value) (us0 : List Value) (sA cA : Option Addr) (sn sc cn cc : Nat) (start : List Ent) (l : List CallD) (h2 h3 h4 h5 : Value) (w : World) {u0 u1 u2 u3 u7 u8 u9 u10 u11 u12 u13 u15 u16 u17 u18 u20 u21 u22 u23 u24 u25 u26 u27 u28 u29 u30 u31 u32 u33 u34 u35 u36 u37 u38 u39 u40 u41 u42 u43 u44 u45 u46 u47 u48 u49 u50 u51 u52 u53 u54 u55 u56 u57 u58 u59 u60 u61 u62 u63 u64 u65 u66 u67 u68 u69 u70 u71 u72 u73 u74 u75 u76 u77 u78 u79 u80 u81 u82 u83 u84 u85 u89 u90 u91 u92 u93 u94 u95 u96 u97 u98 u99 u100 u101 u102 u103 u104 u105 u106 u107 u108 u109 u110 u111 u112 u113 u114 u115 u116 u117 u118 u119 u120 u121 u122 u123 u124 u125 u126 u127 u128 u129 u130 u131 u132 u133 u134 u135 u136 u137 u138 u139 u140 u141 u142 u143 u144 u145 u146 u147 u148 u149 u150 u151 u152 : Value} (Q : Exit → Act → World → Prop)
    (hsn : sn ≤ 1048576) (hcn : cn ≤ 1048576) (hn0 : n0 ≤ 2097152) (hbm : b < 9223372036854775808) (ham : -9223372036854775808 ≤ a) (HSH : Hid (Short 1048576 start)) (HS : Hid (Ents w F sA sn start)) (HL : Hid (CallsM w F cA cn l)) (HKS : Hid (∀ c ∈ l, c.key.length ≤ 1048576))
    (HF : Hid (∀ g, F g → g < base ∧ g ≠ kb)) (hbb : hb < base) (hkb : kb < base) (hhk : hb ≠ kb) (hbw : base ≤ w.heap.size) (HH : Hid (Blk w hb 29 #[.slice sA sn sc, .slice cA cn cc, h2, h3, h4, h5]))
    (HK : Hid (KeysM w kb n0 ks)) (HLK : Hid (Lk w base (sn + cn) F v us0 (looksE start l a b [])))
    (hexit : ∀ (v21 v88 v89 v90 v91 v92 v93 v94 v95 v96 v97 v98 v99 v100 v101 v102 v103 v104 v105 v106 v107 v108 v109 v110 v111 v112 v113 v114 v115 v116 v117 v118 v119 v120 v121 v122 v123 v124 : Value) (lkv : Value) (us2 : List Value) (w' : World), KeysM w' kb (n0 + cn) (ks ++ keysC l l.length) → Lk w' base (sn + cn) F lkv us2 (looksE start l a b l) → Chg (KB kb base) w w' → Q (.exit 4) ⟨(u0 :: u1 :: u2 :: u3 :: .int .i64 a :: .int .i64 b :: .pointer (some ⟨hb, 0, none⟩) :: u7 :: u8 :: u9 :: u10 :: u11 :: u12 :: u13 :: .map (some kb) :: u15 :: u16 :: u17 :: u18 :: lkv :: u20 :: v21 :: u22 :: u23 :: u24 :: u25 :: u26 :: u27 :: u28 :: u29 :: u30 :: u31 :: u32 :: u33 :: u34 :: u35 :: u36 :: u37 :: u38 :: u39 :: u40 :: u41 :: u42 :: u43 :: u44 :: u45 :: u46 :: u47 :: u48 :: u49 :: u50 :: u51 :: u52 :: u53 :: u54 :: u55 :: u56 :: u57 :: u58 :: u59 :: u60 :: u61 :: u62 :: u63 :: u64 :: u65 :: u66 :: u67 :: u68 :: u69 :: u70 :: u71 :: u72 :: u73 :: u74 :: u75 :: u76 :: u77 :: u78 :: u79 :: u80 :: u81 :: u82 :: u83 :: u84 :: u85 :: .slice cA cn cc :: .int .i64 cn :: v88 :: v89 :: v90 :: v91 :: v92 :: v93 :: v94 :: v95 :: v96 :: v97 :: v98 :: v99 :: v100 :: v101 :: v102 :: v103 :: v104 :: v105 :: v106 :: v107 :: v108 :: v109 :: v110 :: v111 :: v112 :: v113 :: v114 :: v115 :: v116 :: v117 :: v118 :: v119 :: v120 :: v121 :: v122 :: v123 :: v124 :: u125 :: u126 :: u127 :: u128 :: u129 :: u130 :: u131 :: u132 :: u133 :: u134 :: u135 :: u136 :: u137 :: u138 :: u139 :: u140 :: u141 :: u142 :: u143 :: u144 :: u145 :: u146 :: u147 :: u148 :: u149 :: u150 :: u151 :: u152 :: []).toArray, []⟩ w') :
    Code.wp Try.prog s4C Q ⟨(u0 :: u1 :: u2 :: u3 :: .int .i64 a :: .int .i64 b :: .pointer (some ⟨hb, 0, none⟩) :: u7 :: u8 :: u9 :: u10 :: u11 :: u12 :: u13 :: .map (some kb) :: u15 :: u16 :: u17 :: u18 :: v :: u20 :: u21 :: u22 :: u23 :: u24 :: u25 :: u26 :: u27 :: u28 :: u29 :: u30 :: u31 :: u32 :: u33 :: u34 :: u35 :: u36 :: u37 :: u38 :: u39 :: u40 :: u41 :: u42 :: u43 :: u44 :: u45 :: u46 :: u47 :: u48 :: u49 :: u50 :: u51 :: u52 :: u53 :: u54 :: u55 :: u56 :: u57 :: u58 :: u59 :: u60 :: u61 :: u62 :: u63 :: u64 :: u65 :: u66 :: u67 :: u68 :: u69 :: u70 :: u71 :: u72 :: u73 :: u74 :: u75 :: u76 :: u77 :: u78 :: u79 :: u80 :: u81 :: u82 :: u83 :: u84 :: u85 :: .slice cA cn cc :: .int .i64 cn :: .int .i64 0 :: u89 :: u90 :: u91 :: u92 :: u93 :: u94 :: u95 :: u96 :: u97 :: u98 :: u99 :: u100 :: u101 :: u102 :: u103 :: u104 :: u105 :: u106 :: u107 :: u108 :: u109 :: u110 :: u111 :: u112 :: u113 :: u114 :: u115 :: u116 :: u117 :: u118 :: u119 :: u120 :: u121 :: u122 :: u123 :: u124 :: u125 :: u126 :: u127 :: u128 :: u129 :: u130 :: u131 :: u132 :: u133 :: u134 :: u135 :: u136 :: u137 :: u138 :: u139 :: u140 :: u141 :: u142 :: u143 :: u144 :: u145 :: u146 :: u147 :: u148 :: u149 :: u150 :: u151 :: u152 :: []).toArray, []⟩ w := by
  have HEX := Lib.hid hexit
  have HN := Lib.hid HL.out.len
  obtain ⟨i0, hi0, iz0, iz1, iz2⟩ := info_parts tab_info
  have HFK : Hid (∀ g, F g → ¬ KB kb base g) := Lib.hid (fun g hg h => by rcases h with h | h; exact (HF.out g hg).2 h; have := (HF.out g hg).1; omega)
  clear hexit
  conv => arg 2; whnf
  go_loopg [88, 19] cn (fun g' iv vv wz => ∃ (j : Nat) (us : List Value), g' = cn - j ∧ j ≤ cn ∧ iv = .int .i64 j ∧ KeysM wz kb (n0 + j) (ks ++ keysC l j) ∧ Lk wz base (sn + cn) F vv us (looksE start l a b (l.take j)) ∧ Chg (KB kb base) w wz)
  case atStart => exact ⟨0, us0, by omega, by omega, rfl, by simpa [keysC] using HK.out, by simpa using HLK.out, Chg.refl _ _⟩
  case round =>
    obtain ⟨j, us, hg, hj, rfl, hk, hlk, hc1⟩ := hrel
    have HG := Lib.hid hg
    have HKM := Lib.hid hk
    have HLM := Lib.hid hlk
    have HC := Lib.hid hc1
    have HML : Hid ((looksE start l a b (l.take j)).length ≤ 1048577) := Lib.hid (by
      unfold looksE
      have h1 := List.length_filter_le (fun c : CallD => decide (a ≤ c.pt ∧ c.pt < b)) (l.take j)
      have h2 : (l.take j).length ≤ j := by rw [List.length_take]; omega
      simp only [List.length_cons, List.length_map]
      omega)
    clear hg hk hlk
    by_cases hlt : j < cn
    · have hlt' : (j : Int) < (cn : Int) := by omega
      have HHr := Lib.hid (HH.out.chg hc1 (fun h => by rcases h with h | h; exact hhk h; omega))
      have HSr := Lib.hid (HS.out.chg hc1 HFK.out)
      have HLr := Lib.hid (HL.out.chg hc1 HFK.out)
      have hsz0 : w.heap.size ≤ wr.heap.size := hc1.size
      obtain ⟨g, o, c, x, hcA, hFg, hlp, hcw, hat⟩ := HLr.out.at_ hlt
      subst hcA
      have HC0 := Lib.hid hlp
      have HKL : Hid (c.key.length ≤ 1048576) := Lib.hid (HKS.out _ (List.mem_of_getElem? hlp))
      have HCW := Lib.hid hcw
      have HAT := Lib.hid hat
      clear hlp hcw hat hc1 hFg
      go_upto_region 19 with (first | (refine wpList_load_call rfl (.tmp 90) rfl rfl HAT.out ?_) | (refine wpList_store_call _ rfl (.tmp 21) (.tmp 91) rfl rfl rfl rfl ?_))
      obtain ⟨w1, hw1⟩ : ∃ W, W = wr.alloc (.cells (callCs c x) 48) := ⟨_, rfl⟩
      rw [← hw1]
      have hb1 : Below wr.heap.size wr w1 := by rw [hw1]; exact (Below.refl _ _).alloc (Nat.le_refl _) _
      have HBK : Hid (Blk w1 wr.heap.size 48 (callCs c x)) := Lib.hid (by rw [hw1]; exact Blk.new _ _ _)
      have HKM1 := Lib.hid (HKM.out.below hb1)
      have HLM1 := Lib.hid (HLM.out.below hb1)
      have HC1 := Lib.hid (HC.out.then hb1)
      have HCW1 := Lib.hid (HCW.out.below hb1)
      have HH1 := Lib.hid (HHr.out.below hb1)
      have HS1 := Lib.hid (HSr.out.below hb1)
      have HL1 := Lib.hid (HLr.out.below hb1)
      have SZ1 : Hid (w.heap.size ≤ w1.heap.size) := Lib.hid (Nat.le_trans hsz0 hb1.size)
      have x2 : w1.cell? ⟨wr.heap.size, 2, none⟩ = some (.int .i64 c.kd) := HBK.out.cell 2
      have x3 : w1.cell? ⟨wr.heap.size, 3, none⟩ = some (.slice x.kA x.kn x.kc) := HBK.out.cell 3
      have x11 : w1.cell? ⟨wr.heap.size, 11, none⟩ = some (.int .i64 c.pt) := HBK.out.cell 11
      have y0 : w1.cell? ⟨hb, 0, none⟩ = some (.slice sA sn sc) := HH1.out.cell 0
      have y1 : w1.cell? ⟨hb, 1, none⟩ = some (.slice (some ⟨g, o, none⟩) cn cc) := HH1.out.cell 1
      clear hw1 hb1
      by_cases hkd : c.kd = 2 ∨ c.kd = 3
      · have HKD := Lib.hid hkd
        have hd : decide (c.kd = 2 ∨ c.kd = 3) = true := decide_eq_true hkd
        have HD := Lib.hid hd
        have q1 := conv_any w1 _ x.kA x.kn x.kc c.key HCW1.out.kr HCW1.out.kq
        have hkl : c.key.length ≤ maxLen := by have := HKL.out; simp only [maxLen]; omega
        obtain ⟨z, hz, q2⟩ := HKM1.out.look hkl
        have hz1 : z ≤ 4194304 := by omega
        have HZ := Lib.hid hz
        clear hz hkd hd
        go_upto_region 21 with (first | (go_at_call 35; refine (write_any _ _).mono ?_; rintro e w9 ⟨rfl, rfl⟩; rw [HD.out]) | (at_mapUpdate; go_loud (refine wpList_keys_put rfl (.tmp 96) (.tmp 100) (.tmp 102) rfl rfl HKM1.out (by simp only [maxLen]; omega) c.key hkl (z + 1) (by have := HZ.out; omega) rfl (by go_num) ?_); intro w2 hk2 hc2; have HKM2 := Lib.hid hk2; have HC12 := Lib.hid hc2; clear hk2 hc2))
        have hcc := HC12.out
        have HC2 := Lib.hid (HC1.out.trans hcc (fun g _ e => .inl e))
        have HLM2 := Lib.hid (HLM1.out.chg hcc (fun g hg _ e => by have e : g = kb := e; omega) (fun g hg e => (HF.out g hg).2 e))
        have HH2 := Lib.hid (HH1.out.chg hcc (fun e => hhk e))
        have HS2 := Lib.hid (HS1.out.chg hcc (fun g hg e => (HF.out g hg).2 e))
        have HL2 := Lib.hid (HL1.out.chg hcc (fun g hg e => (HF.out g hg).2 e))
        have SZ2 : Hid (w.heap.size ≤ w2.heap.size) := Lib.hid (Nat.le_trans SZ1.out hcc.size)
        have z11 := hcc.cell (show ¬ One kb wr.heap.size from fun e => by have e : wr.heap.size = kb := e; omega) x11
        have z0 : w2.cell? ⟨hb, 0, none⟩ = some (.slice sA sn sc) := HH2.out.cell 0
        have z1 : w2.cell? ⟨hb, 1, none⟩ = some (.slice (some ⟨g, o, none⟩) cn cc) := HH2.out.cell 1
        clear x2 x3 x11 y0 y1 q1 q2 hcc
        by_cases ha : a ≤ c.pt
        · by_cases hb2 : c.pt < b
          · have hw1 := IntWalk.i64_in (c.pt + 1) (by omega)
            have HAB := Lib.hid (And.intro ha hb2)
            go_wp2_with (first | (go_at_call 32; go_loud (refine (afterT_anyF (F := F) sA _ sn sc cn cc (c.pt + 1) start l w2 HS2.out HL2.out hsn hcn HSH.out (fun g hg => by have := HF.out g hg; have := SZ2.out; omega)).mono ?_); rintro e5 w5 ⟨tb, n2, rfl, htb, hn2, ht5, _, _, _, hb5⟩; have HT5 := Lib.hid (ht5.mono (show n2 ≤ sn + cn from hn2)); have HB5 := Lib.hid hb5; have HTB := Lib.hid htb; have HLK5 := Lib.hid (HLM2.out.below hb5); have HKM5 := Lib.hid (HKM2.out.below hb5); clear ht5 hb5 htb hn2) | (at_builtin; go_loud (refine wpList_append_any _ rfl (.tmp 113) (.tmp 122) _ rfl base 53 i0 _ 1 8 Try.underlying68 hi0 iz0 iz1 iz2 rfl (by omega) u19 _ us rfl (own_below HLK5.out.own ((Below.refl _ _).alloc (Nat.le_refl _) _)) (From w5.heap.size) (some ⟨w5.heap.size, 0, none⟩) 1 1 [.map (some tb)] rfl (Rd.one w5 _ _) (by simp [Value.oneCell']) (by have := HML.out; simp only [maxLen]; omega) (by have := HML.out; omega) (by have h1 := HB5.out.size; have := SZ2.out; simp; omega) ?_); intro v6 w6 hown6 hg6 hat6; have HO6 := Lib.hid hown6; have HG6 := Lib.hid hg6; have HA6 := Lib.hid hat6; clear hown6 hg6 hat6))
            go_roundg (cn - (j + 1))
            case measure => have := HG.out; omega
            case rel =>
              obtain ⟨wa, hwa⟩ : ∃ W, W = w5.alloc (.cells #[.map (some tb)] 53) := ⟨_, rfl⟩
              have hg6 := HG6.out
              have ha6 := HA6.out
              have ho6 := HO6.out
              rw [← hwa] at hg6 ha6
              have h5 := HB5.out.size
              have hsz := SZ2.out
              have htb := HTB.out
              have hba : Below w5.heap.size w5 wa := by rw [hwa]; exact (Below.refl _ _).alloc (Nat.le_refl _) _
              have hLa := HLK5.out.below hba
              have hTa := HT5.out.below hba
              have hcg : Chg (fun g => u19.ownBlock = some g) wa w6 := Chg.of_grown hg6
              have hol : ∀ g, u19.ownBlock = some g → base ≤ g ∧ g < w2.heap.size := fun g hg => own_lt HLM2.out.own g hg
              have hne : ∀ g, KB kb base g → True := fun _ _ => trivial
              refine ⟨j + 1, us ++ [.map (some tb)], rfl, by omega, by go_num, ?_, ?_, ?_⟩
              · rw [keysC_yes HC0.out HKD.out, ← List.append_assoc]
                exact ((HKM5.out.below hba).chg hcg (fun e => by have := (hol _ e).1; omega)).mono (by omega)
              · rw [looks_yes HC0.out HAB.out]
                have hwm : w.heap.size ≤ w2.heap.size := hsz
                exact hLa.push ho6 hg6 ha6 (fun g hg => (HF.out g hg).1) (by omega) (fun e => by have := (hol _ e).2; omega) hTa
              · exact ((HC2.out.then HB5.out).then hba).trans hcg (fun g hg e => .inr ((hol g e).1))
          · have HAB := Lib.hid hb2
            have hb2' : ¬ c.pt < b := hb2
            clear hb2
            go_wp2
            go_roundg (cn - (j + 1))
            case measure => have := HG.out; omega
            case rel =>
              refine ⟨j + 1, us, rfl, by omega, by go_num, ?_, ?_, HC2.out⟩
              · rw [keysC_yes HC0.out HKD.out, ← List.append_assoc]
                exact HKM2.out.mono (by omega)
              · rw [looks_no HC0.out (fun h => by have h1 := HAB.out; have h2 := h.2; omega)]; exact HLM2.out
        · have HAB := Lib.hid ha
          have ha' : ¬ a ≤ c.pt := ha
          clear ha
          go_wp2
          go_roundg (cn - (j + 1))
          case measure => have := HG.out; omega
          case rel =>
            refine ⟨j + 1, us, rfl, by omega, by go_num, ?_, ?_, HC2.out⟩
            · rw [keysC_yes HC0.out HKD.out, ← List.append_assoc]
              exact HKM2.out.mono (by omega)
            · rw [looks_no HC0.out (fun h => by have h1 := HAB.out; have h2 := h.1; omega)]; exact HLM2.out
      · have HKD := Lib.hid hkd
        have hd : decide (c.kd = 2 ∨ c.kd = 3) = false := decide_eq_false hkd
        have HD := Lib.hid hd
        clear hkd hd
        go_upto_region 21 with (go_at_call 35; refine (write_any _ _).mono ?_; rintro e w9 ⟨rfl, rfl⟩; rw [HD.out])
        by_cases ha : a ≤ c.pt
        · by_cases hb2 : c.pt < b
          · have hw1 := IntWalk.i64_in (c.pt + 1) (by omega)
            have HAB := Lib.hid (And.intro ha hb2)
            go_wp2_with (first | (go_at_call 32; go_loud (refine (afterT_anyF (F := F) sA _ sn sc cn cc (c.pt + 1) start l w1 HS1.out HL1.out hsn hcn HSH.out (fun g hg => by have := HF.out g hg; have := SZ1.out; omega)).mono ?_); rintro e5 w5 ⟨tb, n2, rfl, htb, hn2, ht5, _, _, _, hb5⟩; have HT5 := Lib.hid (ht5.mono (show n2 ≤ sn + cn from hn2)); have HB5 := Lib.hid hb5; have HTB := Lib.hid htb; have HLK5 := Lib.hid (HLM1.out.below hb5); have HKM5 := Lib.hid (HKM1.out.below hb5); clear ht5 hb5 htb hn2) | (at_builtin; go_loud (refine wpList_append_any _ rfl (.tmp 113) (.tmp 122) _ rfl base 53 i0 _ 1 8 Try.underlying68 hi0 iz0 iz1 iz2 rfl (by omega) u19 _ us rfl (own_below HLK5.out.own ((Below.refl _ _).alloc (Nat.le_refl _) _)) (From w5.heap.size) (some ⟨w5.heap.size, 0, none⟩) 1 1 [.map (some tb)] rfl (Rd.one w5 _ _) (by simp [Value.oneCell']) (by have := HML.out; simp only [maxLen]; omega) (by have := HML.out; omega) (by have h1 := HB5.out.size; have := SZ1.out; simp; omega) ?_); intro v6 w6 hown6 hg6 hat6; have HO6 := Lib.hid hown6; have HG6 := Lib.hid hg6; have HA6 := Lib.hid hat6; clear hown6 hg6 hat6))
            go_roundg (cn - (j + 1))
            case measure => have := HG.out; omega
            case rel =>
              obtain ⟨wa, hwa⟩ : ∃ W, W = w5.alloc (.cells #[.map (some tb)] 53) := ⟨_, rfl⟩
              have hg6 := HG6.out
              have ha6 := HA6.out
              have ho6 := HO6.out
              rw [← hwa] at hg6 ha6
              have h5 := HB5.out.size
              have hsz := SZ1.out
              have htb := HTB.out
              have hba : Below w5.heap.size w5 wa := by rw [hwa]; exact (Below.refl _ _).alloc (Nat.le_refl _) _
              have hLa := HLK5.out.below hba
              have hTa := HT5.out.below hba
              have hcg : Chg (fun g => u19.ownBlock = some g) wa w6 := Chg.of_grown hg6
              have hol : ∀ g, u19.ownBlock = some g → base ≤ g ∧ g < w1.heap.size := fun g hg => own_lt HLM1.out.own g hg
              have hne : ∀ g, KB kb base g → True := fun _ _ => trivial
              refine ⟨j + 1, us ++ [.map (some tb)], rfl, by omega, by go_num, ?_, ?_, ?_⟩
              · rw [keysC_no HC0.out HKD.out]
                exact ((HKM5.out.below hba).chg hcg (fun e => by have := (hol _ e).1; omega)).mono (by omega)
              · rw [looks_yes HC0.out HAB.out]
                have hwm : w.heap.size ≤ w1.heap.size := hsz
                exact hLa.push ho6 hg6 ha6 (fun g hg => (HF.out g hg).1) (by omega) (fun e => by have := (hol _ e).2; omega) hTa
              · exact ((HC1.out.then HB5.out).then hba).trans hcg (fun g hg e => .inr ((hol g e).1))
          · have HAB := Lib.hid hb2
            have hb2' : ¬ c.pt < b := hb2
            clear hb2
            go_wp2
            go_roundg (cn - (j + 1))
            case measure => have := HG.out; omega
            case rel =>
              refine ⟨j + 1, us, rfl, by omega, by go_num, ?_, ?_, HC1.out⟩
              · rw [keysC_no HC0.out HKD.out]
                exact HKM1.out.mono (by omega)
              · rw [looks_no HC0.out (fun h => by have h1 := HAB.out; have h2 := h.2; omega)]; exact HLM1.out
        · have HAB := Lib.hid ha
          have ha' : ¬ a ≤ c.pt := ha
          clear ha
          go_wp2
          go_roundg (cn - (j + 1))
          case measure => have := HG.out; omega
          case rel =>
            refine ⟨j + 1, us, rfl, by omega, by go_num, ?_, ?_, HC1.out⟩
            · rw [keysC_no HC0.out HKD.out]
              exact HKM1.out.mono (by omega)
            · rw [looks_no HC0.out (fun h => by have h1 := HAB.out; have h2 := h.1; omega)]; exact HLM1.out
    · have hin : j = cn := by omega
      subst hin
      go_wp2
      have h1 := HKM.out
      have h2 := HLM.out
      rw [take_all HN.out] at h2
      refine HEX.out _ _ _ _ _ _ _ _ _ _ _ _ _ _ _ _ _ _ _ _ _ _ _ _ _ _ _ _ _ _ _ _ _ _ _ _ _ _ _ us _ ?_ h2 HC.out
      rw [← HN.out]; exact h1
end Go.Proofs.Ytpbnngfiinihmaa
