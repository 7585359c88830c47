/- WALKS: texts: as strings, compared, copied; keys and values that may be (document). WALKS: the document's maps: coppiceref20.put, its parts. WALKS: the document's maps: coppiceref20.put, cut, has, Map. WALKS: order.Seen's closure within, coppiceref20.in. -/
import Derived.Test.YtpbnngfiinihmaaOc01
import Derived.Test.YtpbnngfiinihmaaChecked
import Derived.Test.YtpbnngfiinihmaaOc03
import Derived.Test.YtpbnngfiinihmaaOc05
import Derived.Deep.QuietTactic
import Derived.BigQuiet
import Derived.LoopTactic
import Derived.Lib.MinMax
import Derived.Deep.RegionHeld3
import Derived.Deep.LoopGhost
import Derived.Lib.SliceRun
import Derived.Laws.BytesArg
import Derived.Test.YtpbnngfiinihmaaOc02
import Derived.Test.YtpbnngfiinihmaaOc04
import Derived.Deep.Cut
set_option linter.unusedVariables false
set_option linter.unusedSimpArgs false
namespace Go.Proofs.Ytpbnngfiinihmaa
open Go.RowKit
open Go.Lib (compareBytes)
/-- a text, as a string -/
def sOf (bs : List UInt8) : ByteArray := ⟨bs.toArray⟩
set_option maxRecDepth 100000 in
theorem conv_any (w : World) (F : Nat → Prop) (A : Option Addr) (n c : Nat) (bs : List UInt8) (h : Rd w F 1 A n (bvs bs)) (hn : n = bs.length) :
    (convert 36 9 (.slice A n c)).run Try.prog w = .ok (.string (sOf bs)) w := by
  cases A with
  | none =>
    have h0 : n = 0 := by
      rcases Nat.eq_zero_or_pos n with h0 | h0
      · exact h0
      · obtain ⟨_, _, e, _⟩ := h.2 h0; cases e
    subst h0
    have hb : bs = [] := List.eq_nil_of_length_eq_zero hn.symm
    subst hb
    exact run_convert_bytes_nil w 36 5 Try.underlying36 Try.underlying5 0 c _ Try.underlying9
  | some a =>
    rcases Nat.eq_zero_or_pos n with h0 | h0
    · subst h0
      have hb : bs = [] := List.eq_nil_of_length_eq_zero hn.symm
      subst hb
      rw [run_convert_bytes_string w 36 9 5 (some a) 0 c Try.underlying36 Try.underlying5 Try.underlying9]
      have hl : (loadCells a 0).run Try.prog w = .ok (([] : List Int).map (Value.int .u8)).toArray w := run_loadCells_list (P := Try.prog) w a [] (fun j v hj => by simp at hj)
      exact (run_bytesToString w a 0 c [] hl).trans (by rw [foldl_push_bytes]; simp only [sOf, ByteArray.empty, ByteArray.emptyWithCapacity]; congr 2)
    · obtain ⟨b, o, e, _, hc⟩ := h.2 h0
      injection e with e
      subst e
      have hk := run_convert_bytes_arg (P := Try.prog) w 36 5 Try.underlying36 Try.underlying5 b o n c (bs.map fun x => (x.toNat : Int)) (by simp [hn]) (fun i hi => by
        have hl : i < bs.length := by omega
        rw [hc i (bv bs[i]) (by simp [bvs, List.getElem?_eq_getElem hl])]
        simp [bv, List.getD, List.getElem?_eq_getElem hl]) _ Try.underlying9
      rw [hk]
      congr 2
      simp [strOfNums, sOf, Function.comp_def]
theorem compare_any (A B : Option Addr) (n m c d : Nat) (F G : Nat → Prop) (xs ys : List UInt8) (w : World) (h : Rd w F 1 A n (bvs xs)) (hn : n = xs.length) (k : Rd w G 1 B m (bvs ys)) (hm : m = ys.length) :
    Calls Try.prog 34 #[.slice A n c, .slice B m d] w fun e w' => e = .returned (.int .i64 (Lib.compareBytes xs ys)) ∧ w = w' := by
  have hl : (callFunc 54 #[.slice A n c, .slice B m d]).run Try.prog w = .ok (.value (.int .i64 (Lib.compareBytes xs ys))) w := by
    rw [run_callFunc_extern Try.func54 (by kernel_rfl) (by kernel_rfl) (by kernel_rfl) (e := Extern.BytealgCompare.compare) (by kernel_rfl), run_compareSlices h hn k hm]
    rfl
  clear h k hn hm
  go_enter Try.func34, Try.ntmps34
  go_wp2
  go_ret
  exact ⟨rfl, rfl⟩
theorem u8_info : (Try.prog.info? 5).map (fun i => (i.zero, i.size, i.bytes)) = some (some (.int .u8 0), 1, 1) := by kernel_rfl
/-- the answer is a text in new memory -/
def NewText (w : World) (bs : List UInt8) (e : Ending) (w' : World) : Prop :=
  ∃ A n c, e = .returned (.slice A n c) ∧ n ≤ c ∧ c ≤ maxLen ∧ Hid (n = bs.length) ∧ Rd w' (Soft (From w.heap.size) w') 1 A n (bvs bs) ∧ Below w.heap.size w w'

set_option maxRecDepth 100000 in
theorem clone_any (A : Option Addr) (n c : Nat) (F : Nat → Prop) (bs : List UInt8) (w : World) (h : Rd w F 1 A n (bvs bs)) (hn : n = bs.length) (hn2 : n ≤ 1152921504606) :
    Calls Try.prog 49 #[.slice A n c] w (NewText w bs) := by
  obtain ⟨i0, hi0, hz0, hz1, hz2⟩ := info_parts u8_info
  have hq := fun (w : World) (a : Option Addr) (n c : Nat) => Lib.run_eql_slice_nil (P := Try.prog) w 36 5 a n c 0 0 Try.underlying36
  cases A with
  | none =>
    have h0 : n = 0 := by
      rcases Nat.eq_zero_or_pos n with h0 | h0
      · exact h0
      · obtain ⟨_, _, e, _⟩ := h.2 h0; cases e
    subst h0
    have hb : bs = [] := List.eq_nil_of_length_eq_zero hn.symm
    subst hb
    clear hn h
    go_enter Try.func49, Try.ntmps49
    go_wp2
    go_ret
    exact ⟨none, 0, 0, rfl, Nat.le_refl _, by simp [maxLen], rfl, Rd.none_ _ _ _ _, Below.refl _ _⟩
  | some a =>
    have HN := Lib.hid hn
    clear hn
    go_enter Try.func49, Try.ntmps49
    go_wp2_with (at_builtin; refine wpList_append_any _ rfl (.tmp 5) (.tmp 6) _ rfl w.heap.size 5 i0 _ 1 1 Try.underlying36 hi0 hz0 hz1 hz2 rfl (by omega) (.slice (some ⟨w.heap.size, 0, none⟩) 0 0) 0 [] rfl (own_made w _ 1) F (some a) n c (bvs bs) rfl (h.alloc _) (bvs_one bs) (by simp only [maxLen]; omega) (by omega) (by simp) ?_; intro v1 w1 hown1 hg1 hat1)
    go_ret
    simp only [Nat.zero_add, List.nil_append] at hown1
    obtain ⟨A', c', hv, h1, h2⟩ := own_val hown1
    rw [hv] at hown1
    refine ⟨A', n, c', by rw [hv]; rfl, h1, h2, HN.out, Rd.soft_of_own hown1, ((Below.refl _ _).alloc (Nat.le_refl _) _).grown hg1 (by simp) (fun k hk => ?_)⟩
    simp [Value.ownBlock] at hk; omega

theorem sOf_list (a : List UInt8) : (sOf a).toList = a := by rw [ByteArray.toList_eq]; simp [sOf]
theorem sOf_eq {a b : List UInt8} : ((sOf a).toList == (sOf b).toList) = decide (a = b) := by
  rw [sOf_list, sOf_list]
  by_cases h : a = b <;> simp [h]
theorem ret_int {k : IntKind} {a b : Int} (h : a = b) : Ending.returned (.int k a) = .returned (.int k b) := by rw [h]
set_option maxRecDepth 100000 in
theorem equal_any (F G : Nat → Prop) (A B : Option Addr) (n c m d : Nat) (xs ys : List UInt8) (w : World) (h : Rd w F 1 A n (bvs xs)) (hn : n = xs.length) (k : Rd w G 1 B m (bvs ys)) (hm : m = ys.length) :
    Calls Try.prog 27 #[.slice A n c, .slice B m d] w fun e w' => e = .returned (.bool (decide (xs = ys))) ∧ w = w' := by
  have q1 := conv_any w F A n c xs h hn
  have q2 := conv_any w G B m d ys k hm
  have q3 := sOf_eq (a := xs) (b := ys)
  clear h k hn hm
  go_enter Try.func27, Try.ntmps27
  go_wp2
  go_ret
  exact ⟨rfl, rfl⟩
set_option maxRecDepth 100000 in
set_option maxHeartbeats 2000000 in
theorem rcmp_any (A B : Option Addr) (n m c d : Nat) (F G : Nat → Prop) (xs ys : List UInt8) (w : World) (h : Rd w F 1 A n (bvs xs)) (hn : n = xs.length) (k : Rd w G 1 B m (bvs ys)) (hm : m = ys.length) (hn2 : n ≤ 1152921504606) (hm2 : m ≤ 1152921504606) :
    Calls Try.prog 39 #[.slice A n c, .slice B m d] w fun e w' => e = .returned (.int .i64 (compareBytes xs ys)) ∧ ∃ q, w' = w.drewN q := by
  have hl := comm_le xs ys
  have HCC := Lib.hid (cmpC_eq xs ys)
  have HO := Lib.hid (comm_other xs ys)
  have HSM := Lib.hid (comm_same xs ys)
  obtain ⟨q, hq⟩ : ∃ q, q = comm xs ys := ⟨_, rfl⟩
  have HQ := Lib.hid hq
  have hqn : q ≤ n := by omega
  have hqm : q ≤ m := by omega
  have HN := Lib.hid hn
  have HM := Lib.hid hm
  have HA := Lib.hid h
  have HB := Lib.hid k
  clear hn hm h k hq hl
  have hans : ∀ z : Int, (z = if q = n then (if q = m then 0 else -1) else if q = m then 1 else if xs.getD q 0 < ys.getD q 0 then -1 else 1) → z = compareBytes xs ys := fun z hz => by
    rw [HCC.out, hz]; unfold cmpC; rw [← HQ.out, ← HN.out, ← HM.out]
    by_cases e1 : q = n <;> by_cases e2 : q = m <;> simp [e1, e2] <;> omega
  have HANS := Lib.hid hans
  clear hans
  go_enter Try.func39, Try.ntmps39
  go_wp2
  go_loopg [5] n (fun g' iv wz => ∃ (i r : Nat), g' = n - i ∧ i ≤ q ∧ iv = .int .i64 i ∧ wz = w.drewN r)
  case atStart => exact ⟨0, 0, by omega, by omega, rfl, rfl⟩
  case round =>
    obtain ⟨i, r, hg, hi, rfl, rfl⟩ := hrel
    have HG := Lib.hid hg
    clear hg
    by_cases h1 : i < n
    · by_cases h2 : i < m
      · obtain ⟨b1, o1, u1, rfl, _, hx, hcx⟩ := HA.out.at_ h1
        obtain ⟨b2, o2, u2, rfl, _, hy, hcy⟩ := HB.out.at_ h2
        obtain ⟨x, hx2, rfl⟩ := bvs_at hx
        obtain ⟨y, hy2, rfl⟩ := bvs_at hy
        have HX := Lib.hid hx2
        have HY := Lib.hid hy2
        clear hx hy hx2 hy2
        simp only [bv] at hcx hcy
        by_cases e : i < q
        · have hxy : x = y := by have h := HSM.out i (by rw [← HQ.out]; exact e); rw [HX.out, HY.out] at h; injection h
          subst hxy
          go_wp2_with fail
          go_quiet (fail)
          go_wp2
          go_quiet (fail)
          go_wp2
          go_roundg (n - (i + 1))
          case measure => have := HG.out; omega
          case rel => exact ⟨i + 1, _, rfl, by omega, by go_num, rfl⟩
        · have hiq : i = q := by omega
          have hne : x ≠ y := fun e => by
            subst e
            have := HO.out (by rw [← HQ.out, ← HN.out, ← hiq]; exact h1) (by rw [← HQ.out, ← HM.out, ← hiq]; exact h2)
            rw [← HQ.out, ← hiq, HX.out, HY.out] at this
            exact this rfl
          have HZ : Hid ((if x < y then (-1 : Int) else 1) = compareBytes xs ys) := Lib.hid (HANS.out _ (by
            rw [if_neg (show ¬ q = n by omega), if_neg (show ¬ q = m by omega), ← hiq]
            simp only [List.getD, HX.out, HY.out, Option.getD_some]))
          have HIQ := Lib.hid hiq
          clear e hiq
          by_cases hlt : x < y
          · have hlt2 : (x.toNat : Int) < (y.toNat : Int) := by have := UInt8.lt_iff_toNat_lt.1 hlt; omega
            have HL := Lib.hid hlt
            clear hlt
            go_wp2_with fail
            go_quiet (fail)
            go_wp2
            go_ret
            exact ⟨ret_int (by rw [← HZ.out, if_pos HL.out]), _, World.drewN_drewN ..⟩
          · have hlt2 : (y.toNat : Int) < (x.toNat : Int) := by
              have h1 : ¬ x.toNat < y.toNat := fun h => hlt (UInt8.lt_iff_toNat_lt.2 h)
              have h2 : x.toNat ≠ y.toNat := fun h => hne (UInt8.toNat.inj h)
              omega
            have HL := Lib.hid hlt
            clear hlt hne
            go_wp2_with fail
            go_quiet (fail)
            go_wp2
            go_quiet (fail)
            go_wp2
            go_ret
            exact ⟨ret_int (by rw [← HZ.out, if_neg HL.out]), _, by rw [World.drewN_drewN, World.drewN_drewN]⟩
      · have hmq : q = m := by omega
        have hmn : m < n := by omega
        have HZ : Hid ((1 : Int) = compareBytes xs ys) := Lib.hid (HANS.out _ (by rw [if_neg (show ¬ q = n by omega), if_pos hmq]))
        have HMQ := Lib.hid hmq
        clear hmq
        go_wp2
        go_ret
        exact ⟨ret_int HZ.out, _, rfl⟩
    · have hnq : q = n := by omega
      have HNQ := Lib.hid hnq
      have hnm : n ≤ m := by omega
      by_cases hnm2 : n < m
      · have HZ : Hid ((-1 : Int) = compareBytes xs ys) := Lib.hid (HANS.out _ (by rw [if_pos hnq, if_neg (show ¬ q = m by omega)]))
        clear hnq
        go_wp2
        go_ret
        exact ⟨ret_int HZ.out, _, rfl⟩
      · have HZ : Hid ((0 : Int) = compareBytes xs ys) := Lib.hid (HANS.out _ (by rw [if_pos hnq, if_pos (show q = m by omega)]))
        clear hnq
        go_wp2
        go_ret
        exact ⟨ret_int HZ.out, _, rfl⟩
/-- so many bytes a key may have -/
def keyN (n : Nat) : Prop := 1 ≤ n ∧ n ≤ 64
instance (n : Nat) : Decidable (keyN n) := inferInstanceAs (Decidable (_ ∧ _))
set_option maxRecDepth 100000 in
theorem rkey_any (A : Option Addr) (n c : Nat) (w : World) : Calls Try.prog 62 #[.slice A n c] w fun e w' => e = .returned (.bool (decide (keyN n))) ∧ w = w' := by
  go_enter Try.func62, Try.ntmps62
  go_wp2
  all_goals (go_ret; exact ⟨ret_bool (by simp [keyN] <;> omega), rfl⟩)
set_option maxRecDepth 100000 in
theorem rvalue_any (A : Option Addr) (n c : Nat) (w : World) : Calls Try.prog 63 #[.slice A n c] w fun e w' => e = .returned (.bool (decide (n ≤ 256))) ∧ w = w' := by
  go_enter Try.func63, Try.ntmps63
  go_wp2
  go_ret
  exact ⟨ret_bool (by simp <;> omega), rfl⟩
end Go.Proofs.Ytpbnngfiinihmaa

namespace Go.Proofs.Ytpbnngfiinihmaa
open Go.RowKit
open Go.Lib (compareBytes)
theorem entry_info : (Try.prog.info? 38).map (fun i => (i.zero, i.size, i.bytes)) = some (some (.agg #[.slice none 0 0, .slice none 0 0]), 2, 48) := by kernel_rfl
/-- entries one behind the other, in a row of their own; their texts lie below base -/
structure Eo (w : World) (base : Nat) (out : Value) (us : List Value) (l : List Ent) : Prop where
  own : w.ownsRow base 38 2 out l.length us
  tx : ∀ (i : Nat) (e : Ent), l[i]? = some e → ∃ u v, us[2 * i]? = some u ∧ us[2 * i + 1]? = some v ∧ SB w (Under base) u e.1 ∧ SB w (Under base) v e.2
section
variable {S : Nat → Prop} {w w' : World} {base : Nat} {out : Value} {us : List Value} {l : List Ent}
theorem Eo.nil (w : World) (base : Nat) : Eo w base (.slice none 0 0) [] [] := ⟨World.ownsRow_nil _ _ _ _, fun i e h => by simp at h⟩
theorem Eo.below (h : Eo w base out us l) (hb : Below w.heap.size w w') : Eo w' base out us l :=
  ⟨own_below h.own hb, fun i e he => let ⟨u, v, a, b, c, d⟩ := h.tx i e he; ⟨u, v, a, b, c.below hb, d.below hb⟩⟩
theorem Eo.push {v2 u v : Value} {e : Ent} (h : Eo w base out us l) (ho : w'.ownsRow base 38 2 v2 (l.length + 1) (us ++ [u, v])) (hc : Below base w w')
    (hu : SB w (Under base) u e.1) (hv : SB w (Under base) v e.2) : Eo w' base v2 (us ++ [u, v]) (l ++ [e]) := by
  have hl : us.length = l.length * 2 := h.own.1
  have nx : ∀ {x : Value} {bs : List UInt8}, SB w (Under base) x bs → SB w' (Under base) x bs := fun hx => hx.chg (S := fun b => base ≤ b) (Chg.of_below_ hc (fun b _ hb => hb)) (fun b (hb : b < base) (h2 : base ≤ b) => by omega)
  refine ⟨by rw [List.length_append]; exact ho, fun i e' hi => ?_⟩
  rcases Nat.lt_or_ge i l.length with h1 | h1
  · rw [List.getElem?_append_left h1] at hi
    obtain ⟨x, y, a, b, s1, s2⟩ := h.tx i e' hi
    exact ⟨x, y, by rw [List.getElem?_append_left (by omega)]; exact a, by rw [List.getElem?_append_left (by omega)]; exact b, nx s1, nx s2⟩
  · rw [List.getElem?_append_right h1] at hi
    have hi0 : i = l.length := by have := (List.getElem?_eq_some_iff.1 hi).1; simp at this; omega
    subst hi0
    simp at hi
    subst hi
    refine ⟨u, v, ?_, ?_, nx hu, nx hv⟩
    · rw [List.getElem?_append_right (by omega), show 2 * l.length - us.length = 0 by omega]; rfl
    · rw [List.getElem?_append_right (by omega), show 2 * l.length + 1 - us.length = 1 by omega]; rfl
theorem Eo.ents {A : Option Addr} {n c : Nat} (h : Eo w base (.slice A n c) us l) (hn : n = l.length) : Ents w (fun _ => True) A n l := by
  subst hn
  exact ⟨Lib.hid rfl, us, (Rd.of_own h.own).weak (fun _ _ => trivial), fun i e he => let ⟨u, v, a, b, s1, s2⟩ := h.tx i e he; ⟨u, v, a, b, s1.weak (fun _ _ => trivial), s2.weak (fun _ _ => trivial)⟩⟩
end
theorem Rd.two (w : World) (u v : Value) (t : TypeId) : Rd (w.alloc (.cells #[u, v] t)) (From w.heap.size) 2 (some ⟨w.heap.size, 0, none⟩) 1 [u, v] :=
  ⟨rfl, fun _ => ⟨w.heap.size, 0, rfl, Nat.le_refl _, fun j x hj => by
    rw [(Blk.new w t #[u, v]).cell]
    match j, hj with
    | 0, hj => simpa using hj
    | 1, hj => simpa using hj⟩⟩
/-- the place of an entry's two cells -/
def EntAt (w : World) (b o : Nat) (u v : Value) : Prop := w.cell? ⟨b, o, none⟩ = some u ∧ w.cell? ⟨b, o + 1, none⟩ = some v
noncomputable def p8C : Code := codeOr (Try.f50.body.bind (regionAt 8))
set_option maxRecDepth 100000 in
set_option maxHeartbeats 4000000 in
theorem p8_app (base q : Nat) (out : Value) (us : List Value) (l : List Ent) (e : Ent) (kA vA : Option Addr) (kn kc vn vc : Nat) (w : World) {u0 u1 u2 u4 u6 u7 u8 u9 u10 u11 u12 u13 u14 u15 u16 u17 u18 u19 u20 u21 u22 u23 u24 u25 u26 u27 u28 u29 u30 u31 u32 u33 u34 u35 u36 u37 u38 u39 u40 u41 u42 u43 u44 u45 u46 u47 u48 : Value} (Q : Exit → Act → World → Prop)
    (HE : Hid (Eo w base out us l)) (hl : l.length ≤ 1152921504606) (hbase : base ≤ w.heap.size) (c1 : w.cell? ⟨q, 0, none⟩ = some (.slice kA kn kc)) (c2 : w.cell? ⟨q, 1, none⟩ = some (.slice vA vn vc))
    (HK : Hid (SB w (Under base) (.slice kA kn kc) e.1)) (HV : Hid (SB w (Under base) (.slice vA vn vc) e.2))
    (hexit : ∀ (v29 v30 v31 v32 : Value) (out2 : Value) (us2 : List Value) (w' : World), Eo w' base out2 us2 (l ++ [e]) → Below base w w' → Q .normal ⟨(u0 :: u1 :: u2 :: .pointer (some ⟨q, 0, none⟩) :: u4 :: out2 :: u6 :: u7 :: u8 :: u9 :: u10 :: u11 :: u12 :: u13 :: u14 :: u15 :: u16 :: u17 :: u18 :: u19 :: u20 :: u21 :: u22 :: u23 :: u24 :: u25 :: u26 :: u27 :: u28 :: v29 :: v30 :: v31 :: v32 :: u33 :: u34 :: u35 :: u36 :: u37 :: u38 :: u39 :: u40 :: u41 :: u42 :: u43 :: u44 :: u45 :: u46 :: u47 :: u48 :: []).toArray, []⟩ w') :
    Code.wp Try.prog p8C Q ⟨(u0 :: u1 :: u2 :: .pointer (some ⟨q, 0, none⟩) :: u4 :: out :: u6 :: u7 :: u8 :: u9 :: u10 :: u11 :: u12 :: u13 :: u14 :: u15 :: u16 :: u17 :: u18 :: u19 :: u20 :: u21 :: u22 :: u23 :: u24 :: u25 :: u26 :: u27 :: u28 :: u29 :: u30 :: u31 :: u32 :: u33 :: u34 :: u35 :: u36 :: u37 :: u38 :: u39 :: u40 :: u41 :: u42 :: u43 :: u44 :: u45 :: u46 :: u47 :: u48 :: []).toArray, []⟩ w := by
  have HEX := Lib.hid hexit
  obtain ⟨A, c2, hA, hA1, hA2⟩ := own_val HE.out.own
  subst hA
  obtain ⟨i0, hi0, iz0, iz1, iz2⟩ := info_parts entry_info
  clear hexit
  conv => arg 2; whnf
  go_wp2_with (at_builtin; go_loud (refine wpList_append_any _ rfl (.tmp 29) (.tmp 31) _ rfl base 38 i0 _ 2 48 Try.underlying27 hi0 iz0 iz1 iz2 rfl (by omega) (.slice A l.length c2) l.length us rfl (own_below HE.out.own ((Below.refl _ _).alloc (Nat.le_refl _) _)) (From w.heap.size) (some ⟨w.heap.size, 0, none⟩) 1 1 [.slice kA kn kc, .slice vA vn vc] rfl (Rd.two w (.slice kA kn kc) (.slice vA vn vc) 38) (by simp [Value.oneCell']) (by simp only [maxLen]; omega) (by omega) (by simp; omega) ?_); intro v6 w6 hown6 hg6 hat6; have HO6 := Lib.hid hown6; have HG6 := Lib.hid ((Chg.refl (fun b => (Value.slice A l.length c2).ownBlock = some b) _).grown hg6 (fun _ hk _ => hk)); clear hown6 hg6 hat6)
  have hb1 : Below base w (w.alloc (.cells #[.slice kA kn kc, .slice vA vn vc] 38)) := (Below.refl _ _).alloc hbase _
  have hob : ∀ g, (Value.slice A l.length c2).ownBlock = some g → base ≤ g := fun g hg => (own_lt HE.out.own g hg).1
  have hb2 : Below base w w6 := hb1.trans (HG6.out.below_of (by simp; omega) (fun b hb e => by have := hob _ e; omega))
  exact HEX.out _ _ _ _ _ _ _ (HE.out.push HO6.out hb2 HK.out HV.out) hb2
noncomputable def p13C : Code := codeOr (Try.f50.body.bind (regionAt 13))
set_option maxRecDepth 100000 in
set_option maxHeartbeats 4000000 in
theorem p13_app (base q : Nat) (out : Value) (us : List Value) (l : List Ent) (e : Ent) (kA vA : Option Addr) (kn kc vn vc : Nat) (w : World) {u0 u1 u2 u4 u6 u7 u8 u9 u10 u11 u12 u13 u14 u15 u16 u17 u18 u19 u20 u21 u22 u23 u24 u25 u26 u27 u28 u29 u30 u31 u32 u33 u34 u35 u36 u37 u38 u39 u40 u41 u42 u43 u44 u45 u46 u47 u48 : Value} (Q : Exit → Act → World → Prop)
    (HE : Hid (Eo w base out us l)) (hl : l.length ≤ 1152921504606) (hbase : base ≤ w.heap.size) (c1 : w.cell? ⟨q, 0, none⟩ = some (.slice kA kn kc)) (c2 : w.cell? ⟨q, 1, none⟩ = some (.slice vA vn vc))
    (HK : Hid (SB w (Under base) (.slice kA kn kc) e.1)) (HV : Hid (SB w (Under base) (.slice vA vn vc) e.2))
    (hexit : ∀ (v44 v45 v46 v47 : Value) (out2 : Value) (us2 : List Value) (w' : World), Eo w' base out2 us2 (l ++ [e]) → Below base w w' → Q .normal ⟨(u0 :: u1 :: u2 :: .pointer (some ⟨q, 0, none⟩) :: u4 :: out2 :: u6 :: u7 :: u8 :: u9 :: u10 :: u11 :: u12 :: u13 :: u14 :: u15 :: u16 :: u17 :: u18 :: u19 :: u20 :: u21 :: u22 :: u23 :: u24 :: u25 :: u26 :: u27 :: u28 :: u29 :: u30 :: u31 :: u32 :: u33 :: u34 :: u35 :: u36 :: u37 :: u38 :: u39 :: u40 :: u41 :: u42 :: u43 :: v44 :: v45 :: v46 :: v47 :: u48 :: []).toArray, []⟩ w') :
    Code.wp Try.prog p13C Q ⟨(u0 :: u1 :: u2 :: .pointer (some ⟨q, 0, none⟩) :: u4 :: out :: u6 :: u7 :: u8 :: u9 :: u10 :: u11 :: u12 :: u13 :: u14 :: u15 :: u16 :: u17 :: u18 :: u19 :: u20 :: u21 :: u22 :: u23 :: u24 :: u25 :: u26 :: u27 :: u28 :: u29 :: u30 :: u31 :: u32 :: u33 :: u34 :: u35 :: u36 :: u37 :: u38 :: u39 :: u40 :: u41 :: u42 :: u43 :: u44 :: u45 :: u46 :: u47 :: u48 :: []).toArray, []⟩ w := by
  have HEX := Lib.hid hexit
  obtain ⟨A, c2, hA, hA1, hA2⟩ := own_val HE.out.own
  subst hA
  obtain ⟨i0, hi0, iz0, iz1, iz2⟩ := info_parts entry_info
  clear hexit
  conv => arg 2; whnf
  go_wp2_with (at_builtin; go_loud (refine wpList_append_any _ rfl (.tmp 44) (.tmp 46) _ rfl base 38 i0 _ 2 48 Try.underlying27 hi0 iz0 iz1 iz2 rfl (by omega) (.slice A l.length c2) l.length us rfl (own_below HE.out.own ((Below.refl _ _).alloc (Nat.le_refl _) _)) (From w.heap.size) (some ⟨w.heap.size, 0, none⟩) 1 1 [.slice kA kn kc, .slice vA vn vc] rfl (Rd.two w (.slice kA kn kc) (.slice vA vn vc) 38) (by simp [Value.oneCell']) (by simp only [maxLen]; omega) (by omega) (by simp; omega) ?_); intro v6 w6 hown6 hg6 hat6; have HO6 := Lib.hid hown6; have HG6 := Lib.hid ((Chg.refl (fun b => (Value.slice A l.length c2).ownBlock = some b) _).grown hg6 (fun _ hk _ => hk)); clear hown6 hg6 hat6)
  have hb1 : Below base w (w.alloc (.cells #[.slice kA kn kc, .slice vA vn vc] 38)) := (Below.refl _ _).alloc hbase _
  have hob : ∀ g, (Value.slice A l.length c2).ownBlock = some g → base ≤ g := fun g hg => (own_lt HE.out.own g hg).1
  have hb2 : Below base w w6 := hb1.trans (HG6.out.below_of (by simp; omega) (fun b hb e => by have := hob _ e; omega))
  exact HEX.out _ _ _ _ _ _ _ (HE.out.push HO6.out hb2 HK.out HV.out) hb2
noncomputable def p11C : Code := codeOr (Try.f50.body.bind (regionAt 11))
set_option maxRecDepth 100000 in
set_option maxHeartbeats 4000000 in
theorem p11_app (base b o n c i : Nat) (out : Value) (us : List Value) (l : List Ent) (e : Ent) (kA vA : Option Addr) (kn kc vn vc : Nat) (w : World) {u1 u2 u3 u4 u6 u8 u9 u10 u11 u12 u13 u14 u15 u16 u17 u18 u19 u20 u21 u22 u23 u24 u25 u26 u27 u28 u29 u30 u31 u32 u33 u34 u35 u36 u37 u38 u39 u40 u41 u42 u43 u44 u45 u46 u47 u48 : Value} (Q : Exit → Act → World → Prop)
    (HE : Hid (Eo w base out us l)) (hl : l.length ≤ 1152921504606) (hbase : base ≤ w.heap.size) (hi : i < n) (hn : n ≤ 1152921504606) (c1 : w.cell? ⟨b, o + i * 2, none⟩ = some (.slice kA kn kc)) (c2 : w.cell? ⟨b, o + i * 2 + 1, none⟩ = some (.slice vA vn vc))
    (HK : Hid (SB w (Under base) (.slice kA kn kc) e.1)) (HV : Hid (SB w (Under base) (.slice vA vn vc) e.2))
    (hexit : ∀ (v35 v36 v37 v38 v39 v40 v41 : Value) (out2 : Value) (us2 : List Value) (w' : World), Eo w' base out2 us2 (l ++ [e]) → Below base w w' → Q .normal ⟨(.slice (some ⟨b, o, none⟩) n c :: u1 :: u2 :: u3 :: u4 :: out2 :: u6 :: .int .i64 i :: u8 :: u9 :: u10 :: u11 :: u12 :: u13 :: u14 :: u15 :: u16 :: u17 :: u18 :: u19 :: u20 :: u21 :: u22 :: u23 :: u24 :: u25 :: u26 :: u27 :: u28 :: u29 :: u30 :: u31 :: u32 :: u33 :: u34 :: v35 :: v36 :: v37 :: v38 :: v39 :: v40 :: v41 :: u42 :: u43 :: u44 :: u45 :: u46 :: u47 :: u48 :: []).toArray, []⟩ w') :
    Code.wp Try.prog p11C Q ⟨(.slice (some ⟨b, o, none⟩) n c :: u1 :: u2 :: u3 :: u4 :: out :: u6 :: .int .i64 i :: u8 :: u9 :: u10 :: u11 :: u12 :: u13 :: u14 :: u15 :: u16 :: u17 :: u18 :: u19 :: u20 :: u21 :: u22 :: u23 :: u24 :: u25 :: u26 :: u27 :: u28 :: u29 :: u30 :: u31 :: u32 :: u33 :: u34 :: u35 :: u36 :: u37 :: u38 :: u39 :: u40 :: u41 :: u42 :: u43 :: u44 :: u45 :: u46 :: u47 :: u48 :: []).toArray, []⟩ w := by
  have HEX := Lib.hid hexit
  obtain ⟨A, c2, hA, hA1, hA2⟩ := own_val HE.out.own
  subst hA
  obtain ⟨i0, hi0, iz0, iz1, iz2⟩ := info_parts entry_info
  clear hexit
  conv => arg 2; whnf
  go_wp2_with (at_builtin; go_loud (refine wpList_append_any _ rfl (.tmp 35) (.tmp 40) _ rfl base 38 i0 _ 2 48 Try.underlying27 hi0 iz0 iz1 iz2 rfl (by omega) (.slice A l.length c2) l.length us rfl (own_below HE.out.own ((Below.refl _ _).alloc (Nat.le_refl _) _)) (From w.heap.size) (some ⟨w.heap.size, 0, none⟩) 1 1 [.slice kA kn kc, .slice vA vn vc] rfl (Rd.two w (.slice kA kn kc) (.slice vA vn vc) 38) (by simp [Value.oneCell']) (by simp only [maxLen]; omega) (by omega) (by simp; omega) ?_); intro v6 w6 hown6 hg6 hat6; have HO6 := Lib.hid hown6; have HG6 := Lib.hid ((Chg.refl (fun b => (Value.slice A l.length c2).ownBlock = some b) _).grown hg6 (fun _ hk _ => hk)); clear hown6 hg6 hat6)
  have hb1 : Below base w (w.alloc (.cells #[.slice kA kn kc, .slice vA vn vc] 38)) := (Below.refl _ _).alloc hbase _
  have hob : ∀ g, (Value.slice A l.length c2).ownBlock = some g → base ≤ g := fun g hg => (own_lt HE.out.own g hg).1
  have hb2 : Below base w w6 := hb1.trans (HG6.out.below_of (by simp; omega) (fun b hb e => by have := hob _ e; omega))
  exact HEX.out _ _ _ _ _ _ _ _ _ _ (HE.out.push HO6.out hb2 HK.out HV.out) hb2
noncomputable def c6C : Code := codeOr (Try.f53.body.bind (regionAt 6))
set_option maxRecDepth 100000 in
set_option maxHeartbeats 4000000 in
theorem c6_app (base b o n c i : Nat) (out : Value) (us : List Value) (l : List Ent) (e : Ent) (kA vA : Option Addr) (kn kc vn vc : Nat) (w : World) {u1 u2 u3 u4 u7 u8 u9 u10 u11 u12 u13 u14 u15 u16 u17 u18 u19 u20 u21 u22 u23 u24 u25 u26 u27 u28 u29 : Value} (Q : Exit → Act → World → Prop)
    (HE : Hid (Eo w base out us l)) (hl : l.length ≤ 1152921504606) (hbase : base ≤ w.heap.size) (hi : i < n) (hn : n ≤ 1152921504606) (c1 : w.cell? ⟨b, o + i * 2, none⟩ = some (.slice kA kn kc)) (c2 : w.cell? ⟨b, o + i * 2 + 1, none⟩ = some (.slice vA vn vc))
    (HK : Hid (SB w (Under base) (.slice kA kn kc) e.1)) (HV : Hid (SB w (Under base) (.slice vA vn vc) e.2))
    (hexit : ∀ (v22 v23 v24 v25 v26 v27 v28 : Value) (out2 : Value) (us2 : List Value) (w' : World), Eo w' base out2 us2 (l ++ [e]) → Below base w w' → Q .normal ⟨(.slice (some ⟨b, o, none⟩) n c :: u1 :: u2 :: u3 :: u4 :: out2 :: .int .i64 i :: u7 :: u8 :: u9 :: u10 :: u11 :: u12 :: u13 :: u14 :: u15 :: u16 :: u17 :: u18 :: u19 :: u20 :: u21 :: v22 :: v23 :: v24 :: v25 :: v26 :: v27 :: v28 :: u29 :: []).toArray, []⟩ w') :
    Code.wp Try.prog c6C Q ⟨(.slice (some ⟨b, o, none⟩) n c :: u1 :: u2 :: u3 :: u4 :: out :: .int .i64 i :: u7 :: u8 :: u9 :: u10 :: u11 :: u12 :: u13 :: u14 :: u15 :: u16 :: u17 :: u18 :: u19 :: u20 :: u21 :: u22 :: u23 :: u24 :: u25 :: u26 :: u27 :: u28 :: u29 :: []).toArray, []⟩ w := by
  have HEX := Lib.hid hexit
  obtain ⟨A, c2, hA, hA1, hA2⟩ := own_val HE.out.own
  subst hA
  obtain ⟨i0, hi0, iz0, iz1, iz2⟩ := info_parts entry_info
  clear hexit
  conv => arg 2; whnf
  go_wp2_with (at_builtin; go_loud (refine wpList_append_any _ rfl (.tmp 22) (.tmp 27) _ rfl base 38 i0 _ 2 48 Try.underlying27 hi0 iz0 iz1 iz2 rfl (by omega) (.slice A l.length c2) l.length us rfl (own_below HE.out.own ((Below.refl _ _).alloc (Nat.le_refl _) _)) (From w.heap.size) (some ⟨w.heap.size, 0, none⟩) 1 1 [.slice kA kn kc, .slice vA vn vc] rfl (Rd.two w (.slice kA kn kc) (.slice vA vn vc) 38) (by simp [Value.oneCell']) (by simp only [maxLen]; omega) (by omega) (by simp; omega) ?_); intro v6 w6 hown6 hg6 hat6; have HO6 := Lib.hid hown6; have HG6 := Lib.hid ((Chg.refl (fun b => (Value.slice A l.length c2).ownBlock = some b) _).grown hg6 (fun _ hk _ => hk)); clear hown6 hg6 hat6)
  have hb1 : Below base w (w.alloc (.cells #[.slice kA kn kc, .slice vA vn vc] 38)) := (Below.refl _ _).alloc hbase _
  have hob : ∀ g, (Value.slice A l.length c2).ownBlock = some g → base ≤ g := fun g hg => (own_lt HE.out.own g hg).1
  have hb2 : Below base w w6 := hb1.trans (HG6.out.below_of (by simp; omega) (fun b hb e => by have := hob _ e; omega))
  exact HEX.out _ _ _ _ _ _ _ _ _ _ (HE.out.push HO6.out hb2 HK.out HV.out) hb2
end Go.Proofs.Ytpbnngfiinihmaa

namespace Go.Proofs.Ytpbnngfiinihmaa
open Go.RowKit
open Go.Lib (compareBytes)
/-- anywhere -/
def Any : Nat → Prop := fun _ => True
/-- the answer is a list of entries -/
def NewEnts (w : World) (l : List Ent) (e : Ending) (w' : World) : Prop := ∃ A n c, e = .returned (.slice A n c) ∧ Ents w' Any A n l ∧ Below w.heap.size w w'
theorem SB.under {w : World} {F : Nat → Prop} {v : Value} {bs : List UInt8} {B : Nat} (h : SB w F v bs) (hB : w.heap.size ≤ B) : SB w (Under B) v bs := h.and (fun b hb _ => by show b < B; omega)
theorem SB.mk {w : World} {F : Nat → Prop} {A : Option Addr} {n c : Nat} {bs : List UInt8} (h1 : n ≤ c) (h2 : c ≤ maxLen) (h3 : n = bs.length) (h4 : Rd w F 1 A n (bvs bs)) : SB w F (.slice A n c) bs := ⟨A, n, c, rfl, h1, h2, h3, h4⟩
theorem SB.parts {w : World} {F : Nat → Prop} {A : Option Addr} {n c : Nat} {bs : List UInt8} (h : SB w F (.slice A n c) bs) : n ≤ c ∧ c ≤ maxLen ∧ n = bs.length ∧ Rd w F 1 A n (bvs bs) := by
  obtain ⟨A', n', c', e, h1, h2, h3, h4⟩ := h
  injection e with e1 e2 e3; subst e1; subst e2; subst e3
  exact ⟨h1, h2, h3, h4⟩
noncomputable def pcC : Code := codeOr (Try.f50.body.bind (regionAt 6))
set_option maxRecDepth 100000 in
set_option maxHeartbeats 4000000 in
theorem put_cmp (F G : Nat → Prop) (b o n c q i : Nat) (kA mA : Option Addr) (kn kc mn mc : Nat) (x key : List UInt8) (w : World) {u1 u2 u4 u5 u6 u8 u9 u10 u11 u12 u13 u14 u15 u16 u17 u18 u19 u20 u21 u22 u23 u24 u25 u26 u27 u28 u29 u30 u31 u32 u33 u34 u35 u36 u37 u38 u39 u40 u41 u42 u43 u44 u45 u46 u47 u48 : Value} (Q : Exit → Act → World → Prop)
    (HQP : Hid (∀ c t (a : Act) w, Q (.panic c) ⟨t, a.defers⟩ w → Q (.panic c) a w))
    (hi : i < n) (hn : n ≤ 1152921504606) (c1 : w.cell? ⟨b, o + i * 2, none⟩ = some (.slice mA mn mc)) (c2 : w.cell? ⟨q, 0, none⟩ = some (.slice kA kn kc))
    (HK : Hid (SB w F (.slice kA kn kc) x)) (HM : Hid (SB w G (.slice mA mn mc) key)) (l1 : x.length ≤ 1152921504606) (l2 : key.length ≤ 1152921504606)
    (hexit : ∀ (v15 v16 v17 v18 v19 v20 v21 v22 : Value) (w' : World), Chg Nil w w' → Q .normal ⟨(.slice (some ⟨b, o, none⟩) n c :: u1 :: u2 :: .pointer (some ⟨q, 0, none⟩) :: u4 :: u5 :: u6 :: .int .i64 i :: .int .i64 (compareBytes key x) :: u9 :: u10 :: u11 :: u12 :: u13 :: u14 :: v15 :: v16 :: v17 :: v18 :: v19 :: v20 :: v21 :: v22 :: u23 :: u24 :: u25 :: u26 :: u27 :: u28 :: u29 :: u30 :: u31 :: u32 :: u33 :: u34 :: u35 :: u36 :: u37 :: u38 :: u39 :: u40 :: u41 :: u42 :: u43 :: u44 :: u45 :: u46 :: u47 :: u48 :: []).toArray, []⟩ w') :
    Code.wp Try.prog pcC Q ⟨(.slice (some ⟨b, o, none⟩) n c :: u1 :: u2 :: .pointer (some ⟨q, 0, none⟩) :: u4 :: u5 :: u6 :: .int .i64 i :: u8 :: u9 :: u10 :: u11 :: u12 :: u13 :: u14 :: u15 :: u16 :: u17 :: u18 :: u19 :: u20 :: u21 :: u22 :: u23 :: u24 :: u25 :: u26 :: u27 :: u28 :: u29 :: u30 :: u31 :: u32 :: u33 :: u34 :: u35 :: u36 :: u37 :: u38 :: u39 :: u40 :: u41 :: u42 :: u43 :: u44 :: u45 :: u46 :: u47 :: u48 :: []).toArray, []⟩ w := by
  have HEX := Lib.hid hexit
  have S0 : w.drew.cell? ⟨b, o + i * 2, none⟩ = some (.slice mA mn mc) ∧ w.drew.cell? ⟨q, 0, none⟩ = some (.slice kA kn kc) := ⟨c1, c2⟩
  clear hexit c1 c2
  conv => arg 2; whnf
  refine wp_region_V (fun w' => w'.cell? ⟨b, o + i * 2, none⟩ = some (.slice mA mn mc) ∧ w'.cell? ⟨q, 0, none⟩ = some (.slice kA kn kc)) (by kernel_rfl) ?_
  refine wpV_take (i := 0) (v := ?_) rfl (by kernel_rfl) (by kernel_rfl) (by kernel_rfl) (by first | exact fun _ _ _ h => h | exact fun c a w h => HQP.out c _ a w h) S0 (Or.inl ⟨by kernel_rfl, ?_⟩) ?_
  rotate_left
  · intro w hSw
    go_simp
    try with_reducible rfl
  try simp only [Act.put, List.setIfInBounds_toArray, List.set_cons_zero, List.set_cons_succ]
  refine wpV_take (i := 1) (v := ?_) rfl (by kernel_rfl) (by kernel_rfl) (by kernel_rfl) (by first | exact fun _ _ _ h => h | exact fun c a w h => HQP.out c _ a w h) S0 (Or.inl ⟨by kernel_rfl, ?_⟩) ?_
  rotate_left
  · intro w hSw
    go_simp
    try with_reducible rfl
  try simp only [Act.put, List.setIfInBounds_toArray, List.set_cons_zero, List.set_cons_succ]
  refine wpV_take (i := 2) (v := ?_) rfl (by kernel_rfl) (by kernel_rfl) (by kernel_rfl) (by first | exact fun _ _ _ h => h | exact fun c a w h => HQP.out c _ a w h) S0 (Or.inl ⟨by kernel_rfl, ?_⟩) ?_
  rotate_left
  · intro w hSw
    go_simp
    try with_reducible rfl
  try simp only [Act.put, List.setIfInBounds_toArray, List.set_cons_zero, List.set_cons_succ]
  refine wpV_take (i := 3) (v := ?_) rfl (by kernel_rfl) (by kernel_rfl) (by kernel_rfl) (by first | exact fun _ _ _ h => h | exact fun c a w h => HQP.out c _ a w h) S0 (Or.inl ⟨by kernel_rfl, ?_⟩) ?_
  rotate_left
  · intro w hSw
    go_simp
    try with_reducible rfl
  try simp only [Act.put, List.setIfInBounds_toArray, List.set_cons_zero, List.set_cons_succ]
  refine wpV_take (i := 5) (v := ?_) rfl (by kernel_rfl) (by kernel_rfl) (by kernel_rfl) (by first | exact fun _ _ _ h => h | exact fun c a w h => HQP.out c _ a w h) S0 (Or.inl ⟨by kernel_rfl, ?_⟩) ?_
  rotate_left
  · intro w hSw
    go_simp
    try with_reducible rfl
  try simp only [Act.put, List.setIfInBounds_toArray, List.set_cons_zero, List.set_cons_succ]
  refine wpV_take (i := 4) (v := ?_) rfl (by kernel_rfl) (by kernel_rfl) (by kernel_rfl) (by first | exact fun _ _ _ h => h | exact fun c a w h => HQP.out c _ a w h) S0 (Or.inl ⟨by kernel_rfl, ?_⟩) ?_
  rotate_left
  · intro w hSw
    obtain ⟨s0, s1⟩ := hSw
    go_simp
    try with_reducible rfl
  try simp only [Act.put, List.setIfInBounds_toArray, List.set_cons_zero, List.set_cons_succ]
  refine wpV_take (i := 6) (v := ?_) rfl (by kernel_rfl) (by kernel_rfl) (by kernel_rfl) (by first | exact fun _ _ _ h => h | exact fun c a w h => HQP.out c _ a w h) S0 (Or.inl ⟨by kernel_rfl, ?_⟩) ?_
  rotate_left
  · intro w hSw
    obtain ⟨s0, s1⟩ := hSw
    go_simp
    try with_reducible rfl
  try simp only [Act.put, List.setIfInBounds_toArray, List.set_cons_zero, List.set_cons_succ]
  refine wpV_one (i := 7) (by kernel_rfl) rfl (fun K hK => ?_)
  go_simp
  obtain ⟨a1, a2, a3, a4⟩ := HM.out.parts; obtain ⟨b1, b2, b3, b4⟩ := HK.out.parts; refine (rcmp_any mA kA mn kn mc kc G F key x _ a4.drew a3 b4.drew b3 (by omega) (by omega)).mono ?_; rintro e w1 ⟨rfl, r, rfl⟩; clear a1 a2 a3 a4 b1 b2 b3 b4
  refine hK.out _ _ S0 ?_
  clear hK K
  try simp only [Act.put, List.setIfInBounds_toArray, List.set_cons_zero, List.set_cons_succ]
  refine wpV_take (i := 8) (v := ?_) rfl (by kernel_rfl) (by kernel_rfl) (by kernel_rfl) (by first | exact fun _ _ _ h => h | exact fun c a w h => HQP.out c _ a w h) S0 (Or.inl ⟨by kernel_rfl, ?_⟩) ?_
  rotate_left
  · intro w hSw
    go_simp
    try with_reducible rfl
  try simp only [Act.put, List.setIfInBounds_toArray, List.set_cons_zero, List.set_cons_succ]
  refine wpV_done (by kernel_rfl) ?_ _
  exact HEX.out _ _ _ _ _ _ _ _ _ ((Chg.refl Nil w).drew.drewN r)
theorem rd_text {w : World} {A : Option Addr} {n k : Nat} {m : List Ent} (h : Ents w Any A n m) (hk : k < n) : ∃ b o Ak nk ck Av nv cv key val, A = some ⟨b, o, none⟩ ∧ m[k]? = some (key, val) ∧
    w.cell? ⟨b, o + k * 2, none⟩ = some (.slice Ak nk ck) ∧ w.cell? ⟨b, o + k * 2 + 1, none⟩ = some (.slice Av nv cv) ∧ SB w Any (.slice Ak nk ck) key ∧ SB w Any (.slice Av nv cv) val := by
  obtain ⟨b, o, Ak, nk, ck, Av, nv, cv, key, val, e, _, hm, c1, c2, k1, k2, k3, k4, v1, v2, v3, v4⟩ := h.at_ hk
  exact ⟨b, o, Ak, nk, ck, Av, nv, cv, key, val, e, hm, c1, c2, SB.mk k1 k2 k3.out k4, SB.mk v1 v2 v3.out v4⟩
theorem putG_step {m : List Ent} {i : Nat} {e x : Ent} (h : m[i]? = some e) (d : Bool) : putG (m.drop i) x d =
    (if 0 ≤ compareBytes e.1 x.1 ∧ d = false then [x] else []) ++ ((if compareBytes e.1 x.1 ≠ 0 then [e] else []) ++ putG (m.drop (i + 1)) x (d || decide (0 ≤ compareBytes e.1 x.1))) := by
  obtain ⟨hi, he⟩ := List.getElem?_eq_some_iff.1 h
  rw [List.drop_eq_getElem_cons hi, he]; rfl
set_option maxRecDepth 100000 in
set_option maxHeartbeats 8000000 in
theorem rput_any (A kA vA : Option Addr) (n c kn kc vn vc : Nat) (m : List Ent) (x : Ent) (w : World) (h : Ents w Any A n m) (hu : Up m) (hs : Short 1152921504606 m) (hn : n ≤ 1152921504)
    (hk : SB w Any (.slice kA kn kc) x.1) (hv : SB w Any (.slice vA vn vc) x.2) (hl : x.1.length ≤ 1152921504606) :
    Calls Try.prog 50 #[.slice A n c, .agg #[.slice kA kn kc, .slice vA vn vc]] w (NewEnts w (putE m x)) := by
  have HE := Lib.hid h
  have HU := Lib.hid (putG_put m x hu)
  have HS := Lib.hid hs
  have HK := Lib.hid hk
  have HV := Lib.hid hv
  have HN := Lib.hid h.len
  clear h hu hs hk hv
  go_enter Try.func50, Try.ntmps50
  go_wp2
  go_loopg [7, 6, 5] n (fun g' iv dv v wz => ∃ (i : Nat) (d : Bool) (us : List Value) (lo : List Ent), g' = n - i ∧ i ≤ n ∧ iv = .int .i64 i ∧ dv = .bool d ∧ Eo wz (w.heap.size + 1) v us lo ∧ lo ++ putG (m.drop i) x d = putG m x false ∧ ((d = false → lo.length ≤ i) ∧ lo.length ≤ i + 1) ∧ EntAt wz w.heap.size 0 (.slice kA kn kc) (.slice vA vn vc) ∧ Below w.heap.size w wz ∧ w.heap.size + 1 ≤ wz.heap.size)
  case atStart => exact ⟨0, false, [], [], by omega, by omega, rfl, rfl, Eo.nil _ _, by simp, ⟨by simp, by simp⟩, ⟨by simp, by simp⟩, (Below.refl _ _).alloc (Nat.le_refl _) _, by simp⟩
  case round =>
    obtain ⟨i, d, us, lo, hg, hi, rfl, rfl, hEo, hlo, ⟨hll0, hll⟩, hat, hb, hsz⟩ := hrel
    have HL0 := Lib.hid hll0
    clear hll0
    obtain ⟨z0, z1⟩ := hat
    have HG := Lib.hid hg
    have HEO := Lib.hid hEo
    have HLO := Lib.hid hlo
    have HB := Lib.hid hb
    clear hg hEo hlo hb
    by_cases hlt : i < n
    · obtain ⟨b, o, Ak, nk, ck, Av, nv, cv, key, val, rfl, hmi, c1', c2', s1, s2⟩ := rd_text HE.out hlt
      have c1 := bkeep HB.out c1'
      have c2 := bkeep HB.out c2'
      have HST := Lib.hid (putG_step (x := x) hmi d)
      have hkl : key.length ≤ 1152921504606 := (HS.out _ (List.mem_of_getElem? hmi)).1
      have hlo2 : lo.length ≤ 1152921504606 := by omega
      have hnn : n ≤ 1152921504606 := by omega
      have T := fun {v : Value} {bs : List UInt8} (h : SB w Any v bs) => ((h.under (Nat.le_refl _)).below HB.out).weak (G := Under (w.heap.size + 1)) (fun b (hb : b < w.heap.size) => (show b < w.heap.size + 1 by omega))
      have HM1 := Lib.hid (T s1)
      have HM2 := Lib.hid (T s2)
      have HX1 := Lib.hid (T HK.out)
      have HX2 := Lib.hid (T HV.out)
      clear s1 s2 hmi c1' c2' T
      go_upto_region 6 with fail
      refine put_cmp _ _ b o n c w.heap.size i kA Ak kn kc nk ck x.1 key wr _ (by exact Lib.hid (fun _ _ _ _ h => h)) hlt hnn c1 z0 HX1 HM1 hl hkl ?_
      intro v15 v16 v17 v18 v19 v20 v21 v22 w1 hc1
      have y1 := hc1.cell (fun h => h) c1
      have y2 := hc1.cell (fun h => h) c2
      have y3 := hc1.cell (fun h => h) z0
      have y4 := hc1.cell (fun h => h) z1
      have HEO1 := Lib.hid (HEO.out.below hc1.below)
      have HB1 := Lib.hid (HB.out.trans (hc1.below.mono HB.out.size))
      have K1 := Lib.hid (HX1.out.below hc1.below)
      have K2 := Lib.hid (HX2.out.below hc1.below)
      have K3 := Lib.hid (HM1.out.below hc1.below)
      have K4 := Lib.hid (HM2.out.below hc1.below)
      have hsz1 : w.heap.size + 1 ≤ w1.heap.size := Nat.le_trans hsz hc1.size
      have hbw : b < w.heap.size + 1 := by
        obtain ⟨b', _, _, _, _, _, _, _, _, _, e, _, c, _⟩ := rd_text HE.out hlt
        injection e with e; injection e with e _; subst e
        have := cell_lt c; omega
      clear hc1 c1 c2 z0 z1 HX1 HX2 HM1 HM2 HEO HB
      obtain ⟨cc, hcc⟩ : ∃ cc, cc = compareBytes key x.1 := ⟨_, rfl⟩
      rw [← hcc]
      have HCC := Lib.hid hcc
      clear hcc hkl
      by_cases h8 : 0 ≤ cc ∧ d = false
      · obtain ⟨h8, rfl⟩ := h8
        go_upto_region 8 with fail
        refine p8_app (w.heap.size + 1) w.heap.size _ us lo x kA vA kn kc vn vc w1 _ HEO1 hlo2 hsz1 y3 y4 K1 K2 ?_
        intro v29 v30 v31 v32 out2 us2 w2 he2 hb2
        have HEO2 := Lib.hid he2
        have HB2 := Lib.hid (HB1.out.trans (hb2.mono (by omega)))
        have x1 := bcell hb2 hbw y1
        have x2 := bcell hb2 hbw y2
        have x3 := bcell hb2 (by omega) y3
        have x4 := bcell hb2 (by omega) y4
        have hsz2 : w.heap.size + 1 ≤ w2.heap.size := Nat.le_trans hsz1 hb2.size
        have C2 := Chg.of_below_ (S := fun b => w.heap.size + 1 ≤ b) hb2 (fun b _ hb => hb)
        have K3' := Lib.hid (K3.out.chg C2 (fun b (h : b < _) (h2 : _ ≤ b) => by omega))
        have K4' := Lib.hid (K4.out.chg C2 (fun b (h : b < _) (h2 : _ ≤ b) => by omega))
        clear he2 hb2 y1 y2 y3 y4 C2
        by_cases h0 : cc = 0
        · subst h0
          go_wp2
          go_roundg (n - (i + 1))
          case measure => have := HG.out; omega
          case rel =>
            refine ⟨i + 1, true, us2, lo ++ [x], rfl, by omega, by go_num, rfl, HEO2.out, ?_, ⟨by simp, by have := HL0.out (by simp); simp; omega⟩, ⟨x3, x4⟩, HB2.out, hsz2⟩
            have h1 := HLO.out
            rw [HST.out, ← HCC.out] at h1
            simpa using h1
        · have hl2 : (lo ++ [x]).length ≤ 1152921504606 := by simp; omega
          go_upto_region 11 with fail
          refine p11_app (w.heap.size + 1) b o n c i _ us2 (lo ++ [x]) (key, val) Ak Av nk ck nv cv w2 _ HEO2 hl2 hsz2 hlt hnn x1 x2 K3' K4' ?_
          intro v35 v36 v37 v38 v39 v40 v41 out3 us3 w3 he3 hb3
          have HEO3 := Lib.hid he3
          have HB3 := Lib.hid (HB2.out.trans (hb3.mono (by omega)))
          have v3 := bcell hb3 (by omega) x3
          have v4 := bcell hb3 (by omega) x4
          have hsz3 : w.heap.size + 1 ≤ w3.heap.size := Nat.le_trans hsz2 hb3.size
          clear he3 hb3
          go_wp2
          go_roundg (n - (i + 1))
          case measure => have := HG.out; omega
          case rel =>
            refine ⟨i + 1, true, us3, lo ++ [x] ++ [(key, val)], rfl, by omega, by go_num, rfl, HEO3.out, ?_, ⟨by simp, by have := HL0.out (by simp); simp; omega⟩, ⟨v3, v4⟩, HB3.out, hsz3⟩
            have h1 := HLO.out
            rw [HST.out, ← HCC.out] at h1
            simpa [h8, h0] using h1
      · by_cases h0 : cc = 0
        · have hd : d = true := by cases d <;> simp_all
          subst h0
          subst hd
          go_wp2
          go_roundg (n - (i + 1))
          case measure => have := HG.out; omega
          case rel =>
            refine ⟨i + 1, true, us, lo, rfl, by omega, by go_num, rfl, HEO1.out, ?_, ⟨by simp, by omega⟩, ⟨y3, y4⟩, HB1.out, hsz1⟩
            have h1 := HLO.out
            rw [HST.out, ← HCC.out] at h1
            simpa using h1
        · by_cases hneg : cc < 0
          · have hneg' : ¬ 0 ≤ cc := by omega
            clear h8
            go_upto_region 11 with fail
            refine p11_app (w.heap.size + 1) b o n c i _ us lo (key, val) Ak Av nk ck nv cv w1 _ HEO1 hlo2 hsz1 hlt hnn y1 y2 K3 K4 ?_
            intro v35 v36 v37 v38 v39 v40 v41 out3 us3 w3 he3 hb3
            have HEO3 := Lib.hid he3
            have HB3 := Lib.hid (HB1.out.trans (hb3.mono (by omega)))
            have v3 := bcell hb3 (by omega) y3
            have v4 := bcell hb3 (by omega) y4
            have hsz3 : w.heap.size + 1 ≤ w3.heap.size := Nat.le_trans hsz1 hb3.size
            clear he3 hb3
            go_wp2
            go_roundg (n - (i + 1))
            case measure => have := HG.out; omega
            case rel =>
              refine ⟨i + 1, d, us3, lo ++ [(key, val)], rfl, by omega, by go_num, rfl, HEO3.out, ?_, ⟨fun hd => by have := HL0.out hd; simp; omega, by simp; omega⟩, ⟨v3, v4⟩, HB3.out, hsz3⟩
              have h1 := HLO.out
              rw [HST.out, ← HCC.out, if_neg (fun h => by have := h.1; omega), if_pos h0, decide_eq_false (by omega), Bool.or_false] at h1
              simpa using h1
          · have hpos : 0 ≤ cc := by omega
            have hd : d = true := by cases d <;> simp_all
            subst hd
            clear h8
            go_upto_region 11 with fail
            refine p11_app (w.heap.size + 1) b o n c i _ us lo (key, val) Ak Av nk ck nv cv w1 _ HEO1 hlo2 hsz1 hlt hnn y1 y2 K3 K4 ?_
            intro v35 v36 v37 v38 v39 v40 v41 out3 us3 w3 he3 hb3
            have HEO3 := Lib.hid he3
            have HB3 := Lib.hid (HB1.out.trans (hb3.mono (by omega)))
            have v3 := bcell hb3 (by omega) y3
            have v4 := bcell hb3 (by omega) y4
            have hsz3 : w.heap.size + 1 ≤ w3.heap.size := Nat.le_trans hsz1 hb3.size
            clear he3 hb3
            go_wp2
            go_roundg (n - (i + 1))
            case measure => have := HG.out; omega
            case rel =>
              refine ⟨i + 1, true, us3, lo ++ [(key, val)], rfl, by omega, by go_num, rfl, HEO3.out, ?_, ⟨by simp, by simp; omega⟩, ⟨v3, v4⟩, HB3.out, hsz3⟩
              have h1 := HLO.out
              rw [HST.out, ← HCC.out] at h1
              simpa [hpos, h0] using h1
    · have hin : i = n := by omega
      subst hin
      have HD : Hid (lo ++ (if d then [] else [x]) = putE m x) := Lib.hid (by
        have h1 := HLO.out
        have h2 := HN.out
        rw [HU.out, List.drop_of_length_le (by omega)] at h1
        exact h1)
      have T := fun {v : Value} {bs : List UInt8} (h : SB w Any v bs) => ((h.under (Nat.le_refl _)).below HB.out).weak (G := Under (w.heap.size + 1)) (fun b (hb : b < w.heap.size) => (show b < w.heap.size + 1 by omega))
      have HX1 := Lib.hid (T HK.out)
      have HX2 := Lib.hid (T HV.out)
      have hlo2 : lo.length ≤ 1152921504606 := by omega
      clear T
      cases d with
      | true =>
        go_wp2
        go_ret
        obtain ⟨A2, c2, e2, _, _⟩ := own_val HEO.out.own
        subst e2
        have hd : lo = putE m x := by simpa using HD.out
        rw [← hd]
        exact ⟨A2, _, c2, rfl, HEO.out.ents rfl, HB.out⟩
      | false =>
        go_upto_region 13 with fail
        refine p13_app (w.heap.size + 1) w.heap.size _ us lo x kA vA kn kc vn vc wr _ HEO hlo2 hsz z0 z1 HX1 HX2 ?_
        intro v44 v45 v46 v47 out2 us2 w2 he2 hb2
        have HEO2 := Lib.hid he2
        have HB2 := Lib.hid (HB.out.trans (hb2.mono (by omega)))
        clear he2 hb2
        go_wp2
        go_ret
        obtain ⟨A2, c2, e2, _, _⟩ := own_val HEO2.out.own
        subst e2
        have hd : lo ++ [x] = putE m x := by simpa using HD.out
        rw [← hd]
        exact ⟨A2, _, c2, rfl, HEO2.out.ents rfl, HB2.out⟩
end Go.Proofs.Ytpbnngfiinihmaa

namespace Go.Proofs.Ytpbnngfiinihmaa
open Go.RowKit
open Go.Lib (compareBytes)
theorem nil_iff {n : Nat} {l : List UInt8} (h : n = l.length) : n = 0 ↔ l = [] :=
  ⟨fun h0 => List.eq_nil_of_length_eq_zero (by omega), fun h0 => by rw [h, h0]; rfl⟩
/-- a key lies in the bounds of a look -/
def inE (lo hi k : List UInt8) : Prop := 0 ≤ compareBytes k lo ∧ (hi = [] ∨ compareBytes k hi < 0)
instance (lo hi k : List UInt8) : Decidable (inE lo hi k) := inferInstanceAs (Decidable (_ ∧ _))
set_option maxRecDepth 100000 in
set_option maxHeartbeats 4000000 in
theorem within_any (kA lA hA : Option Addr) (kn kc ln lc hn hc p q : Nat) (k lo hi : List UInt8) (w : World) (hk : SB w Any (.slice kA kn kc) k) (hl : SB w Any (.slice lA ln lc) lo) (hh : SB w Any (.slice hA hn hc) hi)
    (c1 : w.cell? ⟨p, 0, none⟩ = some (.slice lA ln lc)) (c2 : w.cell? ⟨q, 0, none⟩ = some (.slice hA hn hc)) :
    Calls Try.prog 33 #[.slice kA kn kc, .pointer (some ⟨p, 0, none⟩), .pointer (some ⟨q, 0, none⟩)] w fun e w' => e = .returned (.bool (decide (inE lo hi k))) ∧ w = w' := by
  have HK := Lib.hid hk.parts
  have HL := Lib.hid hl.parts
  have HH := Lib.hid hh.parts
  clear hk hl hh
  obtain ⟨u, hu⟩ : ∃ u, u = compareBytes k lo := ⟨_, rfl⟩
  obtain ⟨v, hv⟩ : ∃ v, v = compareBytes k hi := ⟨_, rfl⟩
  have HU := Lib.hid hu
  have HV := Lib.hid hv
  clear hu hv
  obtain ⟨R, hR⟩ : ∃ R : Ending → World → Prop, R = fun e w' => e = .returned (.bool (decide (inE lo hi k))) ∧ w = w' := ⟨_, rfl⟩
  have HR := Lib.hid hR
  rw [← hR]
  clear hR
  have e0 : Hid (hn = 0 ↔ hi = []) := Lib.hid (nil_iff HH.out.2.2.1)
  by_cases h1 : 0 ≤ u
  · by_cases h2 : hn = 0
    · have HH0 := Lib.hid (e0.out.1 h2)
      subst h2
      go_enter Try.func33, Try.ntmps33
      go_wp2_with (go_at_call 34; refine (compare_any kA lA kn ln kc lc Any Any k lo w HK.out.2.2.2 HK.out.2.2.1 HL.out.2.2.2 HL.out.2.2.1).mono ?_; rintro e w2 ⟨rfl, rfl⟩; rw [← HU.out])
      rw [HR.out]
      exact ⟨ret_bool ⟨fun _ => ⟨by rw [← HU.out]; exact h1, .inl HH0.out⟩, fun _ => by simp [h1]⟩, rfl⟩
    · have h2' : ((hn : Int) == 0) = false := by rw [beq_eq_false_iff_ne]; omega
      have H2 := Lib.hid h2
      clear h2
      go_enter Try.func33, Try.ntmps33
      go_wp2_with (go_at_call 34; first | (refine (compare_any kA lA kn ln kc lc Any Any k lo w HK.out.2.2.2 HK.out.2.2.1 HL.out.2.2.2 HL.out.2.2.1).mono ?_; rintro e w2 ⟨rfl, rfl⟩; rw [← HU.out]) | (refine (compare_any kA hA kn hn kc hc Any Any k hi w HK.out.2.2.2 HK.out.2.2.1 HH.out.2.2.2 HH.out.2.2.1).mono ?_; rintro e w2 ⟨rfl, rfl⟩; rw [← HV.out]))
      rw [HR.out]
      refine ⟨ret_bool ?_, rfl⟩
      have hne : ¬ hi = [] := fun h => H2.out (e0.out.2 h)
      unfold inE
      rw [← HU.out, ← HV.out]
      simp [h1, hne]
  · have HNG := Lib.hid h1
    go_enter Try.func33, Try.ntmps33
    go_wp2_with (go_at_call 34; refine (compare_any kA lA kn ln kc lc Any Any k lo w HK.out.2.2.2 HK.out.2.2.1 HL.out.2.2.2 HL.out.2.2.1).mono ?_; rintro e w2 ⟨rfl, rfl⟩; rw [← HU.out])
    rw [HR.out]
    exact ⟨ret_bool ⟨fun h => by have h' := HNG.out; simp at h, fun h => by have h' := HNG.out; have h'' := h.1; rw [← HU.out] at h''; omega⟩, rfl⟩
set_option maxRecDepth 100000 in
set_option maxHeartbeats 4000000 in
theorem in_any (kA lA hA : Option Addr) (kn kc ln lc hn hc : Nat) (k lo hi : List UInt8) (w : World) (hk : SB w Any (.slice kA kn kc) k) (hl : SB w Any (.slice lA ln lc) lo) (hh : SB w Any (.slice hA hn hc) hi)
    (l1 : kn ≤ 1152921504606) (l2 : ln ≤ 1152921504606) (l3 : hn ≤ 1152921504606) :
    Calls Try.prog 38 #[.slice kA kn kc, .slice lA ln lc, .slice hA hn hc] w fun e w' => e = .returned (.bool (decide (inE lo hi k))) ∧ ∃ q, w' = w.drewN q := by
  have HK := Lib.hid hk.parts
  have HL := Lib.hid hl.parts
  have HH := Lib.hid hh.parts
  clear hk hl hh
  obtain ⟨u, hu⟩ : ∃ u, u = compareBytes k lo := ⟨_, rfl⟩
  obtain ⟨v, hv⟩ : ∃ v, v = compareBytes k hi := ⟨_, rfl⟩
  have HU := Lib.hid hu
  have HV := Lib.hid hv
  clear hu hv
  obtain ⟨R, hR⟩ : ∃ R : Ending → World → Prop, R = fun e w' => e = .returned (.bool (decide (inE lo hi k))) ∧ ∃ q, w' = w.drewN q := ⟨_, rfl⟩
  have HR := Lib.hid hR
  rw [← hR]
  clear hR
  have e0 : Hid (hn = 0 ↔ hi = []) := Lib.hid (nil_iff HH.out.2.2.1)
  by_cases h1 : 0 ≤ u
  · by_cases h2 : hn = 0
    · have HH0 := Lib.hid (e0.out.1 h2)
      subst h2
      go_enter Try.func38, Try.ntmps38
      go_wp2_with (go_at_call 39; refine (rcmp_any kA lA kn ln kc lc Any Any k lo w HK.out.2.2.2 HK.out.2.2.1 HL.out.2.2.2 HL.out.2.2.1 l1 l2).mono ?_; rintro e w2 ⟨rfl, q1, rfl⟩; rw [← HU.out])
      rw [HR.out]
      exact ⟨ret_bool ⟨fun _ => ⟨by rw [← HU.out]; exact h1, .inl HH0.out⟩, fun _ => by simp [h1]⟩, _, rfl⟩
    · have h2' : ((hn : Int) == 0) = false := by rw [beq_eq_false_iff_ne]; omega
      have H2 := Lib.hid h2
      clear h2
      go_enter Try.func38, Try.ntmps38
      go_wp2_with (go_at_call 39; go_loud (refine (rcmp_any kA _ kn _ kc _ Any Any k _ _ (by first | exact HK.out.2.2.2 | exact HK.out.2.2.2.drewN _) HK.out.2.2.1 (by first | exact HL.out.2.2.2 | exact HH.out.2.2.2.drewN _) (by first | exact HL.out.2.2.1 | exact HH.out.2.2.1) l1 (by first | exact l2 | exact l3)).mono ?_); rintro e w2 ⟨rfl, q1, rfl⟩; first | rw [← HU.out] | rw [← HV.out])
      rw [HR.out]
      refine ⟨ret_bool ?_, _, rfl⟩
      have hne : ¬ hi = [] := fun h => H2.out (e0.out.2 h)
      unfold inE
      rw [← HU.out, ← HV.out]
      simp [h1, hne]
  · have HNG := Lib.hid h1
    go_enter Try.func38, Try.ntmps38
    go_wp2_with (go_at_call 39; refine (rcmp_any kA lA kn ln kc lc Any Any k lo w HK.out.2.2.2 HK.out.2.2.1 HL.out.2.2.2 HL.out.2.2.1 l1 l2).mono ?_; rintro e w2 ⟨rfl, q1, rfl⟩; rw [← HU.out])
    rw [HR.out]
    exact ⟨ret_bool ⟨fun h => by have h' := HNG.out; simp at h, fun h => by have h' := HNG.out; have h'' := h.1; rw [← HU.out] at h''; omega⟩, _, rfl⟩
end Go.Proofs.Ytpbnngfiinihmaa
