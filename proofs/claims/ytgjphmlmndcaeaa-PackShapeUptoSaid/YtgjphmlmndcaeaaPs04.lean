/- WALKS: parts of node.Check: what no key and no value of a right node meets. append onto a row of the call's own, from whatever slice (after a block of the guide's page extra-words, turned to this claim's words). Over any program. The program's arena in memory: its struct, the row of pointers, the slots' blocks, and what hangs on them. Small lemmas, copied as the guide's page extra-small tells: quiet regions, results, make, pointers, the row's last step. -/
import Derived.Test.YtgjphmlmndcaeaaPs03
import Derived.Test.YtgjphmlmndcaeaaPs01
import Derived.Maps.AppendAt
import Derived.Deep.AppendLies
import Derived.RegionTactic
import Derived.OwnWalk
import Derived.Deep.QuietTactic
import Derived.Tactics
import Derived.Laws.MakeOwn
import Derived.Laws.Entries
import Derived.LaidEqlPtr
import Derived.Below
import Derived.ChangeSame
set_option linter.unusedVariables false
set_option linter.unusedSimpArgs false
namespace Go.Proofs.Ytgjphmlmndcaeaa
open Go.RowKit
open Go.Lib (compareBytes)
/-- a node that comes as a value -/
structure NdV (w : World) (F : Nat → Prop) (x : Nd) (hA kA vA dA : Option Addr) (hn hc kn kc vn vc dn dc : Nat) : Prop where
  h : Bt w F hA hn hc x.high
  k : Tx w F kA kn kc x.keys
  v : Tx w F vA vn vc x.vals
  d : It w F dA dn dc x.kids
theorem NdV.below {w w' : World} {F : Nat → Prop} {x : Nd} {hA kA vA dA : Option Addr} {hn hc kn kc vn vc dn dc : Nat} (h : NdV w F x hA kA vA dA hn hc kn kc vn vc dn dc) (hb : Below w.heap.size w w') : NdV w' F x hA kA vA dA hn hc kn kc vn vc dn dc :=
  ⟨h.h.below hb, h.k.below hb, h.v.below hb, h.d.below hb⟩
theorem NdV.chg {S F : Nat → Prop} {w w' : World} {x : Nd} {hA kA vA dA : Option Addr} {hn hc kn kc vn vc dn dc : Nat} (h : NdV w F x hA kA vA dA hn hc kn kc vn vc dn dc) (hb : Chg S w w') (hs : ∀ b, F b → ¬ S b) : NdV w' F x hA kA vA dA hn hc kn kc vn vc dn dc :=
  ⟨h.h.chg hb hs, h.k.chg hb hs, h.v.chg hb hs, h.d.chg hb hs⟩
theorem NdV.weak {F G : Nat → Prop} {w : World} {x : Nd} {hA kA vA dA : Option Addr} {hn hc kn kc vn vc dn dc : Nat} (h : NdV w F x hA kA vA dA hn hc kn kc vn vc dn dc) (hs : ∀ b, F b → G b) : NdV w G x hA kA vA dA hn hc kn kc vn vc dn dc :=
  ⟨h.h.weak hs, h.k.weak hs, h.v.weak hs, h.d.weak hs⟩
/-- the six cells of a node's block -/
theorem cells6 {w : World} {q : Nat} {t : TypeId} {a b c d e f : Value} (h : Blk w q t #[a, b, c, d, e, f]) : w.cell? ⟨q, 0, none⟩ = some a ∧ w.cell? ⟨q, 1, none⟩ = some b ∧ w.cell? ⟨q, 2, none⟩ = some c ∧ w.cell? ⟨q, 3, none⟩ = some d ∧ w.cell? ⟨q, 4, none⟩ = some e ∧ w.cell? ⟨q, 5, none⟩ = some f :=
  ⟨h.cell 0, h.cell 1, h.cell 2, h.cell 3, h.cell 4, h.cell 5⟩

set_option maxRecDepth 100000 in
theorem beyond_no (F G : Nat → Prop) (high key : List UInt8) (lev rg k0 v0 d0 : Value) (hA A : Option Addr) (hn hc n c : Nat) (w : World) (hh : Bt w F hA hn hc high) (hk : Bt w G A n c key) (hlt : high = [] ∨ TLt key high) :
    Calls Try.prog 113 #[.agg #[lev, .slice hA hn hc, rg, k0, v0, d0], .slice A n c] w fun e w' => e = .returned (.bool false) ∧ Below w.heap.size w w' := by
  have HH := Lib.hid hh
  have HK := Lib.hid hk
  have hl := hh.len
  have hl2 := hk.len
  have hnn : high = [] → hn = 0 := fun e => by rw [hl, e]; rfl
  by_cases h0 : hn = 0
  · subst h0
    clear hh hk hl hl2 hlt hnn
    go_enter Try.func113, Try.ntmps113
    go_wp2
    go_ret
    exact ⟨rfl, (Below.refl _ _).alloc (Nat.le_refl _) _⟩
  · have hlt' : compareBytes key high < 0 := hlt.resolve_left (fun e => h0 (hnn e))
    have hp : (0 : Int) < (hn : Int) := by omega
    have HL := Lib.hid hl
    have HL2 := Lib.hid hl2
    have hb : Below w.heap.size w (w.alloc (.cells #[lev, .slice hA hn hc, rg, k0, v0, d0] 93)) := (Below.refl _ _).alloc (Nat.le_refl _) _
    have HB := Lib.hid hb
    have hd : decide (0 ≤ compareBytes key high) = false := decide_eq_false (by omega)
    clear hh hk hl hl2 hlt hnn hb hlt'
    go_enter Try.func113, Try.ntmps113
    go_wp2_with (go_at_call 36; refine (compare_any _ _ _ _ _ _ G F key high _ (HK.out.below HB.out).2.2.2 HL2.out (HH.out.below HB.out).2.2.2 HL.out).mono ?_; rintro e w' ⟨rfl, rfl⟩)
    go_ret
    exact ⟨rfl, HB.out⟩

/-- a key that may stand in the node: the closure answers no -/
def KeyOk (high key : List UInt8) : Prop := 1 ≤ key.length ∧ key.length ≤ 64 ∧ (high = [] ∨ TLt key high)
set_option maxRecDepth 100000 in
theorem ck1_no (F G : Nat → Prop) (high key : List UInt8) (lev rg k0 v0 d0 : Value) (q : Nat) (hA A : Option Addr) (hn hc n c : Nat) (w : World) (hq : Blk w q 93 #[lev, .slice hA hn hc, rg, k0, v0, d0]) (hh : Bt w F hA hn hc high) (hk : Bt w G A n c key) (hok : KeyOk high key) :
    Calls Try.prog 112 #[.slice A n c, .pointer (some ⟨q, 0, none⟩)] w fun e w' => e = .returned (.bool false) ∧ Below w.heap.size w w' := by
  have HH := Lib.hid hh
  have HK := Lib.hid hk
  have HO := Lib.hid hok.2.2
  have h1 := hok.1
  have h2 := hok.2.1
  have hl := hk.len
  have hd : decide ((1 : Int) ≤ (n : Int) ∧ (n : Int) ≤ 64) = true := by simp; omega
  have hd2 : (1 : Int) ≤ (n : Int) ∧ (n : Int) ≤ 64 := by omega
  obtain ⟨z0, z1, z2, z3, z4, z5⟩ := cells6 hq
  clear hh hk hok hq h1 h2 hl
  go_enter Try.func112, Try.ntmps112
  go_wp2_with (first | (go_at_call 53; refine (between_any _ _ _ _).mono ?_; rintro e w' ⟨rfl, rfl⟩; rw [hd]) | (go_at_call 113; refine (beyond_no F G high key lev rg k0 v0 d0 hA A hn hc n c _ HH.out HK.out HO.out).mono ?_; rintro e w' ⟨rfl, hb⟩))
  go_ret
  exact ⟨rfl, hb⟩
set_option maxRecDepth 100000 in
theorem lf1_no (A : Option Addr) (n c : Nat) (w : World) (hn : n ≤ 256) :
    Calls Try.prog 123 #[.slice A n c] w fun e w' => e = .returned (.bool false) ∧ Below w.heap.size w w' := by
  have h : ¬ (256 : Int) < (n : Int) := by omega
  go_enter Try.func123, Try.ntmps123
  go_wp2
  go_ret
  exact ⟨by simp, Below.refl _ _⟩

set_option maxRecDepth 100000 in
theorem ck_index (cap : Array Value) (F : Nat → Prop) (A : Option Addr) (n c : Nat) (ts : List (List UInt8)) (w : World) (h : Tx w F A n c ts) (hn : n ≤ 1152921504606)
    (hp : ∀ (W : World) (Ak : Option Addr) (nk ck : Nat) (t : List UInt8), Below w.heap.size w W → t ∈ ts → Bt W F Ak nk ck t → Calls Try.prog 112 (#[.slice Ak nk ck] ++ cap) W fun e w' => e = .returned (.bool false) ∧ Below W.heap.size W w') :
    Calls Try.prog 122 #[.slice A n c, .func (.func 112) #[] cap] w fun e w' => e = .returned (.int .i64 (-1)) ∧ Below w.heap.size w w' := by
  have HT := Lib.hid h
  have HP := Lib.hid hp
  clear h hp
  go_enter Try.func122, Try.ntmps122
  go_wp2
  go_loopg [8] n (fun g' iv wr => ∃ i : Nat, g' = n - i ∧ i ≤ n ∧ iv = .int .i64 i ∧ Below w.heap.size w wr)
  case atStart => exact ⟨0, by omega, by omega, rfl, Below.refl _ _⟩
  case round =>
    obtain ⟨i, hg, hi, rfl, hb⟩ := hrel
    have HG := Lib.hid hg
    have HB := Lib.hid hb
    rename World => wr
    clear hg hb
    by_cases hlt : i < n
    · have hlt' : (i : Int) < (n : Int) := by omega
      obtain ⟨b, o, Ak, nk, ck, x, rfl, hF, he, c1', q1, q2, q3, q4⟩ := HT.out.at_ (k := i) hlt
      have c1 := bkeep HB.out c1'
      have HE := Lib.hid (List.mem_of_getElem? he)
      clear c1' he
      go_wp2_with (go_at_call 112; refine (HP.out wr Ak nk ck x HB.out HE.out ⟨q1, q2, q3, q4.below HB.out⟩).mono ?_; rintro e w' ⟨rfl, hb'⟩)
      go_roundg (n - (i + 1))
      case measure => have := HG.out; omega
      case rel => exact ⟨i + 1, rfl, by omega, by go_num, HB.out.trans (hb'.mono HB.out.size)⟩
    · have hlt' : ¬ (i : Int) < (n : Int) := by omega
      go_wp2
      go_ret
      exact ⟨rfl, HB.out⟩
set_option maxRecDepth 100000 in
theorem ck_contains (cap : Array Value) (F : Nat → Prop) (A : Option Addr) (n c : Nat) (ts : List (List UInt8)) (w : World) (h : Tx w F A n c ts) (hn : n ≤ 1152921504606)
    (hp : ∀ (W : World) (Ak : Option Addr) (nk ck : Nat) (t : List UInt8), Below w.heap.size w W → t ∈ ts → Bt W F Ak nk ck t → Calls Try.prog 112 (#[.slice Ak nk ck] ++ cap) W fun e w' => e = .returned (.bool false) ∧ Below W.heap.size W w') :
    Calls Try.prog 111 #[.slice A n c, .func (.func 112) #[] cap] w fun e w' => e = .returned (.bool false) ∧ Below w.heap.size w w' := by
  have HT := Lib.hid h
  have HP := Lib.hid hp
  clear h hp
  go_enter Try.func111, Try.ntmps111
  go_wp2_with (go_at_call 122; refine (ck_index cap F A n c ts _ HT.out hn HP.out).mono ?_; rintro e w' ⟨rfl, hb'⟩)
  go_ret
  exact ⟨rfl, hb'⟩
set_option maxRecDepth 100000 in
theorem lf_index (cap : Array Value) (F : Nat → Prop) (A : Option Addr) (n c : Nat) (ts : List (List UInt8)) (w : World) (h : Tx w F A n c ts) (hn : n ≤ 1152921504606)
    (hp : ∀ (W : World) (Ak : Option Addr) (nk ck : Nat) (t : List UInt8), Below w.heap.size w W → t ∈ ts → Bt W F Ak nk ck t → Calls Try.prog 123 (#[.slice Ak nk ck] ++ cap) W fun e w' => e = .returned (.bool false) ∧ Below W.heap.size W w') :
    Calls Try.prog 122 #[.slice A n c, .func (.func 123) #[] cap] w fun e w' => e = .returned (.int .i64 (-1)) ∧ Below w.heap.size w w' := by
  have HT := Lib.hid h
  have HP := Lib.hid hp
  clear h hp
  go_enter Try.func122, Try.ntmps122
  go_wp2
  go_loopg [8] n (fun g' iv wr => ∃ i : Nat, g' = n - i ∧ i ≤ n ∧ iv = .int .i64 i ∧ Below w.heap.size w wr)
  case atStart => exact ⟨0, by omega, by omega, rfl, Below.refl _ _⟩
  case round =>
    obtain ⟨i, hg, hi, rfl, hb⟩ := hrel
    have HG := Lib.hid hg
    have HB := Lib.hid hb
    rename World => wr
    clear hg hb
    by_cases hlt : i < n
    · have hlt' : (i : Int) < (n : Int) := by omega
      obtain ⟨b, o, Ak, nk, ck, x, rfl, hF, he, c1', q1, q2, q3, q4⟩ := HT.out.at_ (k := i) hlt
      have c1 := bkeep HB.out c1'
      have HE := Lib.hid (List.mem_of_getElem? he)
      clear c1' he
      go_wp2_with (go_at_call 123; refine (HP.out wr Ak nk ck x HB.out HE.out ⟨q1, q2, q3, q4.below HB.out⟩).mono ?_; rintro e w' ⟨rfl, hb'⟩)
      go_roundg (n - (i + 1))
      case measure => have := HG.out; omega
      case rel => exact ⟨i + 1, rfl, by omega, by go_num, HB.out.trans (hb'.mono HB.out.size)⟩
    · have hlt' : ¬ (i : Int) < (n : Int) := by omega
      go_wp2
      go_ret
      exact ⟨rfl, HB.out⟩
set_option maxRecDepth 100000 in
theorem lf_contains (cap : Array Value) (F : Nat → Prop) (A : Option Addr) (n c : Nat) (ts : List (List UInt8)) (w : World) (h : Tx w F A n c ts) (hn : n ≤ 1152921504606)
    (hp : ∀ (W : World) (Ak : Option Addr) (nk ck : Nat) (t : List UInt8), Below w.heap.size w W → t ∈ ts → Bt W F Ak nk ck t → Calls Try.prog 123 (#[.slice Ak nk ck] ++ cap) W fun e w' => e = .returned (.bool false) ∧ Below W.heap.size W w') :
    Calls Try.prog 111 #[.slice A n c, .func (.func 123) #[] cap] w fun e w' => e = .returned (.bool false) ∧ Below w.heap.size w w' := by
  have HT := Lib.hid h
  have HP := Lib.hid hp
  clear h hp
  go_enter Try.func111, Try.ntmps111
  go_wp2_with (go_at_call 122; refine (lf_index cap F A n c ts _ HT.out hn HP.out).mono ?_; rintro e w' ⟨rfl, hb'⟩)
  go_ret
  exact ⟨rfl, hb'⟩
end Go.Proofs.Ytgjphmlmndcaeaa

namespace Go.Proofs.Ytgjphmlmndcaeaa
open Go.RowKit
section
variable {P : Program} (w : World)

theorem run_append_of_nil (base : Nat) (t ty e : TypeId) (i : TypeInfo) (size : Nat) (ht : P.underlying t = some (.slice e)) (hi : P.info? e = some i)
    (v : Value) (n : Nat) (xs : List Value) (hown : w.ownsRow base e size v n xs) (c : Nat) : (Builtin.append_ #[t, t] ty #[v, .slice none 0 c]).run P w = .ok v w := by
  rcases hown.2 with ⟨rfl, rfl⟩ | ⟨g, cap, cur, rfl, _, _, hnc, _⟩
  · simp [Builtin.append_, run_underlying ht, sizeOf, typeInfo, hi, Builtin.lenOf, Builtin.firstCells]
  · simp [Builtin.append_, run_underlying ht, sizeOf, typeInfo, hi, Builtin.lenOf, Builtin.firstCells, hnc, storeCells]

theorem run_append_any (base : Nat) (t ty e : TypeId) (i : TypeInfo) (z : Value) (size bytes : Nat) (ht : P.underlying t = some (.slice e)) (hi : P.info? e = some i) (hz : i.zero = some z)
    (hsize : i.size = size) (hby : i.bytes = bytes) (hzs : z.cells.size = size) (hsz : 0 < size)
    (v : Value) (n : Nat) (xs : List Value) (hown : w.ownsRow base e size v n xs)
    (F : Nat → Prop) (A : Option Addr) (m c : Nat) (news : List Value) (hr : Rd w F size A m news) (h1 : ∀ u ∈ news, u.oneCell' = true)
    (h63 : n + m ≤ maxLen) (hbytes : (n + m) * bytes ≤ 140737488355328) (hbase : base ≤ w.heap.size) :
    ∃ v' w', (Builtin.append_ #[t, t] ty #[v, .slice A m c]).run P w = .ok v' w' ∧ w'.ownsRow base e size v' (n + m) (xs ++ news) ∧ w.grownBy w' v.ownBlock ∧
      (v'.ownBlock = v.ownBlock ∨ v'.ownBlock = some w.heap.size) := by
  rcases A with _ | ad
  · have hm : m = 0 := by
      rcases Nat.eq_zero_or_pos m with h0 | h0
      · exact h0
      · obtain ⟨_, _, h, _⟩ := hr.2 h0
        cases h
    subst hm
    have hn : news = [] := List.eq_nil_of_length_eq_zero (by simpa using hr.1)
    subst hn
    exact ⟨v, w, run_append_of_nil w base t ty e i size ht hi v n xs hown c, by simpa using hown, World.grownBy.refl w _, .inl rfl⟩
  · have hcells : ∀ j u, news[j]? = some u → w.cell? (ad.add j) = some u := by
      intro j u hu
      rcases Nat.eq_zero_or_pos m with h0 | h0
      · subst h0
        have hn : news = [] := List.eq_nil_of_length_eq_zero (by simpa using hr.1)
        subst hn
        simp at hu
      · obtain ⟨b, o, h, _, hc⟩ := hr.2 h0
        injection h with h
        subst h
        rw [add_eq]
        exact hc j u hu
    obtain ⟨v', w', hrun, h2, h3, _, h5⟩ := run_append_own_at (P := P) w base t ty e i z size bytes ht hi hz hsize hby hzs hsz v n xs hown ad m c news hr.1 hcells h1 h63 hbytes hbase
    exact ⟨v', w', hrun, h2, h3, h5⟩

theorem wp_append_any {o : Oper} {a : Act} {K : Act → World → Prop} {Q : Exit → Act → World → Prop} (s x : Operand) (t : TypeId)
    (ho : o.op = .call { callee := .builtin .append, args := #[s, x], argTypes := #[t, t] })
    (base : Nat) (e : TypeId) (i : TypeInfo) (z : Value) (size bytes : Nat) (ht : P.underlying t = some (.slice e)) (hi : P.info? e = some i) (hz : i.zero = some z)
    (hsize : i.size = size) (hby : i.bytes = bytes) (hzs : z.cells.size = size) (hsz : 0 < size)
    (v : Value) (n : Nat) (xs : List Value) (hs : a.eval s = v) (hown : w.ownsRow base e size v n xs)
    (F : Nat → Prop) (A : Option Addr) (m c : Nat) (news : List Value) (hx : a.eval x = .slice A m c) (hr : Rd w F size A m news) (h1 : ∀ u ∈ news, u.oneCell' = true)
    (h63 : n + m ≤ maxLen) (hbytes : (n + m) * bytes ≤ 140737488355328) (hbase : base ≤ w.heap.size)
    (h : ∀ v' w', w'.ownsRow base e size v' (n + m) (xs ++ news) → w.grownBy w' v.ownBlock → (v'.ownBlock = v.ownBlock ∨ v'.ownBlock = some w.heap.size) → K (a.put o.dst v') w') : o.wp P a w K Q := by
  obtain ⟨v', w', hrun, h2, h3, h4⟩ := run_append_any (P := P) w base t o.type e i z size bytes ht hi hz hsize hby hzs hsz v n xs hown F A m c news hr h1 h63 hbytes hbase
  unfold Oper.wp execOp
  simp only [ho, resolve, invoke, builtin, Sem.run_bind, Sem.run_pure, Result.andThen_ok, List.map_toArray, List.map_cons, List.map_nil, hs, hx, hrun]
  exact h v' w' h2 h3 h4

theorem wpList_append_any {ops : Array Oper} {rest : List Oper} {o : Oper} {a : Act} {Q : Exit → Act → World → Prop} (hgd : o.guard = none) (s x : Operand) (t : TypeId)
    (ho : o.op = .call { callee := .builtin .append, args := #[s, x], argTypes := #[t, t] })
    (base : Nat) (e : TypeId) (i : TypeInfo) (z : Value) (size bytes : Nat) (ht : P.underlying t = some (.slice e)) (hi : P.info? e = some i) (hz : i.zero = some z)
    (hsize : i.size = size) (hby : i.bytes = bytes) (hzs : z.cells.size = size) (hsz : 0 < size)
    (v : Value) (n : Nat) (xs : List Value) (hs : a.eval s = v) (hown : w.ownsRow base e size v n xs)
    (F : Nat → Prop) (A : Option Addr) (m c : Nat) (news : List Value) (hx : a.eval x = .slice A m c) (hr : Rd w F size A m news) (h1 : ∀ u ∈ news, u.oneCell' = true)
    (h63 : n + m ≤ maxLen) (hbytes : (n + m) * bytes ≤ 140737488355328) (hbase : base ≤ w.heap.size)
    (h : ∀ v' w', w'.ownsRow base e size v' (n + m) (xs ++ news) → w.grownBy w' v.ownBlock → (v'.ownBlock = v.ownBlock ∨ v'.ownBlock = some w.heap.size) → wpList P ops Q rest (a.put o.dst v') w') : wpList P ops Q (o :: rest) a w :=
  wpList_plain hgd fun _ hK => wp_append_any w s x t ho base e i z size bytes ht hi hz hsize hby hzs hsz v n xs hs hown F A m c news hx hr h1 h63 hbytes hbase fun v' w' h2 h3 h4 => hK _ _ (h v' w' h2 h3 h4)

theorem step_append_any {ops : Array Oper} {o : Oper} {a : Act} {K : Act → World → Prop} {Q : Exit → Act → World → Prop} {E : Prop} (hgd : o.guard = none) (s x : Operand) (t : TypeId)
    (ho : o.op = .call { callee := .builtin .append, args := #[s, x], argTypes := #[t, t] })
    (base : Nat) (e : TypeId) (i : TypeInfo) (z : Value) (size bytes : Nat) (ht : P.underlying t = some (.slice e)) (hi : P.info? e = some i) (hz : i.zero = some z)
    (hsize : i.size = size) (hby : i.bytes = bytes) (hzs : z.cells.size = size) (hsz : 0 < size)
    (v : Value) (n : Nat) (xs : List Value) (hs : a.eval s = v) (hown : w.ownsRow base e size v n xs)
    (F : Nat → Prop) (A : Option Addr) (m c : Nat) (news : List Value) (hx : a.eval x = .slice A m c) (hr : Rd w F size A m news) (h1 : ∀ u ∈ news, u.oneCell' = true)
    (h63 : n + m ≤ maxLen) (hbytes : (n + m) * bytes ≤ 140737488355328) (hbase : base ≤ w.heap.size)
    (h : ∀ v' w', w'.ownsRow base e size v' (n + m) (xs ++ news) → w.grownBy w' v.ownBlock → (v'.ownBlock = v.ownBlock ∨ v'.ownBlock = some w.heap.size) → K (a.put o.dst v') w') :
    if Region.wanted o (yielded ops a.tmps) = true then Oper.wp P o a w K Q else E := by
  have hw : Region.wanted o (yielded ops a.tmps) = true := by simp [Region.wanted, hgd]
  rw [if_pos hw]
  exact wp_append_any w s x t ho base e i z size bytes ht hi hz hsize hby hzs hsz v n xs hs hown F A m c news hx hr h1 h63 hbytes hbase h
end

/-- an empty row that the call has just made -/
theorem own_made (w : World) (e : TypeId) (size : Nat) : (w.alloc (.cells #[] e)).ownsRow w.heap.size e size (.slice (some ⟨w.heap.size, 0, none⟩) 0 0) 0 [] :=
  ⟨by simp, .inr ⟨w.heap.size, 0, #[], rfl, Nat.le_refl _, heap_alloc_new w _, Nat.le_refl _, by simp [maxLen], by simp, by simp⟩⟩
/-- the value of a row that is owned -/
theorem own_val {w : World} {base : Nat} {e : TypeId} {size n : Nat} {v : Value} {xs : List Value} (h : w.ownsRow base e size v n xs) : ∃ A c, v = .slice A n c ∧ n ≤ c ∧ c ≤ maxLen := by
  rcases h.2 with ⟨rfl, rfl⟩ | ⟨g, cap, cur, rfl, _, _, h1, h2, _⟩
  · exact ⟨none, 0, rfl, Nat.le_refl _, by simp [maxLen]⟩
  · exact ⟨_, cap, rfl, h1, h2⟩
theorem own_mono {w : World} {base base' : Nat} {e : TypeId} {size n : Nat} {v : Value} {xs : List Value} (h : w.ownsRow base e size v n xs) (hb : base' ≤ base) : w.ownsRow base' e size v n xs := by
  refine ⟨h.1, ?_⟩
  rcases h.2 with h2 | ⟨g, cap, cur, hv, hg, r⟩
  · exact .inl h2
  · exact .inr ⟨g, cap, cur, hv, Nat.le_trans hb hg, r⟩
theorem own_SB {w : World} {base : Nat} {e : TypeId} {n : Nat} {v : Value} {bs : List UInt8} (h : w.ownsRow base e 1 v n (bvs bs)) : SB w (From base) v bs := by
  obtain ⟨A, c, rfl, h1, h2⟩ := own_val h
  exact ⟨A, n, c, rfl, h1, h2, by have := h.1; simpa [bvs] using this.symm, Rd.of_own h⟩
theorem own_chg {S : Nat → Prop} {w w' : World} {base : Nat} {e : TypeId} {size n : Nat} {v : Value} {xs : List Value} (h : w.ownsRow base e size v n xs) (hc : Chg S w w') (hs : ∀ g, v.ownBlock = some g → ¬ S g) : w'.ownsRow base e size v n xs := by
  refine ⟨h.1, ?_⟩
  rcases h.2 with h2 | ⟨g, cap, cur, rfl, hg, hh, r⟩
  · exact .inl h2
  · refine .inr ⟨g, cap, cur, rfl, hg, ?_, r⟩
    have hlt : g < w.heap.size := by
      rcases Nat.lt_or_ge g w.heap.size with h1 | h1
      · exact h1
      · rw [Array.getElem?_eq_none h1] at hh; cases hh
    rw [hc.block g hlt (hs g (by simp [Value.ownBlock]))]; exact hh
theorem own_below {w w' : World} {base : Nat} {e : TypeId} {size n : Nat} {v : Value} {xs : List Value} (h : w.ownsRow base e size v n xs) (hb : Below w.heap.size w w') : w'.ownsRow base e size v n xs :=
  own_chg h (Chg.of_below (S := Nil) hb) (fun _ _ hf => hf)
theorem own_lt {w : World} {base : Nat} {e : TypeId} {size n : Nat} {v : Value} {xs : List Value} (h : w.ownsRow base e size v n xs) : ∀ g, v.ownBlock = some g → base ≤ g ∧ g < w.heap.size := h.lt
end Go.Proofs.Ytgjphmlmndcaeaa

namespace Go.Proofs.Ytgjphmlmndcaeaa
open Go.RowKit

abbrev Slt := Int × Nd

/-- a slot's block, and what hangs on it in blocks of C -/
def SlotX (w : World) (C : Nat → Prop) (g : Nat) (s : Slt) : Prop :=
  ∃ hA hn hc kA kn kc vA vn vc dA dn dc, Blk w g 124 #[.int .u64 s.1, .int .i64 s.2.lev, .slice hA hn hc, .int .i64 s.2.right, .slice kA kn kc, .slice vA vn vc, .slice dA dn dc] ∧
    Bt w C hA hn hc s.2.high ∧ Tx w C kA kn kc s.2.keys ∧ Tx w C vA vn vc s.2.vals ∧ It w C dA dn dc s.2.kids

/-- a pointer to the head of a block -/
def ptr (g : Nat) : Value := .pointer (some ⟨g, 0, none⟩)
/-- the blocks that are written -/
def Mut (p : Nat) (v : Value) (bs : List Nat) : Nat → Prop := fun b => b = p ∨ v.ownBlock = some b ∨ b ∈ bs

/-- the arena at block p: all its blocks are of F -/
structure ArY (w : World) (F : Nat → Prop) (p : Nat) (nodes : Int) (sl : List Slt) (root : Int) (A : Option Addr) (n c : Nat) (bs : List Nat) : Prop where
  len : Hid (n = sl.length)
  blen : Hid (bs.length = n)
  blk : Blk w p 119 #[.int .i64 nodes, .slice A n c, .int .i64 root]
  row : w.ownsRow 0 120 1 (.slice A n c) n (bs.map ptr)
  fp : F p
  frow : ∀ b, (Value.slice A n c).ownBlock = some b → F b
  fbs : ∀ b ∈ bs, F b
  nodup : bs.Nodup
  slot : ∀ (i g : Nat) (s : Slt), bs[i]? = some g → sl[i]? = some s → SlotX w (fun b => F b ∧ ¬ Mut p (.slice A n c) bs b) g s

def ArX (w : World) (F : Nat → Prop) (p : Nat) (nodes : Int) (sl : List Slt) (root : Int) : Prop := ∃ A n c bs, ArY w F p nodes sl root A n c bs

section
variable {S F G C D : Nat → Prop} {w w' : World} {p : Nat} {nodes root : Int} {sl : List Slt} {A : Option Addr} {n c : Nat} {bs : List Nat}

theorem SlotX.weak {g : Nat} {s : Slt} (h : SlotX w C g s) (hF : ∀ b, C b → D b) : SlotX w D g s := by
  obtain ⟨hA, hn, hc, kA, kn, kc, vA, vn, vc, dA, dn, dc, h1, h2, h3, h4, h5⟩ := h
  exact ⟨hA, hn, hc, kA, kn, kc, vA, vn, vc, dA, dn, dc, h1, h2.weak hF, h3.weak hF, h4.weak hF, h5.weak hF⟩
theorem SlotX.chg {g : Nat} {s : Slt} (h : SlotX w C g s) (hc : Chg S w w') (hg : ¬ S g) (hs : ∀ b, C b → ¬ S b) : SlotX w' C g s := by
  obtain ⟨hA, hn, hc', kA, kn, kc, vA, vn, vc, dA, dn, dc, h1, h2, h3, h4, h5⟩ := h
  exact ⟨hA, hn, hc', kA, kn, kc, vA, vn, vc, dA, dn, dc, h1.chg hc hg, h2.chg hc hs, h3.chg hc hs, h4.chg hc hs, h5.chg hc hs⟩
theorem Bt.lt {bs' : List UInt8} {m d : Nat} (h : Bt w C A m d bs') : Bt w (fun b => C b ∧ b < w.heap.size) A m d bs' := ⟨h.1, h.2.1, h.2.2.1, h.2.2.2.lt Nat.zero_lt_one⟩
theorem It.lt {ks : List Int} {m d : Nat} (h : It w C A m d ks) : It w (fun b => C b ∧ b < w.heap.size) A m d ks := ⟨h.1, h.2.1, h.2.2.1, h.2.2.2.lt Nat.zero_lt_one⟩
theorem Tx.lt {ts : List (List UInt8)} {m d : Nat} (h : Tx w C A m d ts) : Tx w (fun b => C b ∧ b < w.heap.size) A m d ts :=
  let ⟨h1, h2, h3, vs, h4, h5⟩ := h; ⟨h1, h2, h3, vs, h4.lt Nat.zero_lt_one, fun i t ht => let ⟨v, a, b⟩ := h5 i t ht; ⟨v, a, b.lt⟩⟩
theorem SlotX.lt {g : Nat} {s : Slt} (h : SlotX w C g s) : SlotX w (fun b => C b ∧ b < w.heap.size) g s := by
  obtain ⟨hA, hn, hc', kA, kn, kc, vA, vn, vc, dA, dn, dc, h1, h2, h3, h4, h5⟩ := h
  exact ⟨hA, hn, hc', kA, kn, kc, vA, vn, vc, dA, dn, dc, h1, h2.lt, h3.lt, h4.lt, h5.lt⟩

theorem ArY.weak (h : ArY w F p nodes sl root A n c bs) (hF : ∀ b, F b → G b) : ArY w G p nodes sl root A n c bs :=
  ⟨h.len, h.blen, h.blk, h.row, hF _ h.fp, fun b hb => hF _ (h.frow b hb), fun b hb => hF _ (h.fbs b hb), h.nodup, fun i g s hg hs => (h.slot i g s hg hs).weak (fun b hb => ⟨hF _ hb.1, hb.2⟩)⟩
theorem ArX.weak (h : ArX w F p nodes sl root) (hF : ∀ b, F b → G b) : ArX w G p nodes sl root := let ⟨A, n, c, bs, h⟩ := h; ⟨A, n, c, bs, h.weak hF⟩
theorem ArY.chg (h : ArY w F p nodes sl root A n c bs) (hc : Chg S w w') (hs : ∀ b, F b → ¬ S b) : ArY w' F p nodes sl root A n c bs :=
  ⟨h.len, h.blen, h.blk.chg hc (hs _ h.fp), own_chg h.row hc (fun g hg => hs _ (h.frow g hg)), h.fp, h.frow, h.fbs, h.nodup, fun i g s hg hsl => (h.slot i g s hg hsl).chg hc (hs _ (h.fbs g (List.mem_of_getElem? hg))) (fun b hb => hs _ hb.1)⟩
theorem ArX.chg (h : ArX w F p nodes sl root) (hc : Chg S w w') (hs : ∀ b, F b → ¬ S b) : ArX w' F p nodes sl root := let ⟨A, n, c, bs, h⟩ := h; ⟨A, n, c, bs, h.chg hc hs⟩
theorem ArX.below (h : ArX w F p nodes sl root) (hb : Below w.heap.size w w') : ArX w' F p nodes sl root := h.chg (Chg.of_below (S := Nil) hb) (fun _ _ hf => hf)
theorem ArY.below (h : ArY w F p nodes sl root A n c bs) (hb : Below w.heap.size w w') : ArY w' F p nodes sl root A n c bs := h.chg (Chg.of_below (S := Nil) hb) (fun _ _ hf => hf)

/-- the three cells of the struct -/
theorem ArY.cells (h : ArY w F p nodes sl root A n c bs) : w.cell? ⟨p, 0, none⟩ = some (.int .i64 nodes) ∧ w.cell? ⟨p, 1, none⟩ = some (.slice A n c) ∧ w.cell? ⟨p, 2, none⟩ = some (.int .i64 root) ∧ ∀ o, w.frozen? ⟨p, o, none⟩ = false :=
  ⟨by rw [h.blk.cell]; rfl, by rw [h.blk.cell]; rfl, by rw [h.blk.cell]; rfl, h.blk.frozen⟩
/-- the cell of one slot's pointer -/
theorem ArY.at_ (h : ArY w F p nodes sl root A n c bs) {k : Nat} (hk : k < n) : ∃ r g, A = some ⟨r, 0, none⟩ ∧ bs[k]? = some g ∧ w.cell? ⟨r, k, none⟩ = some (.pointer (some ⟨g, 0, none⟩)) := by
  have hl : k < bs.length := by have : bs.length = n := h.blen; omega
  obtain ⟨r, cap, hv, _, _⟩ := h.row.form (by omega)
  have hA : A = some ⟨r, 0, none⟩ := by injection hv
  subst hA
  refine ⟨r, bs[k], rfl, List.getElem?_eq_getElem hl, ?_⟩
  have := h.row.cells (g := r) rfl k (ptr bs[k]) (by rw [List.getElem?_map, List.getElem?_eq_getElem hl]; rfl)
  rw [add_eq, Nat.zero_add] at this
  exact this
end

theorem Blk.ne_ {w : World} {g g' : Nat} {t t' : TypeId} {cs cs' : Array Value} (h : Blk w g t cs) (h' : Blk w g' t' cs') (hne : t ≠ t') : g ≠ g' := by
  rintro rfl
  unfold Blk at h h'
  rw [h] at h'
  injection h' with h'
  injection h' with _ ht
  exact hne ht
theorem own_blk_ne {w : World} {base : Nat} {e t : TypeId} {size n g : Nat} {v : Value} {xs : List Value} {cs : Array Value} (h : w.ownsRow base e size v n xs) (hg : Blk w g t cs) (hne : e ≠ t) : v.ownBlock ≠ some g := by
  rcases h.2 with ⟨rfl, _⟩ | ⟨g', cap, cur, rfl, _, hh, _⟩
  · simp [Value.ownBlock]
  · intro he
    have : g' = g := by simpa [Value.ownBlock] using he
    subst this
    exact Blk.ne_ (t := e) hh hg hne rfl

section
variable {S F G C D : Nat → Prop} {w w' : World} {p : Nat} {nodes root : Int} {sl : List Slt} {A : Option Addr} {n c : Nat} {bs : List Nat}
/-- the three kinds of written blocks differ -/
theorem ArY.ne_p (h : ArY w F p nodes sl root A n c bs) {g : Nat} (hg : g ∈ bs) : g ≠ p := by
  obtain ⟨i, hi, rfl⟩ := List.mem_iff_getElem.1 hg
  have hs : i < sl.length := by have e1 : n = sl.length := h.len; have e2 : bs.length = n := h.blen; omega
  obtain ⟨hA, hn, hc, kA, kn, kc, vA, vn, vc, dA, dn, dc, hb, _⟩ := h.slot i bs[i] sl[i] (List.getElem?_eq_getElem hi) (List.getElem?_eq_getElem hs)
  exact hb.ne_ h.blk (by decide)
theorem ArY.ne_row (h : ArY w F p nodes sl root A n c bs) {g : Nat} (hg : g ∈ bs) : (Value.slice A n c).ownBlock ≠ some g := by
  obtain ⟨i, hi, rfl⟩ := List.mem_iff_getElem.1 hg
  have hs : i < sl.length := by have e1 : n = sl.length := h.len; have e2 : bs.length = n := h.blen; omega
  obtain ⟨hA, hn, hc, kA, kn, kc, vA, vn, vc, dA, dn, dc, hb, _⟩ := h.slot i bs[i] sl[i] (List.getElem?_eq_getElem hi) (List.getElem?_eq_getElem hs)
  exact own_blk_ne h.row hb (by decide)
theorem ArY.row_p (h : ArY w F p nodes sl root A n c bs) : (Value.slice A n c).ownBlock ≠ some p := own_blk_ne h.row h.blk (by decide)
theorem ArY.lt_bs (h : ArY w F p nodes sl root A n c bs) {g : Nat} (hg : g ∈ bs) : g < w.heap.size := by
  obtain ⟨i, hi, rfl⟩ := List.mem_iff_getElem.1 hg
  have hs : i < sl.length := by have e1 : n = sl.length := h.len; have e2 : bs.length = n := h.blen; omega
  obtain ⟨hA, hn, hc, kA, kn, kc, vA, vn, vc, dA, dn, dc, hb, _⟩ := h.slot i bs[i] sl[i] (List.getElem?_eq_getElem hi) (List.getElem?_eq_getElem hs)
  exact hb.lt

/-- one slot is another one; what hangs on it may be new -/
theorem ArY.upd (h : ArY w F p nodes sl root A n c bs) {i g : Nat} {s : Slt} (hg : bs[i]? = some g) (hc : Chg (One g) w w') (hF : ∀ b, F b → G b)
    (hx : SlotX w' (fun b => G b ∧ ¬ Mut p (.slice A n c) bs b) g s) : ArY w' G p nodes (sl.set i s) root A n c bs := by
  have hgm : g ∈ bs := List.mem_of_getElem? hg
  have hil : i < sl.length := by have e1 : n = sl.length := h.len; have e2 : bs.length = n := h.blen; have := (List.getElem?_eq_some_iff.1 hg).1; omega
  refine ⟨by have e1 : n = sl.length := h.len; show n = (sl.set i s).length; simp [e1], h.blen, h.blk.chg hc (fun e => h.ne_p hgm (show p = g from e).symm), own_chg h.row hc (fun b hb e => h.ne_row hgm (by rw [hb]; rw [show b = g from e])), hF _ h.fp, fun b hb => hF _ (h.frow b hb), fun b hb => hF _ (h.fbs b hb), h.nodup, ?_⟩
  intro j g' s' hg' hs'
  by_cases hij : i = j
  · subst hij
    rw [hg] at hg'
    injection hg' with hg'
    subst hg'
    rw [List.getElem?_set_self hil] at hs'
    injection hs' with hs'
    subst hs'
    exact hx
  · rw [List.getElem?_set_ne hij] at hs'
    have hne : g' ≠ g := by
      rintro rfl
      have l1 := (List.getElem?_eq_some_iff.1 hg)
      have l2 := (List.getElem?_eq_some_iff.1 hg')
      exact hij ((List.getElem_inj h.nodup).1 (l1.2.trans l2.2.symm))
    exact ((h.slot j g' s' hg' hs').chg hc (fun e => hne e) (fun b hb e => hb.2 (.inr (.inr ((show b = g from e) ▸ hgm))))).weak (fun b hb => ⟨hF _ hb.1, hb.2⟩)

/-- another root -/
theorem ArY.setRoot (h : ArY w F p nodes sl root A n c bs) (r : Int) : ArY (w.setCell ⟨p, 2, none⟩ (.int .i64 r)) F p nodes sl r A n c bs := by
  have hc := Chg.set1 w p 2 (.int .i64 r)
  refine ⟨h.len, h.blen, ?_, own_chg h.row hc (fun b hb e => h.row_p (by rw [hb]; rw [show b = p from e])), h.fp, h.frow, h.fbs, h.nodup, fun i g s hg hs => (h.slot i g s hg hs).chg hc (fun e => h.ne_p (List.mem_of_getElem? hg) e) (fun b hb e => hb.2 (.inl e))⟩
  have := h.blk.set_ 2 (.int .i64 r)
  exact this

/-- the empty slot's block -/
def slot0 (word : Int) : Array Value := #[.int .u64 word, .int .i64 0, .slice none 0 0, .int .i64 0, .slice none 0 0, .slice none 0 0, .slice none 0 0]
theorem slot0_is {w : World} {g : Nat} {word : Int} (C : Nat → Prop) (h : Blk w g 124 (slot0 word)) : SlotX w C g (word, Nd.zero) :=
  ⟨none, 0, 0, none, 0, 0, none, 0, 0, none, 0, 0, h, Bt.nil _ _, Tx.nil _ _, Tx.nil _ _, It.nil _ _⟩

/-- a slot more: its block g is new; the row has grown, perhaps into a new block; the struct's slice is the new one -/
theorem ArY.push {w1 w2 w3 : World} (h : ArY w F p nodes sl root A n c bs) {g : Nat} (hg : g = w.heap.size) (h1 : Below w.heap.size w w1) (k1 : Blk w1 g 124 (slot0 1))
    {A' : Option Addr} {c' : Nat} (hrow : w2.ownsRow 0 120 1 (.slice A' (n + 1) c') (n + 1) (bs.map ptr ++ [ptr g])) (hgr : w1.grownBy w2 (Value.slice A n c).ownBlock)
    (hat : (Value.slice A' (n + 1) c').ownBlock = (Value.slice A n c).ownBlock ∨ (Value.slice A' (n + 1) c').ownBlock = some w1.heap.size)
    (h3 : w3 = w2.setCell ⟨p, 1, none⟩ (.slice A' (n + 1) c')) :
    ArY w3 (fun b => F b ∨ w.heap.size ≤ b) p nodes (sl ++ [(1, Nd.zero)]) root A' (n + 1) c' (bs ++ [g]) ∧ Chg F w w3 := by
  have hpl : p < w.heap.size := h.blk.lt
  have hs1 := h1.size
  have hgl : g < w1.heap.size := k1.lt
  have hrow1 := own_below h.row h1
  have hpr : (Value.slice A n c).ownBlock ≠ some p := h.row_p
  have hgr' : (Value.slice A n c).ownBlock ≠ some g := own_blk_ne hrow1 k1 (by decide)
  have c2 : Chg (fun b => (Value.slice A n c).ownBlock = some b) w1 w2 := (Chg.refl _ _).grown hgr (fun b hb _ => hb)
  have c3 : Chg (One p) w2 w3 := by subst h3; exact Chg.set1 w2 p 1 _
  have hs2 := c2.size
  have hp2 : Blk w2 p 119 #[.int .i64 nodes, .slice A n c, .int .i64 root] := (h.blk.below h1).chg c2 hpr
  have hp3 : Blk w3 p 119 #[.int .i64 nodes, .slice A' (n + 1) c', .int .i64 root] := by subst h3; exact hp2.set_ 1 _
  have hrp : (Value.slice A' (n + 1) c').ownBlock ≠ some p := own_blk_ne hrow hp2 (by decide)
  have hrow3 := own_chg hrow c3 (fun b hb e => hrp (by rw [hb]; rw [show b = p from e]))
  have kg3 : Blk w3 g 124 (slot0 1) := (k1.chg c2 hgr').chg c3 (fun e => by have e : g = p := e; omega)
  have hch : Chg F w w3 := ((Chg.of_below (S := F) h1).trans c2 (fun b _ hb => h.frow b hb)).trans c3 (fun b _ hb => by have hb : b = p := hb; rw [hb]; exact h.fp)
  refine ⟨⟨?_, ?_, hp3, ?_, .inl h.fp, ?_, ?_, ?_, ?_⟩, hch⟩
  · have e1 : n = sl.length := h.len
    show n + 1 = (sl ++ [(1, Nd.zero)]).length
    simp [e1]
  · have e2 : bs.length = n := h.blen
    show (bs ++ [g]).length = n + 1
    simp [e2]
  · rw [List.map_append]; exact hrow3
  · intro b hb
    rcases hat with e | e
    · exact .inl (h.frow b (by rw [← e]; exact hb))
    · rw [e] at hb; injection hb with hb; exact .inr (by omega)
  · intro b hb
    rcases List.mem_append.1 hb with hb | hb
    · exact .inl (h.fbs b hb)
    · have : b = g := by simpa using hb
      exact .inr (by omega)
  · rw [List.nodup_append]
    refine ⟨h.nodup, by simp, fun a ha b hb e => ?_⟩
    have hb : b = g := by simpa using hb
    have := h.lt_bs ha
    omega
  · intro i g' s' hg' hs'
    have e1 : n = sl.length := h.len
    have e2 : bs.length = n := h.blen
    rcases Nat.lt_or_ge i n with hi | hi
    · rw [List.getElem?_append_left (by omega)] at hg' hs'
      have hgm : g' ∈ bs := List.mem_of_getElem? hg'
      have hx := (h.slot i g' s' hg' hs').lt
      have hx1 : SlotX w1 (fun b => (F b ∧ ¬ Mut p (.slice A n c) bs b) ∧ b < w.heap.size) g' s' := hx.chg (Chg.of_below (S := Nil) h1) (fun hf => hf) (fun _ _ hf => hf)
      have hx2 := hx1.chg c2 (fun e => h.ne_row hgm e) (fun b hb e => hb.1.2 (.inr (.inl e)))
      have hx3 := hx2.chg c3 (fun e => h.ne_p hgm e) (fun b hb e => hb.1.2 (.inl e))
      refine hx3.weak (fun b hb => ⟨.inl hb.1.1, fun hm => ?_⟩)
      rcases hm with hm | hm | hm
      · exact hb.1.2 (.inl hm)
      · rcases hat with e | e
        · exact hb.1.2 (.inr (.inl (by rw [← e]; exact hm)))
        · rw [e] at hm; injection hm with hm; omega
      · rcases List.mem_append.1 hm with hm | hm
        · exact hb.1.2 (.inr (.inr hm))
        · have : b = g := by simpa using hm
          omega
    · have hi2 : i = n := by
        have := (List.getElem?_eq_some_iff.1 hg').1
        simp at this; omega
      subst hi2
      rw [List.getElem?_append_right (by omega)] at hg' hs'
      have e4 : g' = g := by simpa [e2] using hg'.symm
      have e5 : s' = (1, Nd.zero) := by simpa [← e1] using hs'.symm
      subst e4; subst e5
      exact slot0_is _ kg3
end

/-- a block that is new is none of those that are written -/
theorem ArY.mut_lt {F : Nat → Prop} {w : World} {p : Nat} {nodes root : Int} {sl : List Slt} {A : Option Addr} {n c : Nat} {bs : List Nat} (h : ArY w F p nodes sl root A n c bs) {b : Nat} (hb : w.heap.size ≤ b) : ¬ Mut p (.slice A n c) bs b := by
  rintro (e | e | e)
  · have := h.blk.lt; omega
  · have := (own_lt h.row b e).2; omega
  · have := h.lt_bs e; omega
theorem SlotX.setWord {w : World} {C : Nat → Prop} {g : Nat} {s : Slt} (h : SlotX w C g s) (hg : ¬ C g) (x : Int) : SlotX (w.setCell ⟨g, 0, none⟩ (.int .u64 x)) C g (x, s.2) := by
  obtain ⟨hA, hn, hc, kA, kn, kc, vA, vn, vc, dA, dn, dc, h1, h2, h3, h4, h5⟩ := h
  have hch := Chg.set1 w g 0 (.int .u64 x)
  have hs : ∀ b, C b → ¬ One g b := fun b hb e => hg ((show b = g from e) ▸ hb)
  exact ⟨hA, hn, hc, kA, kn, kc, vA, vn, vc, dA, dn, dc, h1.set_ 0 _, h2.chg hch hs, h3.chg hch hs, h4.chg hch hs, h5.chg hch hs⟩
theorem SlotX.setHead {w : World} {C : Nat → Prop} {g : Nat} {s : Slt} (h : SlotX w C g s) (hg : ¬ C g) {A : Option Addr} {n c : Nat} {lev right : Int} {high : List UInt8} (hb : Bt w C A n c high) :
    SlotX (((w.setCell ⟨g, 1, none⟩ (.int .i64 lev)).setCell ⟨g, 2, none⟩ (.slice A n c)).setCell ⟨g, 3, none⟩ (.int .i64 right)) C g (s.1, ⟨lev, high, right, s.2.keys, s.2.vals, s.2.kids⟩) := by
  obtain ⟨hA, hn, hc, kA, kn, kc, vA, vn, vc, dA, dn, dc, h1, h2, h3, h4, h5⟩ := h
  have hch : Chg (One g) w (((w.setCell ⟨g, 1, none⟩ (.int .i64 lev)).setCell ⟨g, 2, none⟩ (.slice A n c)).setCell ⟨g, 3, none⟩ (.int .i64 right)) := ((Chg.set1 w g 1 _).setCell (p := ⟨g, 2, none⟩) (fun _ => rfl) _).setCell (p := ⟨g, 3, none⟩) (fun _ => rfl) _
  have hs : ∀ b, C b → ¬ One g b := fun b hb e => hg ((show b = g from e) ▸ hb)
  exact ⟨A, n, c, kA, kn, kc, vA, vn, vc, dA, dn, dc, ((h1.set_ 1 _).set_ 2 _).set_ 3 _, hb.chg hch hs, h3.chg hch hs, h4.chg hch hs, h5.chg hch hs⟩
theorem SlotX.setBody {w : World} {C : Nat → Prop} {g : Nat} {s : Slt} (h : SlotX w C g s) (hg : ¬ C g) {A B D : Option Addr} {n c m d l k : Nat} {keys vals : List (List UInt8)} {kids : List Int} (ha : Tx w C A n c keys) (hb : Tx w C B m d vals) (hd : It w C D l k kids) :
    SlotX (((w.setCell ⟨g, 4, none⟩ (.slice A n c)).setCell ⟨g, 5, none⟩ (.slice B m d)).setCell ⟨g, 6, none⟩ (.slice D l k)) C g (s.1, ⟨s.2.lev, s.2.high, s.2.right, keys, vals, kids⟩) := by
  obtain ⟨hA, hn, hc, kA, kn, kc, vA, vn, vc, dA, dn, dc, h1, h2, h3, h4, h5⟩ := h
  have hch : Chg (One g) w (((w.setCell ⟨g, 4, none⟩ (.slice A n c)).setCell ⟨g, 5, none⟩ (.slice B m d)).setCell ⟨g, 6, none⟩ (.slice D l k)) := ((Chg.set1 w g 4 _).setCell (p := ⟨g, 5, none⟩) (fun _ => rfl) _).setCell (p := ⟨g, 6, none⟩) (fun _ => rfl) _
  have hs : ∀ b, C b → ¬ One g b := fun b hb e => hg ((show b = g from e) ▸ hb)
  exact ⟨hA, hn, hc, A, n, c, B, m, d, D, l, k, ((h1.set_ 4 _).set_ 5 _).set_ 6 _, h2.chg hch hs, ha.chg hch hs, hb.chg hch hs, hd.chg hch hs⟩
theorem set3_chg (w : World) (g i j k : Nat) (u v x : Value) : Chg (One g) w (((w.setCell ⟨g, i, none⟩ u).setCell ⟨g, j, none⟩ v).setCell ⟨g, k, none⟩ x) :=
  ((Chg.set1 w g i _).setCell (p := ⟨g, j, none⟩) (fun _ => rfl) _).setCell (p := ⟨g, k, none⟩) (fun _ => rfl) _
end Go.Proofs.Ytgjphmlmndcaeaa

namespace Go.Proofs.Ytgjphmlmndcaeaa
open Go.RowKit Go.WideShapes Go.ChangeShapes
theorem quiet_add {P : Program} {f : FuncId} {args : Array Value} {w : World} {a n : Nat} {v : Value}
    (h : Calls P f args (w.drewN (a + n)) fun e w' => e = .returned v ∧ ∃ m, w' = (w.drewN (a + n)).drewN m) :
    Calls P f args (w.drewN (a + n)) fun e w'' => e = .returned v ∧ ∃ m, w'' = w.drewN (a + m) :=
  h.mono fun _ _ ⟨he, m, hm⟩ => ⟨he, n + m, by rw [hm, World.drewN_drewN, Nat.add_assoc]⟩
theorem quiet_add_same {P : Program} {f : FuncId} {args : Array Value} {w : World} {a n : Nat} {v : Value}
    (h : Calls P f args (w.drewN (a + n)) fun e w' => e = .returned v ∧ w' = w.drewN (a + n)) :
    Calls P f args (w.drewN (a + n)) fun e w'' => e = .returned v ∧ ∃ m, w'' = w.drewN (a + m) :=
  h.mono fun _ _ ⟨he, hm⟩ => ⟨he, n, hm⟩
theorem quiet_add_left {P : Program} {f : FuncId} {args : Array Value} {w : World} {a n : Nat} {v : Value}
    (h : Calls P f args (w.drewN (a + n)) fun e w' => e = .returned v ∧ w.drewN (a + n) = w') :
    Calls P f args (w.drewN (a + n)) fun e w'' => e = .returned v ∧ ∃ m, w'' = w.drewN (a + m) :=
  h.mono fun _ _ ⟨he, hm⟩ => ⟨he, n, hm.symm⟩
theorem quiet_left {P : Program} {f : FuncId} {args : Array Value} {w : World} {n : Nat} {v : Value}
    (h : Calls P f args (w.drewN n) fun e w' => e = .returned v ∧ w.drewN n = w') : Calls P f args (w.drewN n) fun e w'' => e = .returned v ∧ ∃ m, w'' = w.drewN m :=
  h.mono fun _ _ ⟨he, hm⟩ => ⟨he, n, hm.symm⟩

theorem results_tmp4 {fn : Func} {t u v x : Tmp} (h : fn.results = #[.tmp t, .tmp u, .tmp v, .tmp x]) (tmps : Array Value) (P : Program) (w : World) :
    (results fn tmps).run P w = .ok (.tuple #[tmps.getD t undef, tmps.getD u undef, tmps.getD v undef, tmps.getD x undef]) w := by simp [results, h]
theorem results_tmp5 {fn : Func} {t u v x y : Tmp} (h : fn.results = #[.tmp t, .tmp u, .tmp v, .tmp x, .tmp y]) (tmps : Array Value) (P : Program) (w : World) :
    (results fn tmps).run P w = .ok (.tuple #[tmps.getD t undef, tmps.getD u undef, tmps.getD v undef, tmps.getD x undef, tmps.getD y undef]) w := by simp [results, h]

theorem run_make_rowN {P : Program} (t e : TypeId) (i : TypeInfo) (z : Value) (ht : P.underlying t = some (.slice e)) (hi : P.info? e = some i) (hz : i.zero = some z)
    (kl kc : IntKind) (n c : Nat) (hnc : n ≤ c) (hbytes : i.bytes * c ≤ 281474976710656) (h63 : c ≤ 9223372036854775807) (w : World) :
    (Instr.makeSlice t (.int kl (n : Int)) (.int kc (c : Int))).run P w = .ok (.slice (some ⟨w.heap.size, 0, none⟩) n c) (w.alloc (.cells (madeCells z.cells (c * i.size)) e)) := by
  have hb : (i.bytes : Int) * (c : Int) ≤ 281474976710656 := by
    have h : ((i.bytes * c : Nat) : Int) ≤ 281474976710656 := by omega
    rwa [Int.natCast_mul] at h
  have hr := run_make (P := P) w t e i z ht hi hz kl kc n c (by omega) (by omega) hb (by omega)
  simp only [Int.toNat_natCast] at hr
  exact hr
theorem run_makeMap_hint {P : Program} (t k e : TypeId) (kd : IntKind) (n : Int) (ht : P.underlying t = some (.map k e)) (w : World) :
    (Instr.makeMap t (some (.int kd n))).run P w = .ok (.map (some w.heap.size)) (w.alloc (.map #[] 0)) := by
  simp [Instr.makeMap, run_underlying ht]; rfl

theorem run_neq_ptr_other {P : Program} (w : World) {tp te : TypeId} {j : TypeInfo} {a b : Addr} {ca cb : Array Value} {ta tb : TypeId} (hp : P.underlying tp = some (.pointer te)) (hte : P.info? te = some j) (hsz : j.size ≠ 0)
    (hne : a ≠ b) (ha : w.heap[a.block]? = some (.cells ca ta (0, 0))) (hb : w.heap[b.block]? = some (.cells cb tb (0, 0))) :
    (binOp .neq tp (.pointer (some a)) (.pointer (some b))).run P w = .ok (.bool true) w := by
  have h : ∀ d : Nat, (Op.equalIn (d + 1) tp (.pointer (some a)) (.pointer (some b))).run P w = .ok false w := fun d => by
    simp [Op.equalIn, run_underlying hp, sizeOf, typeInfo, hte, hsz, run_sameAddr_other w hne ha hb]
  simp only [binOp]
  simp [Op.equal, Op.maxDepth, h 9999]

section
variable {H : Type} {enc : TypeId × Value → H} {P : Program}
theorem post_of_below {f : Func} {s : ChangeSpec} {apart fresh handsOn again : Bool} {W W' : World} {args : Array Value} {v : Value} {ds gs : List (DataW H)} {before pa pv : List MemPlace}
    (hW : DataW.Whole enc P f.params.toList s.vars apart W args.toList ds gs before)
    (hres : ∀ (b : Nat) (sp : Nat → Bool) (hd : Bool), DataW.TrodAll enc P W' b sp hd f.resultTypes.toList (v.resultList f.resultTypes.size) (s.fn H (ds ++ gs)).results [])
    (hargs : ∀ sp : Nat → Bool, (∀ p ∈ before, sp p.block = true) → DataW.TrodAll enc P W' 0 sp true f.params.toList args.toList (s.fn H (ds ++ gs)).args pa)
    (hvars : ∀ sp : Nat → Bool, (∀ p ∈ before, sp p.block = true) → DataW.TrodVars enc P W' sp s.vars (s.fn H (ds ++ gs)).vars pv)
    (hps : before = pa ++ pv) (hb : Below W.heap.size W W')
    (hok : ∀ (j : Nat) (t : TypeId) (r : Value), f.resultTypes[j]? = some t → (v.resultList f.resultTypes.size)[j]? = some r → Value.okWide P W' .any 0 t r) :
    s.post enc P f apart fresh handsOn again W args v W' := by
  have hlt : ∀ p ∈ before, p.block < W.heap.size := fun p hp => hW.lt p hp
  have hold : ∀ p ∈ before, (fun b => decide (b < W.heap.size)) p.block = true := fun p hp => by simpa using hlt p hp
  refine ⟨ds, gs, before, [], pa, pv, hW, hres _ _ _, hargs _ hold, hvars _ hold, World.keptBut_mono (fun p hp => ⟨hp, ?_⟩) (hb.frame (· ∈ before)), fun _ => ?_⟩
  · rw [hps, List.mem_append] at hp
    exact Or.inr hp
  · obtain ⟨_, _, _, _, _, hz, hn⟩ := hW
    refine ⟨hok, _, _, ([] ++ pa) ++ pv, ⟨[] ++ pa, pv, trodAll_append (hargs _ (fun _ _ => rfl)) (hres _ _ _), hvars _ (fun _ _ => rfl), rfl, ?_, ?_⟩, ?_⟩
    · intro b off hp
      have hin : MemPlace.cell b off ∈ before := by rw [hps]; simpa using hp
      rw [hb.frozen (hlt _ hin)]
      exact hz b off hin
    · intro ha
      have := hn ha
      rw [hps] at this
      simpa using this
    · intro p hp _
      rw [hps]
      simpa using hp
end
end Go.Proofs.Ytgjphmlmndcaeaa
