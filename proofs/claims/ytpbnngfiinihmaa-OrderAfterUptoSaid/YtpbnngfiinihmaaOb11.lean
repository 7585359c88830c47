/- DERIVED: THE SHELF's CONTRACTS AT THIS DUMP, IN PLAIN WORDS (tools/lay-plain.mjs out of 'YtpbnngfiinihmaaIterL.lean', which tools/lay-shelf.mjs wrote): THE SAME DECLARATIONS UNDER THE SAME NAMES: 'import', 'namespace', 'open', 'def', 'theorem' AND NOTHING ELSE: no command of the shelf's: FOR A HAND-IN. Each laying: the table of numbers ('.._ren') and one theorem, a field a fact of the dump's own or the kernel's comparison; each contract: ONE APPLICATION. WALKS: the keys of a table, sorted (slices.Sorted of maps.Keys); what order they are in. WALKS: order.table.list: a table as a list in new memory that may be written. WALKS: order.Check's closure; slices.EqualFunc over entries. -/
import Derived.Shelf.SlIter.Nil
import Derived.Shelf.SortM.Plain
import Derived.Shelf.SortM.SortNone
import Derived.Ground.GgzProg
import Derived.Ground.SlgmProg
import Derived.Test.YtpbnngfiinihmaaProg
import Derived.Test.YtpbnngfiinihmaaOb09
import Derived.Test.YtpbnngfiinihmaaOb06
import Derived.Lib.ConvBytes
set_option linter.unusedVariables false
set_option linter.unusedSimpArgs false
namespace Go.Proofs
open Go.Shelf
def Try.keys48_ren : Go.Shelf.Ren := ⟨fun | 7 => 48 | 10 => 61 | n => n, fun | 23 => 53 | 26 => 9 | 3 => 36 | 28 => 87 | 0 => 0 | 27 => 86 | 33 => 97 | 4 => 4 | n => n, fun | n => n⟩
theorem Try.keys48 : Go.Proofs.SlLaysZ.n7 Try.prog Try.keys48_ren := {
  mixed := by kernel_rfl
  f7 := ⟨Try.f48.name, by decide, Try.func48.trans (congrArg some (by kernel_rfl))⟩
  f10 := ⟨Try.f61.name, by decide, Try.func61.trans (congrArg some (by kernel_rfl))⟩
  t0 := Try.underlying0
  a0 := Try.isAgg0
  z0 := Try.sizeOf0
  v0 := Try.zeroValue0
  t4 := Try.underlying4
  a4 := Try.isAgg4
  z4 := Try.sizeOf4
  v4 := Try.zeroValue4
  t23 := Try.underlying53
  a23 := Try.isAgg53
  z23 := Try.sizeOf53
  v23 := Try.zeroValue53
  t26 := Try.underlying9
  a26 := Try.isAgg9
  z26 := Try.sizeOf9
  v26 := Try.zeroValue9
  t27 := Try.underlying86
  a27 := Try.isAgg86
  z27 := Try.sizeOf86
  v27 := Try.zeroValue86
  t28 := Try.underlying87
  a28 := Try.isAgg87
  z28 := Try.sizeOf87
  v28 := Try.zeroValue87
  t33 := Try.underlying97
  a33 := Try.isAgg97
  z33 := Try.sizeOf97
  v33 := Try.zeroValue97 }
def Try.sorted47_ren : Go.Shelf.Ren := ⟨fun | 6 => 47 | 8 => 59 | 9 => 60 | 11 => 65 | 13 => 67 | 12 => 66 | 23 => 78 | 24 => 79 | 14 => 69 | 15 => 70 | 16 => 71 | 17 => 72 | 18 => 73 | 19 => 74 | 20 => 75 | 21 => 76 | 22 => 77 | 25 => 80 | 26 => 81 | 27 => 82 | 28 => 83 | 29 => 84 | 30 => 85 | 31 => 86 | n => n, fun | 26 => 9 | 28 => 87 | 24 => 84 | 0 => 0 | 3 => 3 | 37 => 98 | 48 => 112 | 50 => 114 | 4 => 4 | 40 => 104 | 39 => 103 | 45 => 109 | 5 => 5 | 9 => 9 | 51 => 115 | 55 => 119 | 57 => 121 | 58 => 122 | 33 => 97 | n => n, fun | n => n⟩
theorem Try.sorted47 : Go.Proofs.SlLaysZ.n6 Try.prog Try.sorted47_ren := {
  mixed := by kernel_rfl
  f6 := ⟨Try.f47.name, by decide, Try.func47.trans (congrArg some (by kernel_rfl))⟩
  f8 := ⟨Try.f59.name, by decide, Try.func59.trans (congrArg some (by kernel_rfl))⟩
  f11 := ⟨Try.f65.name, by decide, Try.func65.trans (congrArg some (by kernel_rfl))⟩
  t0 := Try.underlying0
  a0 := Try.isAgg0
  z0 := Try.sizeOf0
  v0 := Try.zeroValue0
  t24 := Try.underlying84
  a24 := Try.isAgg84
  z24 := Try.sizeOf84
  v24 := Try.zeroValue84
  t26 := Try.underlying9
  a26 := Try.isAgg9
  z26 := Try.sizeOf9
  v26 := Try.zeroValue9
  t28 := Try.underlying87
  a28 := Try.isAgg87
  z28 := Try.sizeOf87
  v28 := Try.zeroValue87
  i26 := by kernel_rfl }
def Try.sort60_ren : Go.Shelf.Ren := ⟨fun | 6 => 60 | 8 => 67 | 9 => 66 | 19 => 78 | 20 => 79 | 21 => 69 | 22 => 70 | 23 => 71 | 24 => 72 | 25 => 73 | 26 => 74 | 27 => 75 | 28 => 76 | 29 => 77 | 36 => 80 | 31 => 81 | 32 => 82 | 37 => 83 | 38 => 84 | 39 => 85 | 41 => 86 | n => n, fun | 27 => 84 | 29 => 9 | 3 => 3 | 32 => 98 | 26 => 84 | 0 => 0 | 44 => 112 | 46 => 114 | 4 => 4 | 36 => 104 | 35 => 103 | 41 => 109 | 5 => 5 | 9 => 9 | 53 => 115 | 57 => 119 | 63 => 121 | 64 => 122 | n => n, fun | n => n⟩
theorem Try.sort60 : Go.Proofs.SlLaysM.n6 Try.prog Try.sort60_ren := {
  mixed := by kernel_rfl
  f6 := ⟨Try.f60.name, by decide, Try.func60.trans (congrArg some (by kernel_rfl))⟩
  f8 := Try.func67.trans (congrArg some (by kernel_rfl))
  f9 := ⟨Try.f66.name, by decide, Try.func66.trans (congrArg some (by kernel_rfl))⟩
  f19 := Try.func78.trans (congrArg some (by kernel_rfl))
  f20 := Try.func79.trans (congrArg some (by kernel_rfl))
  f21 := ⟨Try.f69.name, by decide, Try.func69.trans (congrArg some (by kernel_rfl))⟩
  f22 := ⟨Try.f70.name, by decide, Try.func70.trans (congrArg some (by kernel_rfl))⟩
  f23 := ⟨Try.f71.name, by decide, Try.func71.trans (congrArg some (by kernel_rfl))⟩
  f24 := ⟨Try.f72.name, by decide, Try.func72.trans (congrArg some (by kernel_rfl))⟩
  f25 := ⟨Try.f73.name, by decide, Try.func73.trans (congrArg some (by kernel_rfl))⟩
  f26 := ⟨Try.f74.name, by decide, Try.func74.trans (congrArg some (by kernel_rfl))⟩
  f27 := ⟨Try.f75.name, by decide, Try.func75.trans (congrArg some (by kernel_rfl))⟩
  f28 := ⟨Try.f76.name, by decide, Try.func76.trans (congrArg some (by kernel_rfl))⟩
  f29 := ⟨Try.f77.name, by decide, Try.func77.trans (congrArg some (by kernel_rfl))⟩
  f31 := Try.func81.trans (congrArg some (by kernel_rfl))
  f32 := Try.func82.trans (congrArg some (by kernel_rfl))
  f36 := ⟨Try.f80.name, by decide, Try.func80.trans (congrArg some (by kernel_rfl))⟩
  f37 := ⟨Try.f83.name, by decide, Try.func83.trans (congrArg some (by kernel_rfl))⟩
  f38 := ⟨Try.f84.name, by decide, Try.func84.trans (congrArg some (by kernel_rfl))⟩
  f39 := ⟨Try.f85.name, by decide, Try.func85.trans (congrArg some (by kernel_rfl))⟩
  f41 := ⟨Try.f86.name, by decide, Try.func86.trans (congrArg some (by kernel_rfl))⟩
  t0 := Try.underlying0
  a0 := Try.isAgg0
  z0 := Try.sizeOf0
  v0 := Try.zeroValue0
  t3 := Try.underlying3
  a3 := Try.isAgg3
  z3 := Try.sizeOf3
  v3 := Try.zeroValue3
  t4 := Try.underlying4
  a4 := Try.isAgg4
  z4 := Try.sizeOf4
  v4 := Try.zeroValue4
  t5 := Try.underlying5
  a5 := Try.isAgg5
  z5 := Try.sizeOf5
  v5 := Try.zeroValue5
  t9 := Try.underlying9
  a9 := Try.isAgg9
  z9 := Try.sizeOf9
  v9 := Try.zeroValue9
  t26 := Try.underlying84
  a26 := Try.isAgg84
  z26 := Try.sizeOf84
  v26 := Try.zeroValue84
  t27 := Try.underlying84
  a27 := Try.isAgg84
  z27 := Try.sizeOf84
  v27 := Try.zeroValue84
  t29 := Try.underlying9
  a29 := Try.isAgg9
  z29 := Try.sizeOf9
  v29 := Try.zeroValue9
  t32 := Try.underlying98
  a32 := Try.isAgg98
  z32 := Try.sizeOf98
  v32 := Try.zeroValue98
  t35 := Try.underlying103
  a35 := Try.isAgg103
  z35 := Try.sizeOf103
  v35 := Try.zeroValue103
  t36 := Try.underlying104
  a36 := Try.isAgg104
  z36 := Try.sizeOf104
  v36 := Try.zeroValue104
  t41 := Try.underlying109
  a41 := Try.isAgg109
  z41 := Try.sizeOf109
  v41 := Try.zeroValue109
  t44 := Try.underlying112
  a44 := Try.isAgg112
  z44 := Try.sizeOf112
  v44 := Try.zeroValue112
  t46 := Try.underlying114
  a46 := Try.isAgg114
  z46 := Try.sizeOf114
  v46 := Try.zeroValue114
  t53 := Try.underlying115
  a53 := Try.isAgg115
  z53 := Try.sizeOf115
  v53 := Try.zeroValue115
  t57 := Try.underlying119
  a57 := Try.isAgg119
  z57 := Try.sizeOf119
  v57 := Try.zeroValue119
  t63 := Try.underlying121
  a63 := Try.isAgg121
  z63 := Try.sizeOf121
  v63 := Try.zeroValue121
  t64 := Try.underlying122
  a64 := Try.isAgg122
  z64 := Try.sizeOf122
  v64 := Try.zeroValue122 }
end Go.Proofs

namespace Go.Proofs.Ytpbnngfiinihmaa
open Go.RowKit Go.Maps Go.Sort Go.Shelf
open Go.Lib (compareBytes)
theorem sorts_in (m : Nat) : AnyZ.SortsIn Try.prog Try.sorted47_ren Fence.wide m :=
  ⟨fun blk off cap ss W hH hblk hsz => callsIn_wide.2 (AnyM.slices_Sort_string Try.sort60 blk off cap ss W hH hblk hsz),
   fun p cap W => callsIn_wide.2 (AnyM.slices_Sort_string_none Try.sort60 p cap W)⟩
theorem keys_call (mb : Option Nat) (W : World) : Calls Try.prog 48 #[.map mb] W fun e w' => e = .returned (.func (.func 61) #[] #[.pointer (some ⟨W.heap.size, 0, none⟩)]) ∧ w' = W.alloc (.cells #[.map mb] 53) :=
  (callsIn_wide (n := 5)).1 (AnyZ.keys_in Try.keys48 Fence.wide 5 trivial rfl mb W)
set_option maxHeartbeats 1000000 in
theorem sorted_call {H : Type} (b nn : Nat) (D0 : DataW H) (R : Value → Option (DataW H × List MemPlace)) (w : World) (hown : w.ownsMap Try.prog 9 R b nn D0) (hmax : Maps.size D0 ≤ maxLen) (hbytes : Maps.size D0 * 16 ≤ 140737488355328) :
    Calls Try.prog 47 #[.func (.func 61) #[] #[.pointer (some ⟨w.heap.size, 0, none⟩)]] (w.alloc (.cells #[.map (some b)] 53)) fun e w' => ∃ (v : Value) (ss : List (List UInt8)), e = .returned v ∧ ss.Perm (strKeys D0) ∧
      w'.ownsRow (w.alloc (.cells #[.map (some b)] 53)).heap.size 9 1 v ss.length ((ss.mergeSort (fun x y => decide (x ≤ y))).map encStr) ∧ (v = .slice none 0 0 ↔ ss = []) ∧ Below (w.alloc (.cells #[.map (some b)] 53)).heap.size (w.alloc (.cells #[.map (some b)] 53)) w' := by
  refine (callsIn_wide (n := 5)).1 ?_
  have hbl := hown.lt
  have hseq : SeqGives Fence.wide 2 Try.prog 61 #[.pointer (some ⟨w.heap.size, 0, none⟩)] encStr (fun ss => ss.Perm (strKeys D0)) (Maps.size D0) (w.alloc (.cells #[.map (some b)] 53)) :=
    AnyZ.keys_gives (ρ := Try.keys48_ren) { Try.keys48 with } Fence.wide _ trivial rfl (by omega) w.heap.size b nn D0 _ (by simp) (by simp) (by
      obtain ⟨es, clock, hb, Ft, hs, hD⟩ := hown
      exact ⟨es, clock, (Below.heap_alloc _ _ b hbl).trans hb, Ft, hs, hD⟩)
  exact AnyZ.sorted_in Try.sorted47 Fence.wide 5 trivial trivial trivial trivial rfl (by omega) (sorts_in _) (enters_of Try.func60 (by kernel_rfl) rfl) 61 #[.pointer (some ⟨w.heap.size, 0, none⟩)] trivial (enters_of Try.func61 (by kernel_rfl) rfl) _ _ hmax hbytes _ hseq
theorem le_of_cb : ∀ (a b : List UInt8), compareBytes a b < 0 → a ≤ b
  | [], _, _ => List.nil_le _
  | _ :: _, [], h => by simp [compareBytes] at h
  | x :: a, y :: b, h => by
    unfold compareBytes at h
    rw [List.cons_le_cons_iff]
    by_cases h1 : x < y
    · exact .inl h1
    · rw [if_neg h1] at h
      by_cases h2 : y < x
      · rw [if_pos h2] at h; omega
      · rw [if_neg h2] at h
        refine .inr ⟨?_, le_of_cb a b h⟩
        have n1 : ¬ x.toNat < y.toNat := fun h => h1 (UInt8.lt_iff_toNat_lt.2 h)
        have n2 : ¬ y.toNat < x.toNat := fun h => h2 (UInt8.lt_iff_toNat_lt.2 h)
        exact UInt8.toNat.inj (by omega)
/-- the keys of a table are those of its list; sorted, they stand as there -/
theorem TabM.keys {w : World} {b n : Nat} {F : Nat → Prop} {m : List Ent} (hu : Up m) {D : DataW Value} (hD : w.ownsMap Try.prog 9 rawE b n D) (hc : ∀ k, has D (kl k) = (hasE m k).isSome) {ss : List (List UInt8)} (hp : ss.Perm (strKeys D)) :
    ss.mergeSort (fun x y => decide (x ≤ y)) = m.map (·.1) ∧ ss.length = m.length := by
  obtain ⟨es, rfl, hne, hkl⟩ := hD.entries strKeyed
  obtain ⟨es', e', hko⟩ := hD.keysOf
  injection e' with e'
  subst e'
  have hstr : ∀ p ∈ es, ∃ x, p.1 = .string x := fun p hp => by
    obtain ⟨v, hv⟩ := hko p hp
    obtain ⟨x, _, hx, _⟩ := Maps.keyOf_str Try.underlying9 hv
    exact ⟨x, hx⟩
  have hnd : (m.map (·.1)).Nodup := by
    have : (m.map (·.1)).Pairwise TLt := List.pairwise_map.2 hu
    exact this.imp (fun h => h.ne)
  have hm : (m.map (·.1)).Perm (strKeys (.map es)) := perm_strKeys hne hstr hnd (fun x => by
    have h1 := hc x
    unfold kl at h1
    rw [h1, List.mem_map]
    constructor
    · rintro ⟨e, he, rfl⟩
      rw [hu.has (k := e.1) (v := e.2) he]; rfl
    · intro h
      cases hh : hasE m x with
      | none => rw [hh] at h; cases h
      | some v => exact ⟨(x, v), hasE_mem hh, rfl⟩)
  have hperm : ss.Perm (m.map (·.1)) := hp.trans hm.symm
  refine ⟨?_, by rw [hperm.length_eq, List.length_map]⟩
  have h1 : ss.mergeSort (fun x y => decide (x ≤ y)) = (m.map (·.1)).mergeSort (fun x y => decide (x ≤ y)) := mergeSort_of_perm hperm
  rw [h1]
  refine List.mergeSort_of_pairwise ?_
  have : (m.map (·.1)).Pairwise TLt := List.pairwise_map.2 hu
  exact this.imp (fun h => by simpa using le_of_cb _ _ h)
end Go.Proofs.Ytpbnngfiinihmaa

namespace Go.Proofs.Ytpbnngfiinihmaa
open Go.RowKit Go.Maps
/-- a slice's cells may be written; they lie in F -/
def Wrt (w : World) (F : Nat → Prop) (v : Value) : Prop := ∃ A n c, v = .slice A n c ∧ (0 < n → ∃ b o, A = some ⟨b, o, none⟩ ∧ F b ∧ b < w.heap.size ∧ ∀ j, j < n → w.frozen? ⟨b, o + j, none⟩ = false)
/-- a text that may be written -/
def TS (w : World) (F : Nat → Prop) (v : Value) (bs : List UInt8) : Prop := SB w F v bs ∧ Wrt w F v
theorem frozen_chg {S : Nat → Prop} {w w' : World} (h : Chg S w w') {b o : Nat} (hb : b < w.heap.size) (hs : ¬ S b) : w'.frozen? ⟨b, o, none⟩ = w.frozen? ⟨b, o, none⟩ := by
  unfold World.frozen?; rw [h.block b hb hs]
theorem TS.next {S F G : Nat → Prop} {w w' : World} {v : Value} {bs : List UInt8} (h : TS w F v bs) (hc : Chg S w w') (hs : ∀ b, b < w.heap.size → F b → ¬ S b) (hG : ∀ b, b < w.heap.size → F b → G b) : TS w' G v bs := by
  obtain ⟨h1, A, n, c, rfl, h2⟩ := h
  refine ⟨(h1.lt.chg hc (fun b hb => hs b hb.2 hb.1)).weak (fun b hb => hG b hb.2 hb.1), A, n, c, rfl, fun hn => ?_⟩
  obtain ⟨b, o, e, hF, hl, hf⟩ := h2 hn
  exact ⟨b, o, e, hG b hl hF, Nat.lt_of_lt_of_le hl hc.size, fun j hj => by rw [frozen_chg hc hl (hs b hl hF)]; exact hf j hj⟩
theorem TS.of_new {w0 w : World} {bs : List UInt8} {e : Ending} (h : NewText w0 bs e w) : ∃ A n c, e = .returned (.slice A n c) ∧ TS w (From w0.heap.size) (.slice A n c) bs ∧ Below w0.heap.size w0 w := by
  obtain ⟨A, n, c, e1, h1, h2, h3, h4, h5⟩ := h
  refine ⟨A, n, c, e1, ⟨⟨A, n, c, rfl, h1, h2, h3.out, h4.weak (fun b hb => hb.1)⟩, A, n, c, rfl, fun hn => ?_⟩, h5⟩
  obtain ⟨b, o, eA, ⟨hF, hS⟩, hcell⟩ := h4.2 hn
  have hl : 0 < (bvs bs).length := by rw [h4.1]; omega
  have := cell_lt (hcell 0 _ (List.getElem?_eq_getElem hl))
  exact ⟨b, o, eA, hF, this, fun j _ => hS _⟩
/-- entries one behind the other, in a row of their own; their texts lie from base on, off that row, and may be written -/
structure El (w : World) (base : Nat) (out : Value) (us : List Value) (l : List Ent) : Prop where
  own : w.ownsRow base 38 2 out l.length us
  at_ : ∀ (i : Nat) (e : Ent), l[i]? = some e → ∃ u v, us[2 * i]? = some u ∧ us[2 * i + 1]? = some v ∧ TS w (fun b => base ≤ b ∧ out.ownBlock ≠ some b) u e.1 ∧ TS w (fun b => base ≤ b ∧ out.ownBlock ≠ some b) v e.2
section
variable {S : Nat → Prop} {w w' : World} {base : Nat} {out : Value} {us : List Value} {l : List Ent}
theorem El.nil (w : World) (base : Nat) : El w base (.slice none 0 0) [] [] := ⟨World.ownsRow_nil _ _ _ _, fun i e h => by simp at h⟩
theorem El.chg (h : El w base out us l) (hc : Chg S w w') (hs : ∀ b, base ≤ b → b < w.heap.size → ¬ S b) : El w' base out us l :=
  ⟨own_chg h.own hc (fun b hb => hs b (own_lt h.own b hb).1 (own_lt h.own b hb).2), fun i e he => let ⟨u, v, a, b, c, d⟩ := h.at_ i e he; ⟨u, v, a, b, c.next hc (fun x hl hx => hs x hx.1 hl) (fun _ _ h => h), d.next hc (fun x hl hx => hs x hx.1 hl) (fun _ _ h => h)⟩⟩
theorem El.below (h : El w base out us l) (hb : Below w.heap.size w w') : El w' base out us l := h.chg (S := Nil) (Chg.of_below hb) (fun _ _ _ h => h)
theorem El.push {v2 u v : Value} {e : Ent} (h : El w base out us l) (ho : w'.ownsRow base 38 2 v2 (l.length + 1) (us ++ [u, v])) (hg : w.grownBy w' out.ownBlock) (hat : v2.ownBlock = out.ownBlock ∨ v2.ownBlock = some w.heap.size)
    (hu : TS w (fun b => base ≤ b ∧ out.ownBlock ≠ some b) u e.1) (hv : TS w (fun b => base ≤ b ∧ out.ownBlock ≠ some b) v e.2) : El w' base v2 (us ++ [u, v]) (l ++ [e]) := by
  have hl : us.length = l.length * 2 := h.own.1
  have key : ∀ b, b < w.heap.size → (base ≤ b ∧ out.ownBlock ≠ some b) → (base ≤ b ∧ v2.ownBlock ≠ some b) := fun b hb hx => ⟨hx.1, fun e => by
    rcases hat with h | h
    · exact hx.2 (h ▸ e)
    · rw [h] at e; injection e with e; omega⟩
  have hcg : Chg (fun b => out.ownBlock = some b) w w' := (Chg.refl _ _).grown hg (fun _ hk _ => hk)
  have nx : ∀ {x : Value} {bs : List UInt8}, TS w (fun b => base ≤ b ∧ out.ownBlock ≠ some b) x bs → TS w' (fun b => base ≤ b ∧ v2.ownBlock ≠ some b) x bs := fun hx => hx.next hcg (fun b _ hb e => hb.2 e) key
  refine ⟨by rw [List.length_append]; exact ho, fun i e' hi => ?_⟩
  rcases Nat.lt_or_ge i l.length with h1 | h1
  · rw [List.getElem?_append_left h1] at hi
    obtain ⟨x, y, a, b, s1, s2⟩ := h.at_ i e' hi
    exact ⟨x, y, by rw [List.getElem?_append_left (by omega)]; exact a, by rw [List.getElem?_append_left (by omega)]; exact b, nx s1, nx s2⟩
  · rw [List.getElem?_append_right h1] at hi
    have hi0 : i = l.length := by have := (List.getElem?_eq_some_iff.1 hi).1; simp at this; omega
    subst hi0
    simp at hi
    subst hi
    refine ⟨u, v, ?_, ?_, nx hu, nx hv⟩
    · rw [List.getElem?_append_right (by omega), show 2 * l.length - us.length = 0 by omega]; rfl
    · rw [List.getElem?_append_right (by omega), show 2 * l.length + 1 - us.length = 1 by omega]; rfl
theorem El.mono {b2 : Nat} (h : El w base out us l) (hb : b2 ≤ base) : El w b2 out us l :=
  ⟨own_mono h.own hb, fun i e he => let ⟨u, v, a, b, c, d⟩ := h.at_ i e he; ⟨u, v, a, b, c.next (S := Nil) (Chg.refl _ _) (fun _ _ _ h => h) (fun _ _ h => ⟨Nat.le_trans hb h.1, h.2⟩), d.next (S := Nil) (Chg.refl _ _) (fun _ _ _ h => h) (fun _ _ h => ⟨Nat.le_trans hb h.1, h.2⟩)⟩⟩
theorem El.ents {A : Option Addr} {n c : Nat} (h : El w base (.slice A n c) us l) (hn : n = l.length) : Ents w (fun b => base ≤ b) A n l := by
  subst hn
  exact ⟨Lib.hid rfl, us, (Rd.of_own h.own).weak (fun _ hb => hb), fun i e he => let ⟨u, v, a, b, s1, s2⟩ := h.at_ i e he; ⟨u, v, a, b, s1.1.weak (fun _ hb => hb.1), s2.1.weak (fun _ hb => hb.1)⟩⟩
end
/-- the answer is a list in new memory that may be written -/
def NewList (w : World) (l : List Ent) (e : Ending) (w' : World) : Prop := ∃ A n c us, e = .returned (.slice A n c) ∧ n = l.length ∧ El w' w.heap.size (.slice A n c) us l ∧ Below w.heap.size w w'
/-- a text made of a string -/
theorem bytes_new (w : World) (k : List UInt8) (hk : k.length ≤ 281474976710656) : ∃ c w', (convert 9 36 (.string (sOf k))).run Try.prog w = .ok (.slice (some ⟨w.heap.size, 0, none⟩) k.length c) w' ∧ TS w' (fun b => b = w.heap.size) (.slice (some ⟨w.heap.size, 0, none⟩) k.length c) k ∧ Below w.heap.size w w' ∧ w'.heap.size = w.heap.size + 1 := by
  have hsz : (sOf k).size = k.length := by simp [sOf, ByteArray.size]
  have hrun := Lib.run_convert_string_bytes (P := Try.prog) w 9 36 5 (sOf k) Try.underlying9 Try.underlying36 Try.underlying5
  rw [hsz] at hrun
  have hold : Below w.heap.size w (Lib.bytesWorld w 5 (sOf k)) := ⟨rfl, rfl, rfl, by rw [Lib.bytesWorld_size]; omega, fun j hj => Lib.bytesWorld_at_old w _ _ j hj⟩
  have hg : k.length ≤ (Lib.bytesCells w 5 (sOf k)).size := by
    unfold Lib.bytesCells
    simp [sOf]
  refine ⟨_, _, hrun, ⟨⟨_, _, _, rfl, grownCap_ge _ _ _ _, grownCap_le_maxLen _ _ _ _ (by simp only [maxLen]; omega), rfl, by rw [bvs_len, Nat.mul_one], fun hn => ⟨_, 0, rfl, rfl, fun j u hu => ?_⟩⟩, _, _, _, rfl, fun hn => ⟨_, 0, rfl, rfl, by rw [Lib.bytesWorld_size]; omega, fun j hj => ?_⟩⟩, hold, Lib.bytesWorld_size _ _ _⟩
  · obtain ⟨b, hb, rfl⟩ := bvs_at hu
    have hj : j < k.length := (List.getElem?_eq_some_iff.1 hb).1
    rw [Nat.zero_add, Lib.bytesWorld_cell w _ _ j (by rw [hsz]; exact hj)]
    unfold bv
    have : (sOf k).data.toList = k := by simp [sOf]
    rw [this, List.getD_eq_getElem?_getD, hb]; rfl
  · unfold World.frozen?
    rw [Lib.bytesWorld_at_new]
    simp
    omega
noncomputable def lsC : Code := codeOr (Try.f25.body.bind (regionAt 5))
set_option maxRecDepth 100000 in
set_option maxHeartbeats 4000000 in
theorem list_round (base b n : Nat) (F : Nat → Prop) (m : List Ent) (key val : List UInt8) (out : Value) (us : List Value) (lo : List Ent) (w : World) {u1 u2 u4 u6 u7 u8 u9 u10 u11 u12 u13 u14 u15 u16 u17 u18 u19 u20 u21 u22 u23 u24 u25 : Value} (Q : Exit → Act → World → Prop)
    (HT : Hid (TabM w b n F m)) (hkv : hasE m key = some val) (hk : key.length ≤ 1048576) (hv : val.length ≤ 1152921504606) (HE : Hid (El w base out us lo)) (hlo : lo.length ≤ 1152921504) (hbase : base ≤ w.heap.size) (hb : b < base)
    (hexit : ∀ (v14 v15 v16 v17 v18 v19 v20 v21 v22 v23 : Value) (out2 : Value) (us2 : List Value) (w' : World), El w' base out2 us2 (lo ++ [(key, val)]) → Below base w w' → Q .normal ⟨(.map (some b) :: u1 :: u2 :: out2 :: u4 :: .string (sOf key) :: u6 :: u7 :: u8 :: u9 :: u10 :: u11 :: u12 :: u13 :: v14 :: v15 :: v16 :: v17 :: v18 :: v19 :: v20 :: v21 :: v22 :: v23 :: u24 :: u25 :: []).toArray, []⟩ w') :
    Code.wp Try.prog lsC Q ⟨(.map (some b) :: u1 :: u2 :: out :: u4 :: .string (sOf key) :: u6 :: u7 :: u8 :: u9 :: u10 :: u11 :: u12 :: u13 :: u14 :: u15 :: u16 :: u17 :: u18 :: u19 :: u20 :: u21 :: u22 :: u23 :: u24 :: u25 :: []).toArray, []⟩ w := by
  have HEX := Lib.hid hexit
  obtain ⟨A, c2, hA, hA1, hA2⟩ := own_val HE.out.own
  subst hA
  obtain ⟨i0, hi0, iz0, iz1, iz2⟩ := info_parts entry_info
  obtain ⟨kc, w1, hconv, hts, hb1, hs1⟩ := bytes_new w key (by omega)
  have HTS := Lib.hid hts
  have HB1 := Lib.hid hb1
  have HS1 := Lib.hid hs1
  obtain ⟨vA, vn, vc, _, hlk, hsb⟩ := (HT.out.below hb1).look (k := key) (by simp only [maxLen]; omega)
  rw [hkv] at hsb
  obtain ⟨p1, p2, p3, p4⟩ := hsb.parts
  have HP3 := Lib.hid p3
  have HP4 := Lib.hid p4
  have hvn : vn ≤ 1152921504606 := by have h3 := p3; simp only [Option.getD_some] at h3; omega
  have hll : lo.length ≤ 1152921504606 := by omega
  clear hexit hts hb1 hs1 hsb p3 p4
  conv => arg 2; whnf
  go_wp2_with (first | (go_at_call 49; go_loud (refine (clone_any vA vn vc F val w1 HP4.out HP3.out hvn).mono ?_); intro e w2 hnt; obtain ⟨nA, nn, nc, rfl, hts2, hb2⟩ := TS.of_new hnt; have HT2 := Lib.hid hts2; have HB2 := Lib.hid hb2; clear hnt hts2 hb2) | (at_builtin; go_loud (refine wpList_append_any _ rfl (.tmp 14) (.tmp 22) _ rfl base 38 i0 _ 2 48 Try.underlying27 hi0 iz0 iz1 iz2 rfl (by omega) (.slice A lo.length c2) lo.length us rfl (own_below (own_below (own_below HE.out.own HB1.out) (HB2.out.mono (Nat.le_refl _))) ((Below.refl _ _).alloc (Nat.le_refl _) _)) (From w2.heap.size) (some ⟨w2.heap.size, 0, none⟩) 1 1 [.slice (some ⟨w.heap.size, 0, none⟩) key.length kc, .slice nA nn nc] rfl (Rd.two w2 _ _ 38) (by simp [Value.oneCell']) (by simp only [maxLen]; omega) (by omega) (by have h1 := HB1.out.size; have h2 := HB2.out.size; simp; omega) ?_); intro v6 w6 hown6 hg6 hat6; have HO6 := Lib.hid hown6; have HG6 := Lib.hid hg6; have HA6 := Lib.hid hat6; clear hown6 hg6 hat6))
  have h1 := HB1.out.size
  have h2 := HB2.out.size
  have hs1 := HS1.out
  have hob : ∀ g, (Value.slice A lo.length c2).ownBlock = some g → base ≤ g ∧ g < w.heap.size := fun g hg => own_lt HE.out.own g hg
  have hba : Below w2.heap.size w2 (w2.alloc (.cells #[.slice (some ⟨w.heap.size, 0, none⟩) key.length kc, .slice nA nn nc] 38)) := (Below.refl _ _).alloc (Nat.le_refl _) _
  have E3 := ((HE.out.below HB1.out).below HB2.out).below hba
  have T1 : TS (w2.alloc (.cells #[.slice (some ⟨w.heap.size, 0, none⟩) key.length kc, .slice nA nn nc] 38)) (fun g => base ≤ g ∧ (Value.slice A lo.length c2).ownBlock ≠ some g) (.slice (some ⟨w.heap.size, 0, none⟩) key.length kc) key :=
    (HTS.out.next (S := Nil) (G := fun g => g = w.heap.size) (Chg.of_below (HB2.out.trans (hba.mono h2))) (fun _ _ _ h => h) (fun _ _ h => h)).next (S := Nil) (Chg.refl _ _) (fun _ _ _ h => h) (fun g _ hg => by
      refine ⟨by omega, fun e => ?_⟩
      have := (hob g e).2
      omega)
  have T2 : TS (w2.alloc (.cells #[.slice (some ⟨w.heap.size, 0, none⟩) key.length kc, .slice nA nn nc] 38)) (fun g => base ≤ g ∧ (Value.slice A lo.length c2).ownBlock ≠ some g) (.slice nA nn nc) val :=
    HT2.out.next (S := Nil) (Chg.of_below hba) (fun _ _ _ h => h) (fun g _ hg => by
      have hg : w1.heap.size ≤ g := hg
      refine ⟨by omega, fun e => ?_⟩
      have := (hob g e).2
      omega)
  have E6 := E3.push (e := (key, val)) HO6.out HG6.out HA6.out T1 T2
  have hall : Below base w w6 := ((HB1.out.mono hbase).trans ((HB2.out.mono (by omega)).trans (hba.mono (by omega)))).trans (((Chg.refl (fun g => (Value.slice A lo.length c2).ownBlock = some g) _).grown HG6.out (fun _ hk _ => hk)).below_of (by simp; omega) (fun g hg e => by have := (hob g e).1; omega))
  exact HEX.out _ _ _ _ _ _ _ _ _ _ _ _ _ E6 hall
theorem Up.at_ {m : List Ent} (h : Up m) {i : Nat} {e : Ent} (he : m[i]? = some e) : hasE m e.1 = some e.2 := h.has (List.mem_of_getElem? he)
set_option maxRecDepth 100000 in
set_option maxHeartbeats 4000000 in
theorem list_any (b n : Nat) (F : Nat → Prop) (m : List Ent) (w : World) (hT : TabM w b n F m) (hu : Up m) (hs : Short 1048576 m) (hn : n ≤ 1152921504) (hml : m.length ≤ 1152921504) :
    Calls Try.prog 25 #[.map (some b)] w (NewList w m) := by
  have HT := Lib.hid hT
  have HU := Lib.hid hu
  have HS := Lib.hid hs
  have hblt := hT.lt
  obtain ⟨D, hD, hI, hc, hd⟩ := hT
  have HD := Lib.hid hD
  have HC := Lib.hid hc
  have hsz := hD.size_le
  clear hu hs hI hc hd hD
  go_enter Try.func25, Try.ntmps25
  go_upto_region 3 with (first | (go_at_call 48; refine (keys_call _ _).mono ?_; rintro e w' ⟨rfl, rfl⟩) | (go_at_call 47; go_loud (refine (sorted_call b n D rawE w HD.out (by simp only [maxLen]; omega) (by omega)).mono ?_); rintro e w2 ⟨v, ss, rfl, hS, hrow, _, hb2⟩; obtain ⟨sA, sc, hv, hv1, hv2⟩ := own_val hrow; subst hv; have HS2 := Lib.hid hS; have HRW := Lib.hid hrow; have HB2 := Lib.hid ((((Below.refl w.heap.size w).alloc (Nat.le_refl _) (.cells #[.map (some b)] 53))).trans (hb2.mono (by simp))); clear hS hrow hb2))
  obtain ⟨hk1, hk2⟩ := TabM.keys (F := F) HU.out HD.out HC.out HS2.out
  have HROW : Hid (Rd w2 (fun _ => True) 1 sA m.length (m.map (fun e => .string (sOf e.1)))) := Lib.hid (by
    have h1 := HRW.out
    rw [hk1, hk2, List.map_map] at h1
    exact (Rd.of_own h1).weak (fun _ _ => trivial))
  obtain ⟨sn, hsn⟩ : ∃ sn, sn = ss.length := ⟨_, rfl⟩
  rw [← hsn]
  have HSN : Hid (sn = m.length) := Lib.hid (hsn.trans hk2)
  rw [← HSN.out] at HROW
  have hsn2 : sn ≤ 1152921504 := by rw [HSN.out]; exact hml
  have hb0 : w.heap.size ≤ w2.heap.size := HB2.out.size
  clear hk1 hk2 hsn hsz
  go_loopg [10, 3] sn (fun g' iv v wz => ∃ (k : Nat) (us : List Value), g' = sn - k ∧ k ≤ sn ∧ iv = .int .i64 k ∧ El wz w2.heap.size v us (m.take k) ∧ Below w.heap.size w wz ∧ Below w2.heap.size w2 wz)
  case atStart => exact ⟨0, [], by omega, by omega, rfl, El.nil _ _, HB2.out, Below.refl _ _⟩
  case round =>
    obtain ⟨k, us, hg, hk, rfl, hel, hb, hb2⟩ := hrel
    have HG := Lib.hid hg
    have HEL := Lib.hid hel
    have HB := Lib.hid hb
    have HB3 := Lib.hid hb2
    clear hg hel hb hb2
    by_cases hlt : k < sn
    · have hlt' : (k : Int) < (sn : Int) := by omega
      have hkm : k < m.length := by rw [← HSN.out]; exact hlt
      obtain ⟨g, o, u, rfl, _, hu, zc⟩ := (HROW.out.below HB3.out).at_ hlt
      obtain ⟨⟨key, val⟩, hm⟩ : ∃ e, m[k]? = some e := ⟨_, List.getElem?_eq_getElem hkm⟩
      rw [List.getElem?_map, hm] at hu
      injection hu with hu
      simp only at hu
      subst hu
      have HM := Lib.hid hm
      obtain ⟨s1, s2⟩ := HS.out _ (List.mem_of_getElem? hm)
      have hlk := HU.out.at_ hm
      have htl : (m.take k).length ≤ 1152921504 := by rw [List.length_take]; omega
      clear hm
      go_upto_region 5 with fail
      refine list_round w2.heap.size b n F m key val _ us (m.take k) wr _ (Lib.hid (HT.out.below HB.out)) hlk s1 (by simp only at s2; omega) HEL htl HB3.out.size (by omega) ?_
      intro v14 v15 v16 v17 v18 v19 v20 v21 v22 v23 out2 us2 w4 he4 hb4
      have HE4 := Lib.hid he4
      have HB4 := Lib.hid (HB.out.trans (hb4.mono hb0))
      have HB5 := Lib.hid (HB3.out.trans hb4)
      clear he4 hb4
      go_wp2
      go_roundg (sn - (k + 1))
      case measure => have := HG.out; omega
      case rel =>
        have e : m.take (k + 1) = m.take k ++ [(key, val)] := by rw [List.take_add_one, HM.out]; rfl
        exact ⟨k + 1, us2, rfl, by omega, by go_num, by rw [e]; exact HE4.out, HB4.out, HB5.out⟩
    · have hkn : k = sn := by omega
      subst hkn
      go_wp2
      go_ret
      obtain ⟨A2, c2, e2, _, _⟩ := own_val HEL.out.own
      subst e2
      have e : m.take k = m := List.take_of_length_le (by have := HSN.out; omega)
      have h1 := HEL.out
      refine ⟨A2, _, c2, us, rfl, by rw [e], ?_, HB.out⟩
      have h2 := h1.mono hb0
      rw [e] at h2 ⊢
      exact h2
end Go.Proofs.Ytpbnngfiinihmaa

namespace Go.Proofs.Ytpbnngfiinihmaa
open Go.RowKit
set_option maxRecDepth 100000 in
set_option maxHeartbeats 4000000 in
theorem checkC_any (A1 A2 B1 B2 : Option Addr) (n1 c1 n2 c2 m1 d1 m2 d2 : Nat) (k1 v1 k2 v2 : List UInt8) (w : World) (h1 : SB w Any (.slice A1 n1 c1) k1) (h2 : SB w Any (.slice A2 n2 c2) v1) (h3 : SB w Any (.slice B1 m1 d1) k2) (h4 : SB w Any (.slice B2 m2 d2) v2) :
    Calls Try.prog 26 #[.agg #[.slice A1 n1 c1, .slice A2 n2 c2], .agg #[.slice B1 m1 d1, .slice B2 m2 d2]] w fun e w' => (∃ rb : Bool, e = .returned (.bool rb) ∧ (rb = true ↔ (k1 = k2 ∧ v1 = v2))) ∧ Below w.heap.size w w' := by
  have H1 := Lib.hid h1
  have H2 := Lib.hid h2
  have H3 := Lib.hid h3
  have H4 := Lib.hid h4
  clear h1 h2 h3 h4
  obtain ⟨kb, hkb⟩ : ∃ kb, kb = decide (k1 = k2) := ⟨_, rfl⟩
  obtain ⟨vb, hvb⟩ : ∃ vb, vb = decide (v1 = v2) := ⟨_, rfl⟩
  have HKB := Lib.hid hkb
  have HVB := Lib.hid hvb
  clear hkb hvb
  go_enter Try.func26, Try.ntmps26
  go_upto_region 1 with fail
  obtain ⟨w1, hw1⟩ : ∃ W, W = (w.alloc (.cells #[.slice A1 n1 c1, .slice A2 n2 c2] 38)).alloc (.cells #[.slice B1 m1 d1, .slice B2 m2 d2] 38) := ⟨_, rfl⟩
  rw [← hw1]
  have HB : Hid (Below w.heap.size w w1) := Lib.hid (by rw [hw1]; exact ((Below.refl _ _).alloc (Nat.le_refl _) _).alloc (by simp) _)
  have K1 : Hid (Blk w1 w.heap.size 38 #[.slice A1 n1 c1, .slice A2 n2 c2]) := Lib.hid (by rw [hw1]; exact (Blk.new _ _ _).alloc _)
  have K2 : Hid (Blk w1 (w.heap.size + 1) 38 #[.slice B1 m1 d1, .slice B2 m2 d2]) := Lib.hid (by rw [hw1]; have := Blk.new (w.alloc (.cells #[.slice A1 n1 c1, .slice A2 n2 c2] 38)) 38 #[.slice B1 m1 d1, .slice B2 m2 d2]; simpa using this)
  have P1 := Lib.hid ((H1.out.below HB.out).parts)
  have P2 := Lib.hid ((H2.out.below HB.out).parts)
  have P3 := Lib.hid ((H3.out.below HB.out).parts)
  have P4 := Lib.hid ((H4.out.below HB.out).parts)
  clear hw1
  have z0 : w1.cell? ⟨w.heap.size, 0, none⟩ = some (.slice A1 n1 c1) := K1.out.cell 0
  have z1 : w1.cell? ⟨w.heap.size, 1, none⟩ = some (.slice A2 n2 c2) := K1.out.cell 1
  have y0 : w1.cell? ⟨w.heap.size + 1, 0, none⟩ = some (.slice B1 m1 d1) := K2.out.cell 0
  have y1 : w1.cell? ⟨w.heap.size + 1, 1, none⟩ = some (.slice B2 m2 d2) := K2.out.cell 1
  cases kb with
  | false =>
    go_wp2_with (go_at_call 27; first | (refine (equal_any Any Any A1 B1 n1 c1 m1 d1 k1 k2 w1 P1.out.2.2.2 P1.out.2.2.1 P3.out.2.2.2 P3.out.2.2.1).mono ?_; rintro e w2 ⟨rfl, rfl⟩; rw [← HKB.out]) | (refine (equal_any Any Any A2 B2 n2 c2 m2 d2 v1 v2 w1 P2.out.2.2.2 P2.out.2.2.1 P4.out.2.2.2 P4.out.2.2.1).mono ?_; rintro e w2 ⟨rfl, rfl⟩; rw [← HVB.out]))
    go_ret
    exact ⟨⟨false, rfl, fun h => (by cases h), fun h => absurd h.1 (of_decide_eq_false HKB.out.symm)⟩, HB.out⟩
  | true =>
    go_wp2_with (go_at_call 27; first | (refine (equal_any Any Any A1 B1 n1 c1 m1 d1 k1 k2 w1 P1.out.2.2.2 P1.out.2.2.1 P3.out.2.2.2 P3.out.2.2.1).mono ?_; rintro e w2 ⟨rfl, rfl⟩; rw [← HKB.out]) | (refine (equal_any Any Any A2 B2 n2 c2 m2 d2 v1 v2 w1 P2.out.2.2.2 P2.out.2.2.1 P4.out.2.2.2 P4.out.2.2.1).mono ?_; rintro e w2 ⟨rfl, rfl⟩; rw [← HVB.out]))
    go_ret
    refine ⟨⟨vb, rfl, ?_⟩, HB.out⟩
    rw [HVB.out]
    simp [of_decide_eq_true HKB.out.symm]
set_option maxRecDepth 100000 in
set_option maxHeartbeats 8000000 in
theorem equalF_any (A B : Option Addr) (n m c d : Nat) (l r : List Ent) (w : World) (h : Ents w Any A n l) (k : Ents w Any B m r) (hn : n ≤ 1152921504) (hm : m ≤ 1152921504) :
    Calls Try.prog 24 #[.slice A n c, .slice B m d, .func (.func 26) #[] #[]] w fun e w' => e = .returned (.bool (decide (l = r))) ∧ Below w.heap.size w w' := by
  have HH := Lib.hid h
  have HK := Lib.hid k
  have H1 := Lib.hid h.len
  have H2 := Lib.hid k.len
  clear h k
  by_cases hnm : n = m
  · subst hnm
    go_enter Try.func24, Try.ntmps24
    go_wp2
    go_loopg [17] n (fun g' iv wz => ∃ (i : Nat), g' = n - i ∧ i ≤ n ∧ iv = .int .i64 i ∧ l.take i = r.take i ∧ Below w.heap.size w wz)
    case atStart => exact ⟨0, by omega, by omega, rfl, by simp, Below.refl _ _⟩
    case round =>
      obtain ⟨i, hg, hi, rfl, heq, hb⟩ := hrel
      have HG := Lib.hid hg
      have HEQ := Lib.hid heq
      have HB := Lib.hid hb
      clear hg heq hb
      by_cases hlt : i < n
      · have hlt' : (i : Int) < (n : Int) := by omega
        obtain ⟨b, o, A1, n1, c1, A2, n2, c2, k1, v1, rfl, hl, z1, z2, s1, s2⟩ := rd_text (HH.out.below HB.out) hlt
        obtain ⟨b', o', A3, n3, c3, A4, n4, c4, k2, v2, rfl, hr, z3, z4, s3, s4⟩ := rd_text (HK.out.below HB.out) hlt
        have HL := Lib.hid hl
        have HR := Lib.hid hr
        clear hl hr
        have HS := Lib.hid (And.intro s1 (And.intro s2 (And.intro s3 s4)))
        clear s1 s2 s3 s4
        go_upto_region 6 with fail
        obtain ⟨w1, hw1⟩ : ∃ W, W = wr.alloc (.cells #[.slice A1 n1 c1, .slice A2 n2 c2] 38) := ⟨_, rfl⟩
        rw [← hw1]
        have hb1 : Below wr.heap.size wr w1 := by rw [hw1]; exact (Below.refl _ _).alloc (Nat.le_refl _) _
        have K1 : Hid (Blk w1 wr.heap.size 38 #[.slice A1 n1 c1, .slice A2 n2 c2]) := Lib.hid (by rw [hw1]; exact Blk.new _ _ _)
        have HB1 := Lib.hid hb1
        have x3 := bkeep hb1 z3
        have x4 := bkeep hb1 z4
        clear hw1 hb1 z1 z2 z3 z4
        go_upto_region 7 with fail
        obtain ⟨w2, hw2⟩ : ∃ W, W = w1.alloc (.cells #[.slice A3 n3 c3, .slice A4 n4 c4] 38) := ⟨_, rfl⟩
        rw [← hw2]
        have hb2 : Below w1.heap.size w1 w2 := by rw [hw2]; exact (Below.refl _ _).alloc (Nat.le_refl _) _
        have K2 : Hid (Blk w2 w1.heap.size 38 #[.slice A3 n3 c3, .slice A4 n4 c4]) := Lib.hid (by rw [hw2]; exact Blk.new _ _ _)
        have K1' := Lib.hid (K1.out.below hb2)
        have HBB := Lib.hid (HB1.out.trans (hb2.mono HB1.out.size))
        have y0 : w2.cell? ⟨wr.heap.size, 0, none⟩ = some (.slice A1 n1 c1) := K1'.out.cell 0
        have y1 : w2.cell? ⟨wr.heap.size, 1, none⟩ = some (.slice A2 n2 c2) := K1'.out.cell 1
        have y2 : w2.cell? ⟨w1.heap.size, 0, none⟩ = some (.slice A3 n3 c3) := K2.out.cell 0
        have y3 : w2.cell? ⟨w1.heap.size, 1, none⟩ = some (.slice A4 n4 c4) := K2.out.cell 1
        have HB9 := Lib.hid (HB.out.trans (HBB.out.mono HB.out.size))
        clear hw2 hb2 x3 x4
        by_cases he : k1 = k2 ∧ v1 = v2
        · have HE := Lib.hid he
          clear he
          go_wp2_with (go_at_call 26; go_loud (refine (checkC_any A1 A2 A3 A4 n1 c1 n2 c2 n3 c3 n4 c4 k1 v1 k2 v2 w2 (HS.out.1.below HBB.out) (HS.out.2.1.below HBB.out) (HS.out.2.2.1.below HBB.out) (HS.out.2.2.2.below HBB.out)).mono ?_); rintro e w3 ⟨⟨rb, rfl, hrb⟩, hb3⟩; have hrt : rb = true := hrb.2 HE.out; subst hrt; have HB10 := Lib.hid (HB9.out.trans (hb3.mono HB9.out.size)); clear hrb hb3)
          go_roundg (n - (i + 1))
          case measure => have := HG.out; omega
          case rel => exact ⟨i + 1, rfl, by omega, by go_num, by rw [List.take_add_one, List.take_add_one, HL.out, HR.out, HEQ.out, HE.out.1, HE.out.2], HB10.out⟩
        · have HE := Lib.hid he
          clear he
          go_wp2_with (go_at_call 26; go_loud (refine (checkC_any A1 A2 A3 A4 n1 c1 n2 c2 n3 c3 n4 c4 k1 v1 k2 v2 w2 (HS.out.1.below HBB.out) (HS.out.2.1.below HBB.out) (HS.out.2.2.1.below HBB.out) (HS.out.2.2.2.below HBB.out)).mono ?_); rintro e w3 ⟨⟨rb, rfl, hrb⟩, hb3⟩; have hrt : rb = false := (by cases rb with | false => rfl | true => exact absurd (hrb.1 rfl) HE.out); subst hrt; have HB10 := Lib.hid (HB9.out.trans (hb3.mono HB9.out.size)); clear hrb hb3)
          go_ret
          refine ⟨ret_bool ⟨fun h => (by simp at h), fun h => ?_⟩, HB10.out⟩
          subst h
          have := HL.out.symm.trans HR.out
          injection this with this; injection this with h1 h2
          exact (HE.out ⟨h1, h2⟩).elim
      · have hin : i = n := by omega
        subst hin
        go_wp2
        go_ret
        refine ⟨ret_bool ⟨fun _ => ?_, fun _ => rfl⟩, HB.out⟩
        have h1 := HEQ.out
        rwa [List.take_of_length_le (by have := H1.out; omega), List.take_of_length_le (by have := H2.out; omega)] at h1
  · have hne : ((n : Int) == (m : Int)) = false := by rw [beq_eq_false_iff_ne]; omega
    have HNE := Lib.hid hnm
    clear hnm
    go_enter Try.func24, Try.ntmps24
    go_wp2
    go_ret
    refine ⟨ret_bool ⟨fun h => (by simp at h), fun h => ?_⟩, Below.refl _ _⟩
    subst h
    exact (HNE.out (by have := H1.out; have := H2.out; omega)).elim
end Go.Proofs.Ytpbnngfiinihmaa
