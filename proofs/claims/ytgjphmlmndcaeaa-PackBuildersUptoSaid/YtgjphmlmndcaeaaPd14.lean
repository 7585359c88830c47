/- append onto a row of the call's own that has room, from whatever slice. Over any program. WALKS: entries copied with marks behind them (document). WALKS: which latches are held; the document's arena. WALKS: what is alike is found alike: texts, heads, bodies. -/
import Derived.Test.YtgjphmlmndcaeaaPd01
import Derived.Test.YtgjphmlmndcaeaaPd03
import Derived.Test.YtgjphmlmndcaeaaPd06
import Derived.Test.YtgjphmlmndcaeaaPd09
import Derived.Laws.BytesArg
set_option linter.unusedVariables false
set_option linter.unusedSimpArgs false
namespace Go.Proofs.Ytgjphmlmndcaeaa
open Go.RowKit
section
variable {P : Program} (w : World)
theorem run_append_room_any (base : Nat) (t ty e : TypeId) (i : TypeInfo) (size : Nat) (ht : P.underlying t = some (.slice e)) (hi : P.info? e = some i) (hsize : i.size = size)
    (g n cap : Nat) (xs : List Value) (hown : w.ownsRow base e size (.slice (some ⟨g, 0, none⟩) n cap) n xs)
    (F : Nat → Prop) (A : Option Addr) (m c : Nat) (news : List Value) (hr : Rd w F size A m news) (h1 : ∀ u ∈ news, u.oneCell' = true) (hroom : n + m ≤ cap) :
    ∃ w', (Builtin.append_ #[t, t] ty #[.slice (some ⟨g, 0, none⟩) n cap, .slice A m c]).run P w = .ok (.slice (some ⟨g, 0, none⟩) (n + m) cap) w' ∧
      w'.ownsRow base e size (.slice (some ⟨g, 0, none⟩) (n + m) cap) (n + m) (xs ++ news) ∧ w.grownBy w' (some g) := by
  rcases A with _ | ad
  · have hm : m = 0 := by
      rcases Nat.eq_zero_or_pos m with h0 | h0
      · exact h0
      · obtain ⟨_, _, h, _⟩ := hr.2 h0
        cases h
    subst hm
    have hn : news = [] := List.eq_nil_of_length_eq_zero (by simpa using hr.1)
    subst hn
    exact ⟨w, run_append_of_nil w base t ty e i size ht hi _ n xs hown c, by simpa using hown, World.grownBy.refl w _⟩
  · have hcells : ∀ j u, news[j]? = some u → w.cell? (ad.add j) = some u := by
      intro j u hu
      rcases Nat.eq_zero_or_pos m with h0 | h0
      · subst h0
        have hn : news = [] := List.eq_nil_of_length_eq_zero (by simpa using hr.1)
        subst hn
        simp at hu
      · obtain ⟨b, o, h, _, hc⟩ := hr.2 h0
        injection h with h
        subst h
        rw [add_eq]
        exact hc j u hu
    exact run_append_fits (P := P) w base t ty e i size ht hi hsize g n cap xs hown ad m c news hr.1 hcells h1 hroom

theorem wp_append_room {o : Oper} {a : Act} {K : Act → World → Prop} {Q : Exit → Act → World → Prop} (s x : Operand) (t : TypeId)
    (ho : o.op = .call { callee := .builtin .append, args := #[s, x], argTypes := #[t, t] })
    (base : Nat) (e : TypeId) (i : TypeInfo) (size : Nat) (ht : P.underlying t = some (.slice e)) (hi : P.info? e = some i) (hsize : i.size = size)
    (g n cap : Nat) (xs : List Value) (hs : a.eval s = .slice (some ⟨g, 0, none⟩) n cap) (hown : w.ownsRow base e size (.slice (some ⟨g, 0, none⟩) n cap) n xs)
    (F : Nat → Prop) (A : Option Addr) (m c : Nat) (news : List Value) (hx : a.eval x = .slice A m c) (hr : Rd w F size A m news) (h1 : ∀ u ∈ news, u.oneCell' = true) (hroom : n + m ≤ cap)
    (h : ∀ w', w'.ownsRow base e size (.slice (some ⟨g, 0, none⟩) (n + m) cap) (n + m) (xs ++ news) → w.grownBy w' (some g) → K (a.put o.dst (.slice (some ⟨g, 0, none⟩) (n + m) cap)) w') : o.wp P a w K Q := by
  obtain ⟨w', hrun, h2, h3⟩ := run_append_room_any (P := P) w base t o.type e i size ht hi hsize g n cap xs hown F A m c news hr h1 hroom
  unfold Oper.wp execOp
  simp only [ho, resolve, invoke, builtin, Sem.run_bind, Sem.run_pure, Result.andThen_ok, List.map_toArray, List.map_cons, List.map_nil, hs, hx, hrun]
  exact h w' h2 h3
theorem wpList_append_room {ops : Array Oper} {rest : List Oper} {o : Oper} {a : Act} {Q : Exit → Act → World → Prop} (hgd : o.guard = none) (s x : Operand) (t : TypeId)
    (ho : o.op = .call { callee := .builtin .append, args := #[s, x], argTypes := #[t, t] })
    (base : Nat) (e : TypeId) (i : TypeInfo) (size : Nat) (ht : P.underlying t = some (.slice e)) (hi : P.info? e = some i) (hsize : i.size = size)
    (g n cap : Nat) (xs : List Value) (hs : a.eval s = .slice (some ⟨g, 0, none⟩) n cap) (hown : w.ownsRow base e size (.slice (some ⟨g, 0, none⟩) n cap) n xs)
    (F : Nat → Prop) (A : Option Addr) (m c : Nat) (news : List Value) (hx : a.eval x = .slice A m c) (hr : Rd w F size A m news) (h1 : ∀ u ∈ news, u.oneCell' = true) (hroom : n + m ≤ cap)
    (h : ∀ w', w'.ownsRow base e size (.slice (some ⟨g, 0, none⟩) (n + m) cap) (n + m) (xs ++ news) → w.grownBy w' (some g) → wpList P ops Q rest (a.put o.dst (.slice (some ⟨g, 0, none⟩) (n + m) cap)) w') : wpList P ops Q (o :: rest) a w :=
  wpList_plain hgd fun _ hK => wp_append_room w s x t ho base e i size ht hi hsize g n cap xs hs hown F A m c news hx hr h1 hroom fun w' h2 h3 => hK _ _ (h w' h2 h3)
theorem step_append_room_any {ops : Array Oper} {o : Oper} {a : Act} {K : Act → World → Prop} {Q : Exit → Act → World → Prop} {E : Prop} (hgd : o.guard = none) (s x : Operand) (t : TypeId)
    (ho : o.op = .call { callee := .builtin .append, args := #[s, x], argTypes := #[t, t] })
    (base : Nat) (e : TypeId) (i : TypeInfo) (size : Nat) (ht : P.underlying t = some (.slice e)) (hi : P.info? e = some i) (hsize : i.size = size)
    (g n cap : Nat) (xs : List Value) (hs : a.eval s = .slice (some ⟨g, 0, none⟩) n cap) (hown : w.ownsRow base e size (.slice (some ⟨g, 0, none⟩) n cap) n xs)
    (F : Nat → Prop) (A : Option Addr) (m c : Nat) (news : List Value) (hx : a.eval x = .slice A m c) (hr : Rd w F size A m news) (h1 : ∀ u ∈ news, u.oneCell' = true) (hroom : n + m ≤ cap)
    (h : ∀ w', w'.ownsRow base e size (.slice (some ⟨g, 0, none⟩) (n + m) cap) (n + m) (xs ++ news) → w.grownBy w' (some g) → K (a.put o.dst (.slice (some ⟨g, 0, none⟩) (n + m) cap)) w') :
    if Region.wanted o (yielded ops a.tmps) = true then Oper.wp P o a w K Q else E := by
  have hw : Region.wanted o (yielded ops a.tmps) = true := by simp [Region.wanted, hgd]
  rw [if_pos hw]
  exact wp_append_room w s x t ho base e i size ht hi hsize g n cap xs hs hown F A m c news hx hr h1 hroom h
end
/-- a row that is full: its block, whole -/
theorem own_full {w : World} {base : Nat} {e : TypeId} {size g n : Nat} {xs : List Value} (h : w.ownsRow base e size (.slice (some ⟨g, 0, none⟩) n n) n xs) : Blk w g e xs.toArray := by
  rcases h.2 with ⟨h', _⟩ | ⟨g', cap, cur, h', _, hg, _, _, hs, ht⟩
  · cases h'
  · injection h' with e1 _ e3
    injection e1 with e1
    injection e1 with e1
    subst e1; subst e3
    have : cur.toList = xs := by rw [← ht, List.take_of_length_le (by rw [Array.length_toList, hs]; exact Nat.le_refl _)]
    unfold Blk
    rw [hg, ← this]
/-- a row that has just been made, with room -/
theorem own_room (w : World) (e : TypeId) (size c : Nat) (cs : Array Value) (hs : cs.size = c * size) (hc : c ≤ maxLen) : (w.alloc (.cells cs e)).ownsRow w.heap.size e size (.slice (some ⟨w.heap.size, 0, none⟩) 0 c) 0 [] :=
  ⟨by simp, .inr ⟨w.heap.size, c, cs, rfl, Nat.le_refl _, heap_alloc_new w _, Nat.zero_le _, hc, hs, by simp⟩⟩
end Go.Proofs.Ytgjphmlmndcaeaa

namespace Go.Proofs.Ytgjphmlmndcaeaa
open Go.RowKit

/-- a text in a block of its own, of F, and the mark behind it -/
def MK (w : World) (F : Nat → Prop) (v : Value) (bs : List UInt8) : Prop := ∃ k, v = .slice (some ⟨k, 0, none⟩) bs.length (bs.length + 1) ∧ F k ∧ bs.length + 1 ≤ maxLen ∧ Blk w k 5 (bvs (bs ++ [77])).toArray
section
variable {S F G : Nat → Prop} {w w' : World} {v : Value} {bs : List UInt8}
theorem MK.weak (h : MK w F v bs) (hF : ∀ b, F b → G b) : MK w G v bs := let ⟨k, h1, h2, h3, h4⟩ := h; ⟨k, h1, hF k h2, h3, h4⟩
theorem MK.chg (h : MK w F v bs) (hc : Chg S w w') (hs : ∀ b, F b → ¬ S b) : MK w' F v bs := let ⟨k, h1, h2, h3, h4⟩ := h; ⟨k, h1, h2, h3, h4.chg hc (hs k h2)⟩
theorem MK.below (h : MK w F v bs) (hb : Below w.heap.size w w') : MK w' F v bs := h.chg (Chg.of_below (S := Nil) hb) (fun _ _ hf => hf)
theorem MK.lt (h : MK w F v bs) : MK w (fun b => F b ∧ b < w.heap.size) v bs := let ⟨k, h1, h2, h3, h4⟩ := h; ⟨k, h1, ⟨h2, h4.lt⟩, h3, h4⟩
theorem MK.sb (h : MK w F v bs) : SB w F v bs := by
  obtain ⟨k, h1, h2, h3, h4⟩ := h
  refine ⟨_, _, _, h1, by omega, h3, rfl, by simp [bvs], fun hn => ⟨k, 0, rfl, h2, fun j u hj => ?_⟩⟩
  rw [Nat.zero_add, h4.cell]
  have hl : j < bs.length := by
    rcases Nat.lt_or_ge j bs.length with h | h
    · exact h
    · rw [List.getElem?_eq_none (by simpa [bvs] using h)] at hj; cases hj
  simp only [bvs, List.getElem?_map, List.getElem?_toArray] at hj ⊢
  rw [List.getElem?_append_left hl]
  exact hj
end

set_option maxRecDepth 100000 in
theorem marked_any (A : Option Addr) (n c : Nat) (F : Nat → Prop) (bs : List UInt8) (w : World) (h : Rd w F 1 A n (bvs bs)) (hn : n = bs.length) (hn2 : n ≤ 1152921504606) :
    Calls Try.prog 34 #[.slice A n c] w fun e w' => ∃ v, e = .returned v ∧ MK w' (From w.heap.size) v bs ∧ Below w.heap.size w w' := by
  obtain ⟨i0, hi0, hz0, hz1, hz2⟩ := info_parts u8_info
  have HN := Lib.hid hn
  have HH := Lib.hid h
  have hmk := run_make_rowN (P := Try.prog) 41 5 i0 (.int .u8 0) Try.underlying41 hi0 hz0 .i64 .i64 0 (n + 1) (by omega) (by rw [hz2]; omega) (by omega)
  rw [hz1] at hmk
  simp only [Int.natCast_add, Int.natCast_one, Int.natCast_zero, Nat.mul_one, Value.cells] at hmk
  clear hn h
  go_enter Try.func34, Try.ntmps34
  go_wp2_with (first | (at_builtin; refine wpList_append_room _ rfl (.tmp 6) (.tmp 7) _ rfl w.heap.size 5 i0 1 Try.underlying41 hi0 hz1 w.heap.size 0 (n + 1) [] rfl (own_room w 5 1 (n + 1) _ (by simp [size_madeCells]) (by simp only [maxLen]; omega)) F A n c (bvs bs) rfl (HH.out.alloc _) (bvs_one bs) (by omega) ?_; intro w1 hown1 hg1; rw [Nat.zero_add, List.nil_append] at hown1; rw [Nat.zero_add]; have HO1 := Lib.hid hown1; have hlw := hg1.size; clear hown1) | (at_builtin; refine wpList_append_room _ rfl (.tmp 8) (.tmp 9) _ rfl w.heap.size 5 i0 1 Try.underlying41 hi0 hz1 w.heap.size n (n + 1) (bvs bs) rfl (own_below HO1.out ((Below.refl _ _).alloc (Nat.le_refl _) _)) (From w1.heap.size) (some ⟨w1.heap.size, 0, none⟩) 1 1 [.int .u8 77] rfl (Rd.one w1 _ _) (by intro u hu; simp at hu; subst hu; rfl) (by omega) ?_; intro w2 hown2 hg2; have HO2 := Lib.hid hown2; clear hown2))
  go_ret
  have hB := own_full HO2.out
  have hlen : n = bs.length := HN.out
  subst hlen
  refine ⟨_, rfl, ⟨w.heap.size, rfl, Nat.le_refl _, by simp only [maxLen]; omega, ?_⟩, ?_⟩
  · have he : bvs bs ++ [.int .u8 77] = bvs (bs ++ [77]) := by simp [bvs, bv]
    rw [← he]; exact hB
  · exact (((((Below.refl _ _).alloc (Nat.le_refl _) _).grown hg1 (by simp) (fun k hk => by injection hk with hk; omega))).alloc (by simp at hlw; omega) _).grown hg2 (by simp; simp at hlw; omega) (fun k hk => by injection hk with hk; omega)

theorem entry_info : (Try.prog.info? 43).map (fun i => (i.zero, i.size, i.bytes)) = some (some (.agg #[.slice none 0 0, .slice none 0 0]), 2, 48) := by kernel_rfl

/-- the first k entries, copied, in the list's cells -/
def Marked (w : World) (F : Nat → Prop) (k : Nat) (l : List Ent) (xs : List Value) : Prop :=
  ∀ (i : Nat) (e : Ent), i < k → l[i]? = some e → ∃ u v, xs[2 * i]? = some u ∧ xs[2 * i + 1]? = some v ∧ MK w F u e.1 ∧ MK w F v e.2
section
variable {S F G : Nat → Prop} {w w' : World} {k : Nat} {l : List Ent} {xs : List Value}
theorem Marked.chg (h : Marked w F k l xs) (hc : Chg S w w') (hs : ∀ b, F b → ¬ S b) : Marked w' F k l xs := fun i e hi he => let ⟨u, v, a, b, c, d⟩ := h i e hi he; ⟨u, v, a, b, c.chg hc hs, d.chg hc hs⟩
theorem Marked.weak (h : Marked w F k l xs) (hF : ∀ b, F b → G b) : Marked w G k l xs := fun i e hi he => let ⟨u, v, a, b, c, d⟩ := h i e hi he; ⟨u, v, a, b, c.weak hF, d.weak hF⟩
theorem Marked.below (h : Marked w F k l xs) (hb : Below w.heap.size w w') : Marked w' F k l xs := h.chg (Chg.of_below (S := Nil) hb) (fun _ _ hf => hf)
theorem Marked.push (h : Marked w F k l xs) (hl : xs.length = k * 2) {e : Ent} (he : l[k]? = some e) {u v : Value} (hu : MK w F u e.1) (hv : MK w F v e.2) : Marked w F (k + 1) l (xs ++ [u, v]) := by
  intro i e' hi he'
  rcases Nat.lt_or_ge i k with h1 | h1
  · obtain ⟨a, b, q1, q2, q3, q4⟩ := h i e' h1 he'
    exact ⟨a, b, by rw [List.getElem?_append_left (by omega)]; exact q1, by rw [List.getElem?_append_left (by omega)]; exact q2, q3, q4⟩
  · obtain rfl : i = k := by omega
    rw [he] at he'
    injection he' with he'
    subst he'
    refine ⟨u, v, ?_, ?_, hu, hv⟩
    · rw [List.getElem?_append_right (by omega), show 2 * i - xs.length = 0 by omega]; rfl
    · rw [List.getElem?_append_right (by omega), show 2 * i + 1 - xs.length = 1 by omega]; rfl
theorem Marked.more (h : Marked w F k l xs) (ys : List Value) : Marked w F k l (xs ++ ys) := fun i e hi he => by
  obtain ⟨u, v, a, b, c, d⟩ := h i e hi he
  exact ⟨u, v, by rw [List.getElem?_append_left ((List.getElem?_eq_some_iff.1 a).1)]; exact a, by rw [List.getElem?_append_left ((List.getElem?_eq_some_iff.1 b).1)]; exact b, c, d⟩
end

/-- a copied list: its row, its texts, and the marks behind all -/
def Copied (w : World) (B : Nat) (A : Option Addr) (n c : Nat) (l : List Ent) : Prop :=
  ∃ g k77 xs, A = some ⟨g, 0, none⟩ ∧ c = n + 1 ∧ Hid (n = l.length) ∧ n ≤ 1152921504606 ∧ B ≤ g ∧ Blk w g 43 (xs ++ [.slice (some ⟨k77, 0, none⟩) 1 1, .slice none 0 0]).toArray ∧ xs.length = n * 2 ∧ Marked w (fun b => B ≤ b ∧ b ≠ g) n l xs ∧ B ≤ k77 ∧ k77 ≠ g ∧ Blk w k77 5 #[.int .u8 77]
/-- the answer is a copied list -/
def NewCopy (w : World) (n : Nat) (l : List Ent) (e : Ending) (w' : World) : Prop := ∃ A c, e = .returned (.slice A n c) ∧ Copied w' w.heap.size A n c l ∧ Below w.heap.size w w'

theorem keep2 {w w1 : World} {a b : Nat} {c d : Nat} {u v : Value} (hb : Below w.heap.size w w1) (h : w.cell? ⟨a, c, none⟩ = some u ∧ w.cell? ⟨b, d, none⟩ = some v) : w1.cell? ⟨a, c, none⟩ = some u ∧ w1.cell? ⟨b, d, none⟩ = some v := ⟨bkeep hb h.1, bkeep hb h.2⟩
theorem Rd.one2 (w : World) (u v : Value) (t : TypeId) : Rd (w.alloc (.cells #[u, v] t)) (From w.heap.size) 2 (some ⟨w.heap.size, 0, none⟩) 1 [u, v] :=
  ⟨rfl, fun _ => ⟨w.heap.size, 0, rfl, Nat.le_refl _, fun j x hj => by
    rw [(Blk.new w t #[u, v]).cell]
    match j, hj with
    | 0, hj => simpa using hj
    | 1, hj => simpa using hj⟩⟩
set_option maxRecDepth 100000 in
theorem copy_any (A : Option Addr) (n c : Nat) (F : Nat → Prop) (l : List Ent) (w : World) (h : Ents w F A n l) (hn2 : n ≤ 1152921504606) (hsm : ∀ e ∈ l, e.1.length ≤ 1152921504606 ∧ e.2.length ≤ 1152921504606) :
    Calls Try.prog 15 #[.slice A n c] w (NewCopy w n l) := by
  obtain ⟨i0, hi0, hz0, hz1, hz2⟩ := info_parts entry_info
  have HN := Lib.hid h.len
  have HH := Lib.hid h
  have HS := Lib.hid hsm
  have hmk := run_make_rowN (P := Try.prog) 37 43 i0 _ Try.underlying37 hi0 hz0 .i64 .i64 0 (n + 1) (by omega) (by rw [hz2]; omega) (by omega)
  rw [hz1] at hmk
  simp only [Int.natCast_add, Int.natCast_one, Int.natCast_zero] at hmk
  clear h hsm
  go_enter Try.func15, Try.ntmps15
  go_wp2
  go_loopg [3, 4] n (fun g vs i wr => ∃ (k : Nat) (xs : List Value), g = n - k ∧ k ≤ n ∧ i = .int .i64 k ∧ vs = .slice (some ⟨w.heap.size, 0, none⟩) k (n + 1) ∧ wr.ownsRow w.heap.size 43 2 (.slice (some ⟨w.heap.size, 0, none⟩) k (n + 1)) k xs ∧ Marked wr (From (w.heap.size + 1)) k l xs ∧ Below w.heap.size w wr)
  case atStart => exact ⟨0, [], by omega, by omega, rfl, rfl, own_room w 43 2 (n + 1) _ (by simp [size_madeCells, Value.cells]) (by simp only [maxLen]; omega), fun i e hi => absurd hi (by omega), (Below.refl _ _).alloc (Nat.le_refl _) _⟩
  case round =>
    obtain ⟨k, xs, hg, hk, rfl, rfl, hown, hma, hbl⟩ := hrel
    have HG := Lib.hid hg
    have HO := Lib.hid hown
    have HM := Lib.hid hma
    clear hg hown hma
    by_cases hlt : k < n
    · obtain ⟨b, o, Ak, nk, ck, Av, nv, cv, key, val, rfl, hFb, hl, c1', c2', h1, h2, h3, h4, h5, h6, h7, h8⟩ := HH.out.at_ hlt
      have HL := Lib.hid hl
      have H4 := Lib.hid (h4.below hbl)
      have H8 := Lib.hid (h8.below hbl)
      have s1 : nk ≤ 1152921504606 := by have h := h3.out; have h' := (HS.out _ (List.mem_of_getElem? hl)).1; simp only at h'; omega
      have s2 : nv ≤ 1152921504606 := by have h := h7.out; have h' := (HS.out _ (List.mem_of_getElem? hl)).2; simp only at h'; omega
      have c1 := bkeep hbl c1'
      have c2 := bkeep hbl c2'
      have hbw : b < w.heap.size := cell_lt c1'
      have hsz := hbl.size
      have S0 := And.intro c1 c2
      clear hl h4 h8 c1' c2'
      go_wp2
      refine wp_region_V (fun w' => w'.cell? ⟨b, o + k * 2, none⟩ = some (.slice Ak nk ck) ∧ w'.cell? ⟨b, o + k * 2 + 1, none⟩ = some (.slice Av nv cv)) (by kernel_rfl) ?_
      have S0' : wr.drew.cell? ⟨b, o + k * 2, none⟩ = some (.slice Ak nk ck) ∧ wr.drew.cell? ⟨b, o + k * 2 + 1, none⟩ = some (.slice Av nv cv) := S0
      refine wpV_take (i := 0) (v := ?_) rfl (by kernel_rfl) (by kernel_rfl) (by kernel_rfl) (by first | exact fun _ _ _ h => h | exact fun c a w h => HQP.out c _ a w h) S0' (Or.inl ⟨by kernel_rfl, ?_⟩) ?_
      rotate_left
      · intro w hSw
        go_simp
        try with_reducible rfl
      try simp only [Act.put, List.setIfInBounds_toArray, List.set_cons_zero, List.set_cons_succ]
      refine wpV_take (i := 1) (v := ?_) rfl (by kernel_rfl) (by kernel_rfl) (by kernel_rfl) (by first | exact fun _ _ _ h => h | exact fun c a w h => HQP.out c _ a w h) S0' (Or.inl ⟨by kernel_rfl, ?_⟩) ?_
      rotate_left
      · intro w hSw
        go_simp
        try with_reducible rfl
      try simp only [Act.put, List.setIfInBounds_toArray, List.set_cons_zero, List.set_cons_succ]
      refine wpV_take (i := 2) (v := ?_) rfl (by kernel_rfl) (by kernel_rfl) (by kernel_rfl) (by first | exact fun _ _ _ h => h | exact fun c a w h => HQP.out c _ a w h) S0' (Or.inl ⟨by kernel_rfl, ?_⟩) ?_
      rotate_left
      · intro w hSw
        go_simp
        try with_reducible rfl
      try simp only [Act.put, List.setIfInBounds_toArray, List.set_cons_zero, List.set_cons_succ]
      refine wpV_take (i := 3) (v := ?_) rfl (by kernel_rfl) (by kernel_rfl) (by kernel_rfl) (by first | exact fun _ _ _ h => h | exact fun c a w h => HQP.out c _ a w h) S0' (Or.inl ⟨by kernel_rfl, ?_⟩) ?_
      rotate_left
      · intro w hSw
        go_simp
        try with_reducible rfl
      try simp only [Act.put, List.setIfInBounds_toArray, List.set_cons_zero, List.set_cons_succ]
      refine wpV_take (i := 4) (v := ?_) rfl (by kernel_rfl) (by kernel_rfl) (by kernel_rfl) (by first | exact fun _ _ _ h => h | exact fun c a w h => HQP.out c _ a w h) S0' (Or.inl ⟨by kernel_rfl, ?_⟩) ?_
      rotate_left
      · intro w hSw
        go_simp
        try with_reducible rfl
      try simp only [Act.put, List.setIfInBounds_toArray, List.set_cons_zero, List.set_cons_succ]
      refine wpV_take (i := 7) (v := ?_) rfl (by kernel_rfl) (by kernel_rfl) (by kernel_rfl) (by first | exact fun _ _ _ h => h | exact fun c a w h => HQP.out c _ a w h) S0' (Or.inl ⟨by kernel_rfl, ?_⟩) ?_
      rotate_left
      · intro w hSw
        go_simp
        try with_reducible rfl
      try simp only [Act.put, List.setIfInBounds_toArray, List.set_cons_zero, List.set_cons_succ]
      refine wpV_take (i := 8) (v := ?_) rfl (by kernel_rfl) (by kernel_rfl) (by kernel_rfl) (by first | exact fun _ _ _ h => h | exact fun c a w h => HQP.out c _ a w h) S0' (Or.inl ⟨by kernel_rfl, ?_⟩) ?_
      rotate_left
      · intro w hSw
        go_simp
        try with_reducible rfl
      try simp only [Act.put, List.setIfInBounds_toArray, List.set_cons_zero, List.set_cons_succ]
      refine wpV_take (i := 9) (v := ?_) rfl (by kernel_rfl) (by kernel_rfl) (by kernel_rfl) (by first | exact fun _ _ _ h => h | exact fun c a w h => HQP.out c _ a w h) S0' (Or.inl ⟨by kernel_rfl, ?_⟩) ?_
      rotate_left
      · intro w hSw
        go_simp
        try with_reducible rfl
      try simp only [Act.put, List.setIfInBounds_toArray, List.set_cons_zero, List.set_cons_succ]
      refine wpV_take (i := 10) (v := ?_) rfl (by kernel_rfl) (by kernel_rfl) (by kernel_rfl) (by first | exact fun _ _ _ h => h | exact fun c a w h => HQP.out c _ a w h) S0' (Or.inl ⟨by kernel_rfl, ?_⟩) ?_
      rotate_left
      · intro w hSw
        go_simp
        try with_reducible rfl
      try simp only [Act.put, List.setIfInBounds_toArray, List.set_cons_zero, List.set_cons_succ]
      refine wpV_take (i := 5) (v := ?_) rfl (by kernel_rfl) (by kernel_rfl) (by kernel_rfl) (by first | exact fun _ _ _ h => h | exact fun c a w h => HQP.out c _ a w h) S0' (Or.inl ⟨by kernel_rfl, ?_⟩) ?_
      rotate_left
      · intro w hSw
        obtain ⟨s1, s2⟩ := hSw
        go_simp
        try with_reducible rfl
      try simp only [Act.put, List.setIfInBounds_toArray, List.set_cons_zero, List.set_cons_succ]
      refine wpV_take (i := 11) (v := ?_) rfl (by kernel_rfl) (by kernel_rfl) (by kernel_rfl) (by first | exact fun _ _ _ h => h | exact fun c a w h => HQP.out c _ a w h) S0' (Or.inl ⟨by kernel_rfl, ?_⟩) ?_
      rotate_left
      · intro w hSw
        obtain ⟨s1, s2⟩ := hSw
        go_simp
        try with_reducible rfl
      try simp only [Act.put, List.setIfInBounds_toArray, List.set_cons_zero, List.set_cons_succ]
      refine wpV_one (i := 6) (by kernel_rfl) rfl (fun K hK => ?_)
      go_simp
      refine (marked_any Ak nk ck F key _ H4.out.drew h3.out s1).mono ?_; rintro e w1 ⟨_, rfl, ⟨ku, rfl, m1⟩, hb1⟩
      refine hK.out _ _ (keep2 hb1 S0') ?_
      clear hK K
      try simp only [Act.put, List.setIfInBounds_toArray, List.set_cons_zero, List.set_cons_succ]
      refine wpV_one (i := 12) (by kernel_rfl) rfl (fun K hK => ?_)
      go_simp
      refine (marked_any Av nv cv F val _ (H8.out.drew.below hb1) h7.out s2).mono ?_; rintro e w2 ⟨_, rfl, ⟨kv, rfl, m2⟩, hb2⟩
      refine hK.out _ _ (keep2 hb2 (keep2 hb1 S0')) ?_
      clear hK K
      try simp only [Act.put, List.setIfInBounds_toArray, List.set_cons_zero, List.set_cons_succ]
      refine wpV_take (i := 13) (v := ?_) rfl (by kernel_rfl) (by kernel_rfl) (by kernel_rfl) (by first | exact fun _ _ _ h => h | exact fun c a w h => HQP.out c _ a w h) (keep2 hb2 (keep2 hb1 S0')) (Or.inl ⟨by kernel_rfl, ?_⟩) ?_
      rotate_left
      · intro w hSw
        go_simp
        try with_reducible rfl
      try simp only [Act.put, List.setIfInBounds_toArray, List.set_cons_zero, List.set_cons_succ]
      refine wpV_one (i := 14) (by kernel_rfl) rfl (fun K hK => ?_)
      go_simp
      have hb3 : Below w2.heap.size w2 (w2.alloc (.cells #[.slice (some ⟨ku, 0, none⟩) key.length (key.length + 1), .slice (some ⟨kv, 0, none⟩) val.length (val.length + 1)] 43)) := (Below.refl _ _).alloc (Nat.le_refl _) _
      refine hK.out _ _ (keep2 hb3 (keep2 hb2 (keep2 hb1 S0'))) ?_
      clear hK K
      try simp only [Act.put, List.setIfInBounds_toArray, List.set_cons_zero, List.set_cons_succ]
      refine wpV_one (i := 15) (by kernel_rfl) rfl (fun K hK => ?_)
      refine step_append_room_any _ rfl (.tmp 15) (.tmp 29) _ rfl w.heap.size 43 i0 2 Try.underlying37 hi0 hz1 w.heap.size k (n + 1) xs rfl (own_below (own_below (own_below HO.out.drew hb1) hb2) ((Below.refl _ _).alloc (Nat.le_refl _) _)) (From w2.heap.size) (some ⟨w2.heap.size, 0, none⟩) 1 1 [.slice (some ⟨ku, 0, none⟩) key.length (key.length + 1), .slice (some ⟨kv, 0, none⟩) val.length (val.length + 1)] rfl (Rd.one2 w2 _ _ _) (by intro u hu; simp at hu; rcases hu with hu | hu <;> subst hu <;> rfl) (by omega) ?_; intro w3 hown3 hg3; have hc3 := (Chg.refl (One w.heap.size) _).grown hg3 (fun k hk _ => by injection hk with hk; exact hk.symm); have S3 := keep2 hb3 (keep2 hb2 (keep2 hb1 S0')); have hnb : ¬ One w.heap.size b := fun e => by have e : b = w.heap.size := e; omega
      refine hK.out _ _ ⟨hc3.cell hnb S3.1, hc3.cell hnb S3.2⟩ ?_
      clear hK K
      try simp only [Act.put, List.setIfInBounds_toArray, List.set_cons_zero, List.set_cons_succ]
      refine wpV_take (i := 16) (v := ?_) rfl (by kernel_rfl) (by kernel_rfl) (by kernel_rfl) (by first | exact fun _ _ _ h => h | exact fun c a w h => HQP.out c _ a w h) ⟨hc3.cell hnb S3.1, hc3.cell hnb S3.2⟩ (Or.inl ⟨by kernel_rfl, ?_⟩) ?_
      rotate_left
      · intro w hSw
        go_simp
        try with_reducible rfl
      try simp only [Act.put, List.setIfInBounds_toArray, List.set_cons_zero, List.set_cons_succ]
      refine wpV_done (by kernel_rfl) ?_ _
      have hz1' := hb1.size
      have hz2' := hb2.size
      have HO3 := Lib.hid hown3
      have hzz : wr.drew.heap.size = wr.heap.size := rfl
      have BB : Below wr.heap.size wr (w2.alloc (.cells #[.slice (some ⟨ku, 0, none⟩) key.length (key.length + 1), .slice (some ⟨kv, 0, none⟩) val.length (val.length + 1)] 43)) := (Below.refl wr.heap.size wr).drew.trans (hb1.trans ((hb2.mono hz1').alloc (by omega) _))
      have BB2 : Below w1.heap.size w1 (w2.alloc (.cells #[.slice (some ⟨ku, 0, none⟩) key.length (key.length + 1), .slice (some ⟨kv, 0, none⟩) val.length (val.length + 1)] 43)) := hb2.alloc hz2' _
      have BB3 : Below w2.heap.size w2 (w2.alloc (.cells #[.slice (some ⟨ku, 0, none⟩) key.length (key.length + 1), .slice (some ⟨kv, 0, none⟩) val.length (val.length + 1)] 43)) := (Below.refl _ _).alloc (Nat.le_refl _) _
      have hn1 : ∀ b, From (w.heap.size + 1) b → ¬ One w.heap.size b := fun b h e => by simp only [From, One] at h e; omega
      have hwl : w.heap.size < wr.heap.size := (own_lt HO.out _ rfl).2
      have HM3 := Lib.hid (((HM.out.below BB).chg hc3 hn1).push (by have := HO.out.1; omega) HL.out
        ((show MK w1 (From wr.drew.heap.size) _ key from ⟨ku, rfl, m1⟩).weak (G := From (w.heap.size + 1)) (fun b hb => by simp only [From] at hb ⊢; omega) |>.below BB2 |>.chg hc3 hn1)
        ((show MK w2 (From w1.heap.size) _ val from ⟨kv, rfl, m2⟩).weak (G := From (w.heap.size + 1)) (fun b hb => by simp only [From] at hb ⊢; omega) |>.below BB3 |>.chg hc3 hn1))
      have HB3 := Lib.hid ((hbl.trans (BB.mono hsz)).grown hg3 (by have := BB.size; omega) (fun k hk => by injection hk with hk; omega))
      clear hown3 hg3 hc3 m1 m2 hb1 hb2 BB BB2 BB3 S0 S0' c1 c2
      go_wp2
      go_roundg (n - (k + 1))
      case measure => have := HG.out; omega
      case rel => exact ⟨k + 1, _, rfl, by omega, by go_num, rfl, HO3.out, HM3.out, HB3.out⟩
    · have hk' : k = n := by omega
      subst hk'
      have hsz := hbl.size
      have hwl : w.heap.size < wr.heap.size := (own_lt HO.out _ rfl).2
      go_wp2_with (at_builtin; refine wpList_append_room _ rfl (.tmp 31) (.tmp 34) _ rfl w.heap.size 43 i0 2 Try.underlying37 hi0 hz1 w.heap.size k (k + 1) xs rfl (own_below HO.out (((Below.refl _ _).alloc (Nat.le_refl _) _).alloc (by simp) _)) (From (wr.heap.size + 1)) (some ⟨wr.heap.size + 1, 0, none⟩) 1 1 [.slice (some ⟨wr.heap.size, 0, none⟩) 1 1, .slice none 0 0] rfl (by have := Rd.one2 (wr.alloc (.cells #[.int .u8 77] 5)) (.slice (some ⟨wr.heap.size, 0, none⟩) 1 1) (.slice none 0 0) 43; simpa using this) (by intro u hu; simp at hu; rcases hu with hu | hu <;> subst hu <;> rfl) (by omega) ?_; intro w3 hown3 hg3)
      have hf := own_full hown3
      have hl := hown3.1
      have BB : Below wr.heap.size wr ((wr.alloc (.cells #[.int .u8 77] 5)).alloc (.cells #[.slice (some ⟨wr.heap.size, 0, none⟩) 1 1, .slice none 0 0] 43)) := ((Below.refl _ _).alloc (Nat.le_refl _) _).alloc (by simp) _
      have hc3 := (Chg.refl (One w.heap.size) _).grown hg3 (fun k hk _ => by injection hk with hk; exact hk.symm)
      have hn1 : ∀ b, From (w.heap.size + 1) b → ¬ One w.heap.size b := fun b h e => by simp only [From, One] at h e; omega
      have h77 : Blk ((wr.alloc (.cells #[.int .u8 77] 5)).alloc (.cells #[.slice (some ⟨wr.heap.size, 0, none⟩) 1 1, .slice none 0 0] 43)) wr.heap.size 5 #[.int .u8 77] := (Blk.new _ _ _).alloc _
      have h77' := h77.chg hc3 (fun e => by have e : wr.heap.size = w.heap.size := e; omega)
      go_wp2
      go_ret
      exact ⟨_, _, rfl, ⟨w.heap.size, wr.heap.size, xs, rfl, rfl, HN.out, hn2, Nat.le_refl _, hf, HO.out.1, ((HM.out.below BB).chg hc3 hn1).weak (fun b hb => by simp only [From] at hb; exact ⟨by omega, by omega⟩), hsz, by omega, h77'⟩,
        (hbl.trans (BB.mono hsz)).grown hg3 (by have := BB.size; omega) (fun k hk => by injection hk with hk; omega)⟩
end Go.Proofs.Ytgjphmlmndcaeaa

namespace Go.Proofs.Ytgjphmlmndcaeaa
open Go.RowKit

set_option maxRecDepth 100000 in
theorem rheld_any (F : Nat → Prop) (p : Nat) (nodes root : Int) (sl : List Slt) (w : World) (h : ArR w F p nodes sl root) (hn : sl.length ≤ 65536) (hw : ∀ s ∈ sl, 0 ≤ s.1 ∧ s.1 ≤ 4611686018427387904) :
    Calls Try.prog 55 #[.pointer (some ⟨p, 0, none⟩)] w (NewInts w (heldTo sl sl.length)) := by
  obtain ⟨i0, hi0, iz0, iz1, iz2⟩ := info_parts int_info
  have HA := Lib.hid h
  obtain ⟨A, n, c, hFp, hb, hsl⟩ := h
  have e1 : n = sl.length := hsl.1
  have HL := Lib.hid e1
  have h4 : n ≤ 65536 := by omega
  have HB := Lib.hid hb
  have HY := Lib.hid hsl
  have HW := Lib.hid hw
  clear e1 hn hsl hw hb
  go_enter Try.func55, Try.ntmps55
  go_wp2
  go_loopg [3, 4] n (fun g vs i wr => ∃ (k m : Nat) (v : Value), g = n - k ∧ k ≤ n ∧ i = .int .i64 k ∧ v = vs ∧ Hid (m = (heldTo sl k).length) ∧ m ≤ k ∧ wr.ownsRow w.heap.size 3 1 v m ((heldTo sl k).map (Value.int .i64)) ∧ Below w.heap.size w wr)
  case atStart => exact ⟨0, 0, _, by omega, by omega, rfl, rfl, rfl, by omega, World.ownsRow_nil _ _ _ _, Below.refl _ _⟩
  case round =>
    obtain ⟨k, m, v, hg, hk, rfl, rfl, HM, hmk, hown, hbl⟩ := hrel
    have HG := Lib.hid hg
    have HO := Lib.hid hown
    obtain ⟨c0, c1, c2, cf⟩ := blk3 (HB.out.below hbl)
    clear hg hown
    by_cases hlt : k < n
    · have hY1 := HY.out.chg (S := Nil) (Chg.of_below hbl) (fun _ _ hf => hf)
      obtain ⟨b, o, s, hA, hn', hc, kA, kn, kc, vA, vn, vc, dA, dn, dc, rfl, hs, z0, z1, z2, z3, z4, z5, z6, _⟩ := hY1.at_ hlt
      obtain ⟨w0, w1⟩ := HW.out s (List.mem_of_getElem? hs)
      have HS := Lib.hid hs
      have hsz := hbl.size
      have hmod : IntKind.u64.wrap (s.1.tmod 2) = s.1 % 2 := by rw [Int.tmod_eq_emod_of_nonneg w0]; exact IntWalk.u64_in _ (by omega)
      clear hs hY1
      by_cases ho : s.1 % 2 = 1
      · have hev : (s.1 % 2 == 0) = false := by rw [beq_eq_false_iff_ne]; omega
        have HT := Lib.hid (heldTo_yes HS.out ho)
        clear ho
        go_wp2_with (at_builtin; refine wpList_append_any _ rfl (.tmp 24) (.tmp 27) _ rfl w.heap.size 3 i0 _ 1 8 Try.underlying24 hi0 iz0 iz1 iz2 rfl (by omega) v m ((heldTo sl k).map (Value.int .i64)) rfl (HO.out.alloc _) (From wr.heap.size) (some ⟨wr.heap.size, 0, none⟩) 1 1 [.int .i64 ((k : Int) + 1)] rfl (Rd.one wr _ _) (by intro u hu; simp at hu; subst hu; rfl) (by simp only [maxLen]; omega) (by omega) (by simp; omega) ?_; intro v2 w2 hown2 hg2 hat2; have HO2 := Lib.hid hown2; clear hown2 hat2)
        go_roundg (n - (k + 1))
        case measure => have := HG.out; omega
        case rel => exact ⟨k + 1, m + 1, v2, rfl, by omega, by go_num, rfl, Lib.hid (by rw [HT.out]; simp [HM.out.symm]), by omega, by rw [HT.out, List.map_append]; exact HO2.out, (hbl.alloc hsz _).grown hg2 (by simp; omega) (fun j hj => (own_lt HO.out j hj).1)⟩
      · have ho0 : s.1 % 2 = 0 := by omega
        have hev : (s.1 % 2 == 0) = true := by rw [beq_iff_eq]; exact ho0
        have HT := Lib.hid (heldTo_no HS.out ho0)
        clear ho ho0
        go_wp2
        go_roundg (n - (k + 1))
        case measure => have := HG.out; omega
        case rel => exact ⟨k + 1, m, v, rfl, by omega, by go_num, rfl, Lib.hid (by rw [HT.out]; exact HM.out), by omega, by rw [HT.out]; exact HO.out, hbl⟩
    · have HK : Hid (k = sl.length) := Lib.hid (by have := HL.out; omega)
      go_wp2
      go_ret
      obtain ⟨A', c', hv, h1, h2⟩ := own_val HO.out
      have HO' := HO.out
      rw [hv] at HO'
      rw [← HK.out]
      exact ⟨A', m, c', by rw [hv]; rfl, ⟨h1, h2, HM, Rd.of_own HO'⟩, HO', hbl⟩

theorem heldTo_even {sl : List Slt} (h : ∀ s ∈ sl, s.1 % 2 = 0) (k : Nat) : heldTo sl k = [] := by
  have : (List.range k).filter (oddAt sl) = [] := by
    rw [List.filter_eq_nil_iff]
    intro i _
    unfold oddAt
    cases hs : sl[i]? with
    | none => simp
    | some s => have := h s (List.mem_of_getElem? hs); simp; omega
  simp [heldTo, this]
end Go.Proofs.Ytgjphmlmndcaeaa

namespace Go.Proofs.Ytgjphmlmndcaeaa
open Go.RowKit

/-- a text, as a string -/
def sOf (bs : List UInt8) : ByteArray := ⟨bs.toArray⟩
set_option maxRecDepth 100000 in
theorem conv_any (w : World) (F : Nat → Prop) (A : Option Addr) (n c : Nat) (bs : List UInt8) (h : Rd w F 1 A n (bvs bs)) (hn : n = bs.length) :
    (convert 41 9 (.slice A n c)).run Try.prog w = .ok (.string (sOf bs)) w := by
  cases A with
  | none =>
    have h0 : n = 0 := by
      rcases Nat.eq_zero_or_pos n with h0 | h0
      · exact h0
      · obtain ⟨_, _, e, _⟩ := h.2 h0; cases e
    subst h0
    have hb : bs = [] := List.eq_nil_of_length_eq_zero hn.symm
    subst hb
    exact run_convert_bytes_nil w 41 5 Try.underlying41 Try.underlying5 0 c _ Try.underlying9
  | some a =>
    rcases Nat.eq_zero_or_pos n with h0 | h0
    · subst h0
      have hb : bs = [] := List.eq_nil_of_length_eq_zero hn.symm
      subst hb
      rw [run_convert_bytes_string w 41 9 5 (some a) 0 c Try.underlying41 Try.underlying5 Try.underlying9]
      have hl : (loadCells a 0).run Try.prog w = .ok (([] : List Int).map (Value.int .u8)).toArray w := run_loadCells_list (P := Try.prog) w a [] (fun j v hj => by simp at hj)
      exact (run_bytesToString w a 0 c [] hl).trans (by rw [foldl_push_bytes]; simp only [sOf, ByteArray.empty, ByteArray.emptyWithCapacity]; congr 2)
    · obtain ⟨b, o, e, _, hc⟩ := h.2 h0
      injection e with e
      subst e
      have hk := run_convert_bytes_arg (P := Try.prog) w 41 5 Try.underlying41 Try.underlying5 b o n c (bs.map fun x => (x.toNat : Int)) (by simp [hn]) (fun i hi => by
        have hl : i < bs.length := by omega
        rw [hc i (bv bs[i]) (by simp [bvs, List.getElem?_eq_getElem hl])]
        simp [bv, List.getD, List.getElem?_eq_getElem hl]) _ Try.underlying9
      rw [hk]
      congr 2
      simp [strOfNums, sOf, Function.comp_def]

theorem sameTexts_eq (F G : Nat → Prop) (A B : Option Addr) (n c m d : Nat) (ts : List (List UInt8)) (w : World) (h : Tx w F A n c ts) (k : Tx w G B m d ts) (hn : n ≤ 1152921504606) :
    Calls Try.prog 101 #[.slice A n c, .slice B m d] w fun e w' => e = .returned (.bool true) ∧ Below w.heap.size w w' := by
  have e1 : n = m := by rw [h.len, k.len]
  subst e1
  have HH := Lib.hid h
  have HK := Lib.hid k
  clear h k
  go_enter Try.func101, Try.ntmps101
  go_wp2
  go_loopg [5] n (fun g i wr => ∃ (k : Nat), g = n - k ∧ k ≤ n ∧ i = .int .i64 k ∧ Below w.heap.size w wr)
  case atStart => exact ⟨0, by omega, by omega, rfl, Below.refl _ _⟩
  case round =>
    obtain ⟨k, hg, hk, rfl, hbl⟩ := hrel
    have HG := Lib.hid hg
    clear hg
    by_cases hlt : k < n
    · obtain ⟨b, o, Ak, nk, ck, t, rfl, _, ht, c1, h1, h2, h3, h4⟩ := (HH.out.below hbl).at_ hlt
      obtain ⟨b', o', Bk, mk, dk, t', rfl, _, ht', c2, k1, k2, k3, k4⟩ := (HK.out.below hbl).at_ hlt
      rw [ht] at ht'
      injection ht' with ht'
      subst ht'
      have q1 := fun (r : Nat) => conv_any (wr.drewN r) F Ak nk ck t (h4.drewN r) h3.out
      have q2 := fun (r : Nat) => conv_any (wr.drewN r) G Bk mk dk t (k4.drewN r) k3.out
      clear ht h4 k4
      go_wp2
      go_quiet (fail)
      go_wp2
      go_roundg (n - (k + 1))
      case measure => have := HG.out; omega
      case rel => exact ⟨k + 1, rfl, by omega, by go_num, below_drewN hbl _⟩
    · go_wp2
      go_ret
      exact ⟨rfl, hbl⟩

theorem sameHead_eq (F G : Nat → Prop) (A B : Option Addr) (n c m d : Nat) (high : List UInt8) (lev right : Int) (w : World) (h : Bt w F A n c high) (k : Bt w G B m d high) :
    Calls Try.prog 87 #[.agg #[.int .i64 lev, .slice A n c, .int .i64 right], .agg #[.int .i64 lev, .slice B m d, .int .i64 right]] w fun e w' => e = .returned (.bool true) ∧ Below w.heap.size w w' := by
  have b1 : Below w.heap.size w ((w.alloc (.cells #[.int .i64 lev, .slice A n c, .int .i64 right] 88)).alloc (.cells #[.int .i64 lev, .slice B m d, .int .i64 right] 88)) := ((Below.refl _ _).alloc (Nat.le_refl _) _).alloc (by simp) _
  have q1 := conv_any _ F A n c high (h.below b1).2.2.2 h.len
  have q2 := conv_any _ G B m d high (k.below b1).2.2.2 k.len
  clear h k
  go_enter Try.func87, Try.ntmps87
  go_wp2
  go_ret
  exact ⟨rfl, b1⟩

set_option maxRecDepth 100000 in
theorem sameBody_eq (F G : Nat → Prop) (A1 A2 A3 B1 B2 B3 : Option Addr) (n1 c1 n2 c2 n3 c3 m1 d1 m2 d2 m3 d3 : Nat) (keys vals : List (List UInt8)) (kids : List Int) (w : World)
    (h1 : Tx w F A1 n1 c1 keys) (h2 : Tx w F A2 n2 c2 vals) (h3 : It w F A3 n3 c3 kids) (k1 : Tx w G B1 m1 d1 keys) (k2 : Tx w G B2 m2 d2 vals) (k3 : It w G B3 m3 d3 kids) (l1 : n1 ≤ 1152921504606) (l2 : n2 ≤ 1152921504606) (l3 : n3 ≤ 1152921504606) :
    Calls Try.prog 88 #[.agg #[.slice A1 n1 c1, .slice A2 n2 c2, .slice A3 n3 c3], .agg #[.slice B1 m1 d1, .slice B2 m2 d2, .slice B3 m3 d3]] w fun e w' => e = .returned (.bool true) ∧ Below w.heap.size w w' := by
  have b1 : Below w.heap.size w ((w.alloc (.cells #[.slice A1 n1 c1, .slice A2 n2 c2, .slice A3 n3 c3] 91)).alloc (.cells #[.slice B1 m1 d1, .slice B2 m2 d2, .slice B3 m3 d3] 91)) := ((Below.refl _ _).alloc (Nat.le_refl _) _).alloc (by simp) _
  obtain ⟨u, hu⟩ : ∃ u, u = (w.alloc (.cells #[.slice A1 n1 c1, .slice A2 n2 c2, .slice A3 n3 c3] 91)).alloc (.cells #[.slice B1 m1 d1, .slice B2 m2 d2, .slice B3 m3 d3] 91) := ⟨_, rfl⟩
  rw [← hu] at b1
  have e3 : n3 = m3 := by rw [h3.len, k3.len]
  subst e3
  have H1 := Lib.hid (h1.below b1)
  have H2 := Lib.hid (h2.below b1)
  have H3 := Lib.hid (h3.below b1)
  have K1 := Lib.hid (k1.below b1)
  have K2 := Lib.hid (k2.below b1)
  have K3 := Lib.hid (k3.below b1)
  have B1' : Blk u w.heap.size 91 #[.slice A1 n1 c1, .slice A2 n2 c2, .slice A3 n3 c3] := by rw [hu]; exact (Blk.new _ _ _).alloc _
  have B2' : Blk u (w.heap.size + 1) 91 #[.slice B1 m1 d1, .slice B2 m2 d2, .slice B3 n3 d3] := by rw [hu]; simpa using Blk.new (w.alloc (.cells #[.slice A1 n1 c1, .slice A2 n2 c2, .slice A3 n3 c3] 91)) 91 #[.slice B1 m1 d1, .slice B2 m2 d2, .slice B3 n3 d3]
  have HB1 := Lib.hid B1'
  have HB2 := Lib.hid B2'
  clear h1 h2 h3 k1 k2 k3
  go_enter Try.func88, Try.ntmps88
  go_wp2_with (first | (go_at_call 101; rw [← hu]; refine (sameTexts_eq F G A1 B1 n1 c1 m1 d1 keys u H1.out K1.out l1).mono ?_; rintro e w1 ⟨rfl, hb1⟩; have x1 : w1.cell? ⟨w.heap.size, 1, none⟩ = some (.slice A2 n2 c2) := bkeep hb1 (by rw [HB1.out.cell]; rfl); have x2 : w1.cell? ⟨w.heap.size + 1, 1, none⟩ = some (.slice B2 m2 d2) := bkeep hb1 (by rw [HB2.out.cell]; rfl)) | (go_at_call 101; refine (sameTexts_eq F G A2 B2 n2 c2 m2 d2 vals _ (H2.out.below hb1) (K2.out.below hb1) l2).mono ?_; rintro e w2 ⟨rfl, hb2⟩; have hb12 := hb1.trans (hb2.mono hb1.size); have x3 : w2.cell? ⟨w.heap.size, 2, none⟩ = some (.slice A3 n3 c3) := bkeep hb12 (by rw [HB1.out.cell]; rfl); have x4 : w2.cell? ⟨w.heap.size + 1, 2, none⟩ = some (.slice B3 n3 d3) := bkeep hb12 (by rw [HB2.out.cell]; rfl)))
  go_loopg [7] n3 (fun g i wr => ∃ (k : Nat), g = n3 - k ∧ k ≤ n3 ∧ i = .int .i64 k ∧ Below w2.heap.size w2 wr)
  case atStart => exact ⟨0, by omega, by omega, rfl, Below.refl _ _⟩
  case round =>
    obtain ⟨k, hg, hk, rfl, hbl⟩ := hrel
    have HG := Lib.hid hg
    have y3 := bkeep hbl x3
    have y4 := bkeep hbl x4
    have hbl2 := hb12.trans (hbl.mono hb12.size)
    clear hg
    by_cases hlt : k < n3
    · obtain ⟨b, o, x, rfl, _, hx, p1⟩ := (H3.out.below hbl2).at_ hlt
      obtain ⟨b', o', x', rfl, _, hx', p2⟩ := (K3.out.below hbl2).at_ hlt
      rw [hx] at hx'
      injection hx' with hx'
      subst hx'
      clear hx
      go_wp2
      go_quiet (fail)
      go_wp2
      go_roundg (n3 - (k + 1))
      case measure => have := HG.out; omega
      case rel => exact ⟨k + 1, rfl, by omega, by go_num, below_drewN hbl _⟩
    · go_wp2
      go_ret
      exact ⟨rfl, b1.trans (hbl2.mono b1.size)⟩
end Go.Proofs.Ytgjphmlmndcaeaa
