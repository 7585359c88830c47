/- WALKS: Add, whole; the program's and the document's. WALKS: the document's Add, whole. WALKS: a builder is made, and done with; the program's and the document's. Two pairs of builders beside one another, and a script, in memory. -/
import Derived.Test.YtgjphmlmndcaeaaPd16
import Derived.Test.YtgjphmlmndcaeaaPd15
set_option linter.unusedVariables false
set_option linter.unusedSimpArgs false
namespace Go.Proofs.Ytgjphmlmndcaeaa
open Go.RowKit
open Go.Lib (compareBytes)
theorem Bd.grow {w w' : World} {T : TypeId} {F In : Nat → Prop} {p : Nat} {nd lf inn fl bl : Int} {l : List Ent} (h : Bd w T F In p nd lf inn fl bl l) (hb : Below w.heap.size w w') : Bd w' T (Grown F w w') In p nd lf inn fl bl l := by
  obtain ⟨A, n, c, us, h1, h2, h3, h4, h5, h6, h7, h8⟩ := h.below hb
  refine ⟨A, n, c, us, .inl h1, fun b hb' => hb'.elim (h2 b) (fun h => h.2), h3, h4, h5, fun g hg => .inl (h6 g hg), h7, fun i e he => ?_⟩
  obtain ⟨u, v, a, b, s1, s2⟩ := h8 i e he
  exact ⟨u, v, a, b, s1.weak (fun b hb => ⟨hb.1.imp .inl id, hb.2⟩), s2.weak (fun b hb => ⟨hb.1.imp .inl id, hb.2⟩)⟩
/-- what Add leaves -/
def Added (w : World) (T : TypeId) (F In : Nat → Prop) (p : Nat) (nd lf inn fl bl : Int) (l : List Ent) (e : Ent) (en : Ending) (w' : World) : Prop :=
  en = .returned (.int .i64 (addE nd lf inn fl bl l e)) ∧ Bd w' T (Grown F w w') In p nd lf inn fl bl (addL nd lf inn fl bl l e) ∧ Chg F w w'
theorem Added.stay {w w' : World} {T : TypeId} {F In : Nat → Prop} {p : Nat} {nd lf inn fl bl x : Int} {l : List Ent} {e : Ent} (h : Bd w T F In p nd lf inn fl bl l) (hb : Below w.heap.size w w') (hx : addE nd lf inn fl bl l e = x) (h0 : x ≠ 0) : Added w T F In p nd lf inn fl bl l e (.returned (.int .i64 x)) w' :=
  ⟨by rw [hx], by unfold addL; rw [if_neg (by rw [hx]; exact h0)]; exact h.grow hb, Chg.of_below hb⟩
theorem Bd.sub {w : World} {T : TypeId} {F G In : Nat → Prop} {p : Nat} {nd lf inn fl bl : Int} {l : List Ent} (h : Bd w T F In p nd lf inn fl bl l) (hF : ∀ b, F b → G b) (hG : ∀ b, G b → b < w.heap.size) : Bd w T G In p nd lf inn fl bl l := by
  obtain ⟨A, n, c, us, h1, h2, h3, h4, h5, h6, h7, h8⟩ := h
  refine ⟨A, n, c, us, hF _ h1, hG, h3, h4, h5, fun g hg => hF g (h6 g hg), h7, fun i e he => ?_⟩
  obtain ⟨u, v, a, b, s1, s2⟩ := h8 i e he
  exact ⟨u, v, a, b, s1.weak (fun b hb => ⟨hb.1.imp (hF b) id, hb.2⟩), s2.weak (fun b hb => ⟨hb.1.imp (hF b) id, hb.2⟩)⟩
theorem Added.put {w w3 w' : World} {T : TypeId} {F In : Nat → Prop} {p : Nat} {nd lf inn fl bl : Int} {l : List Ent} {e : Ent} (hb : Below w.heap.size w w3) (h : Bd w' T (Grown F w3 w') In p nd lf inn fl bl (l ++ [e])) (hc : Chg F w3 w') (hx : addE nd lf inn fl bl l e = 0) (hF : ∀ b, F b → b < w.heap.size) : Added w T F In p nd lf inn fl bl l e (.returned (.int .i64 0)) w' := by
  have h1 := hb.size
  have h2 := hc.size
  exact ⟨by rw [hx], by unfold addL; rw [if_pos hx]; exact h.sub (fun b hb' => hb'.elim .inl (fun h => .inr ⟨Nat.le_trans h1 h.1, h.2⟩)) (fun b hb' => hb'.elim (fun h => Nat.lt_of_lt_of_le (hF b h) (Nat.le_trans h1 h2)) (fun h => h.2)), (Chg.of_below (S := F) hb).trans hc (fun _ _ h => h)⟩
set_option maxRecDepth 100000 in
set_option maxHeartbeats 4000000 in
theorem add_any (F In D : Nat → Prop) (p : Nat) (nd lf inn fl bl : Int) (l : List Ent) (e : Ent) (Ak Av : Option Addr) (nk ck nv cv : Nat) (w : World) (hB : Bd w 72 F In p nd lf inn fl bl l) (hc : cfgOk nd lf inn fl bl) (hIn : ∀ b, In b → b < w.heap.size) (h1 : Bt w D Ak nk ck e.1) (h2 : Bt w D Av nv cv e.2) (l1 : e.1.length ≤ 1152921504606) (l2 : e.2.length ≤ 1152921504606) (hl : l.length ≤ 1152921504) (hls : ∀ x ∈ l, x.1.length ≤ 1152921504606) :
    Calls Try.prog 16 #[.pointer (some ⟨p, 0, none⟩), .agg #[.slice Ak nk ck, .slice Av nv cv]] w (Added w 72 F In p nd lf inn fl bl l e) := by
  have HB := Lib.hid hB
  obtain ⟨A, n, c, us, b1, b2, b3, b4, b5, b6, b7, b8⟩ := hB
  have B2 := Lib.hid b2
  have B4 := Lib.hid b4
  have B5 := Lib.hid b5
  have B6 := Lib.hid b6
  have B7 := b7
  have B8 := Lib.hid b8
  have HC := Lib.hid hc
  have H1 := Lib.hid h1
  have H2 := Lib.hid h2
  have HI := Lib.hid hIn
  have HLS := Lib.hid hls
  have hn : n ≤ 1152921504 := by have := b7.out; omega
  have hop : (Value.slice A n c).ownBlock ≠ some p := own_blk_ne b5 b4 (by decide)
  have hoq : (Value.slice A n c).ownBlock ≠ some w.heap.size := fun e => by have := (own_lt b5 _ e).2; omega
  have hpw : p < w.heap.size := b4.lt
  have p5 : w.cell? ⟨p, 5, none⟩ = some (.slice A n c) := (b4.cell 5).trans rfl
  have hpf := b4.frozen
  clear hc b2 b4 b5 b6 b7 b8 hIn h1 h2 hls
  rcases entE_cases e with he | he
  · have HX := Lib.hid he
    have hbox : Blk (w.alloc (.cells #[.slice Ak nk ck, .slice Av nv cv] 43)) w.heap.size 43 #[.slice Ak nk ck, .slice Av nv cv] := Blk.new _ _ _
    have HBX := Lib.hid hbox
    clear he hbox
    rcases Nat.eq_zero_or_pos n with h0 | h0
    · have hn0 : ¬ (0 : Int) < (n : Int) := by omega
      have HK : Hid (¬ (0 < l.length ∧ 0 ≤ compareBytes (l.getD (l.length - 1) ([], [])).1 e.1)) := Lib.hid (by have := B7.out; omega)
      go_enter Try.func16, Try.ntmps16
      go_wp2_with (first | (go_at_call 35; refine (check_any Ak Av nk nv ck cv e H1.out.len H2.out.len _).mono ?_; rintro e1 w1 ⟨rfl, hb1⟩; rw [HX.out]; have HB1 : Hid (Below w.heap.size w w1) := Lib.hid (((Below.refl _ _).alloc (Nat.le_refl _) _).trans (hb1.mono (by simp))); have HBX1 := Lib.hid (HBX.out.below hb1); have p51 := bkeep HB1.out p5; have x0 : w1.cell? ⟨w.heap.size, 0, none⟩ = some (.slice Ak nk ck) := (HBX1.out.cell 0).trans rfl; clear hb1))
      go_quiet (fail)
      rename_i nq
      go_wp2
      have HBW : Hid (Below w.heap.size w (w1.drewN nq)) := Lib.hid (below_drewN HB1.out nq)
      obtain ⟨W1, hW1⟩ : ∃ x, x = w1.drewN nq := ⟨_, rfl⟩
      rw [← hW1] at HBW
      have HB4 : Hid (Blk W1 p 72 #[.int .i64 nd, .int .i64 lf, .int .i64 inn, .int .i64 fl, .int .i64 bl, .slice A n c]) := Lib.hid (B4.out.below HBW.out)
      have y0 : W1.cell? ⟨w.heap.size, 0, none⟩ = some (.slice Ak nk ck) := by rw [hW1]; exact (HBX1.out.cell 0).trans rfl
      have y1 : W1.cell? ⟨w.heap.size, 1, none⟩ = some (.slice Av nv cv) := by rw [hW1]; exact (HBX1.out.cell 1).trans rfl
      first | rw [← hW1] | skip
      clear x0 p51 hW1
      obtain ⟨NE, hNE⟩ : ∃ x, x = (nodesOf nd lf inn fl bl ((n + 1 : Nat) : Int)).2 := ⟨_, rfl⟩
      have HAE : Hid (addE nd lf inn fl bl l e = NE) := Lib.hid (by unfold addE; rw [if_neg (by rw [HX.out]; decide), if_neg HK.out, hNE, B7.out])
      have HNE := Lib.hid hNE
      clear hNE
      refine nodes p nd lf inn fl bl A n c W1 _ (Lib.hid (fun _ _ _ _ h => h)) HC.out (by omega) (bc_of HB4.out) ?_
      intro v6 v38 v39 v40 v41 v42 v43 v44 v45 v46 v47 v48 v49 v50 v51 w3 hb3
      rw [← HNE.out]
      have HB3 := Lib.hid hb3
      have z0 := bkeep hb3 y0
      have z1 := bkeep hb3 y1
      have HBW3 : Hid (Below w.heap.size w w3) := Lib.hid (HBW.out.trans (hb3.mono HBW.out.size))
      clear hb3 y0 y1
      by_cases hz : NE = 0
      · have hz' : (NE == 0) = true := by rw [beq_iff_eq]; exact hz
        have HZ := Lib.hid hz
        clear hz
        go_wp2
        refine add_put p w.heap.size 72 A n c us Ak Av nk ck nv cv D e _ _ _ _ _ w3 _ (Lib.hid (fun _ _ _ _ h => h)) (Lib.hid (HB4.out.below HB3.out)) (Lib.hid (own_below B5.out HBW3.out)) hop (by omega) z0 z1 hoq (H1.out.below HBW3.out |> Lib.hid) (H2.out.below HBW3.out |> Lib.hid) l1 l2 ?_
        intro v55 v56 v57 v58 v59 v60 v61 v62 v63 v64 v65 v66 v67 v68 v69 v70 u' v' x wa w4 hwa ho4 hg4 hat4 su sv
        have hpush := Bd.push (F := F) (In := In) (T := 72) (l := l) (e := e) b1 (fun b hb => Nat.lt_of_lt_of_le (B2.out b hb) HBW3.out.size) b3 (B4.out.below HBW3.out) (own_below B5.out HBW3.out) B6.out B7 (fun i x hx => let ⟨u, v, q1, q2, s1, s2⟩ := B8.out i x hx; ⟨u, v, q1, q2, s1.below HBW3.out, s2.below HBW3.out⟩) hwa ho4 hg4 hat4 (su.weak (fun b hb => ⟨.inr (.inr hb), fun e => by have := (own_lt (own_below B5.out HBW3.out) b e).2; have hb : w3.heap.size ≤ b := hb; omega, by have hb : w3.heap.size ≤ b := hb; have := HBW3.out.size; omega⟩)) (sv.weak (fun b hb => ⟨.inr (.inr hb), fun e => by have := (own_lt (own_below B5.out HBW3.out) b e).2; have hb : w3.heap.size ≤ b := hb; omega, by have hb : w3.heap.size ≤ b := hb; have := HBW3.out.size; omega⟩)) (fun b hb => Nat.lt_of_lt_of_le (HI.out b hb) HBW3.out.size)
        have HP := Lib.hid hpush
        clear hpush ho4 hg4 hat4
        go_wp2; go_ret; exact Added.put HBW3.out HP.out.1 HP.out.2 (by rw [HAE.out]; exact HZ.out) B2.out
      · have hz' : (NE == 0) = false := by rw [beq_eq_false_iff_ne]; exact hz
        go_wp2
        go_ret
        exact Added.stay HB.out HBW3.out HAE.out hz
    · have hn0 : (0 : Int) < (n : Int) := by omega
      have hn1 : (n : Int) ≤ 1152921504 := by omega
      obtain ⟨g, gc, hv, _, _⟩ := B5.out.form h0
      injection hv with hv _ hv'
      subst hv; subst hv'
      have hll : l.length - 1 < l.length := by have := B7.out; omega
      obtain ⟨u, v, u1, _, s1, _⟩ := B8.out (n - 1) l[l.length - 1] (by have e := B7.out; rw [e]; exact List.getElem?_eq_getElem hll)
      obtain ⟨La, ln, lc, rfl, q1, q2, q3, q4⟩ := s1
      have HL : Hid (l.getD (l.length - 1) ([], []) = l[l.length - 1]) := Lib.hid (by rw [List.getD_eq_getElem?_getD, List.getElem?_eq_getElem hll]; rfl)
      have HLB : Hid (Bt w (fun b => (F b ∨ In b) ∧ (Value.slice (some ⟨g, 0, none⟩) n c).ownBlock ≠ some b ∧ b ≠ p) La ln lc l[l.length - 1].1) := Lib.hid ⟨q1, q2, q3, q4⟩
      have lsm : l[l.length - 1].1.length ≤ 1152921504606 := HLS.out _ (List.getElem_mem hll)
      have cl : w.cell? ⟨g, (n - 1) * 2, none⟩ = some (.slice La ln lc) := by
        have h1 := B5.out.1
        rw [B5.out.cellAt ((n - 1) * 2) (by omega), Nat.mul_comm]; exact u1
      have w1' := IntWalk.i64_in ((n : Int) - 1) (by omega)
      have w2' : (0 : Int) ≤ (n : Int) - 1 := by omega
      have w3' : ((n : Int) - 1) < n := by omega
      have w4' : ((n : Int) - 1).toNat = n - 1 := by omega
      have w5' : (1 : Int) ≤ (n : Int) := by omega
      clear u1 q1 q2 q3 q4
      by_cases hcmp : 0 ≤ compareBytes l[l.length - 1].1 e.1
      · have HA : Hid (addE nd lf inn fl bl l e = 51) := Lib.hid (by unfold addE; rw [if_neg (by rw [HX.out]; decide), if_pos ⟨by have := B7.out; omega, by rw [HL.out]; exact hcmp⟩])
        go_enter Try.func16, Try.ntmps16
        go_wp2_with (first | (go_at_call 35; refine (check_any Ak Av nk nv ck cv e H1.out.len H2.out.len _).mono ?_; rintro e1 w1 ⟨rfl, hb1⟩; rw [HX.out]; have HB1 : Hid (Below w.heap.size w w1) := Lib.hid (((Below.refl _ _).alloc (Nat.le_refl _) _).trans (hb1.mono (by simp))); have HBX1 := Lib.hid (HBX.out.below hb1); have p51 := bkeep HB1.out p5; have x0 : w1.cell? ⟨w.heap.size, 0, none⟩ = some (.slice Ak nk ck) := (HBX1.out.cell 0).trans rfl; have cl1 := bkeep HB1.out cl; clear hb1))
        go_quiet ((go_at_call 36; exact quiet_left (compare_any _ _ _ _ _ _ _ _ l[l.length - 1].1 e.1 _ ((HLB.out.below HB1.out).2.2.2.drewN _) HLB.out.len ((H1.out.below HB1.out).2.2.2.drewN _) H1.out.len)))
        go_wp2
        go_ret
        exact Added.stay HB.out (below_drewN HB1.out _) HA.out (by decide)
      · have HK : Hid (¬ (0 < l.length ∧ 0 ≤ compareBytes (l.getD (l.length - 1) ([], [])).1 e.1)) := Lib.hid (fun h => hcmp (by rw [HL.out] at h; exact h.2))
        go_enter Try.func16, Try.ntmps16
        go_wp2_with (first | (go_at_call 35; refine (check_any Ak Av nk nv ck cv e H1.out.len H2.out.len _).mono ?_; rintro e1 w1 ⟨rfl, hb1⟩; rw [HX.out]; have HB1 : Hid (Below w.heap.size w w1) := Lib.hid (((Below.refl _ _).alloc (Nat.le_refl _) _).trans (hb1.mono (by simp))); have HBX1 := Lib.hid (HBX.out.below hb1); have p51 := bkeep HB1.out p5; have x0 : w1.cell? ⟨w.heap.size, 0, none⟩ = some (.slice Ak nk ck) := (HBX1.out.cell 0).trans rfl; have cl1 := bkeep HB1.out cl; clear hb1))
        go_quiet ((go_at_call 36; exact quiet_left (compare_any _ _ _ _ _ _ _ _ l[l.length - 1].1 e.1 _ ((HLB.out.below HB1.out).2.2.2.drewN _) HLB.out.len ((H1.out.below HB1.out).2.2.2.drewN _) H1.out.len)))
        rename_i nq
        clear w1' w2' w3' w4' w5' cl cl1
        go_wp2
        have HBW : Hid (Below w.heap.size w (w1.drewN nq)) := Lib.hid (below_drewN HB1.out nq)
        obtain ⟨W1, hW1⟩ : ∃ x, x = w1.drewN nq := ⟨_, rfl⟩
        rw [← hW1] at HBW
        have HB4 : Hid (Blk W1 p 72 #[.int .i64 nd, .int .i64 lf, .int .i64 inn, .int .i64 fl, .int .i64 bl, .slice (some ⟨g, 0, none⟩) n c]) := Lib.hid (B4.out.below HBW.out)
        have y0 : W1.cell? ⟨w.heap.size, 0, none⟩ = some (.slice Ak nk ck) := by rw [hW1]; exact (HBX1.out.cell 0).trans rfl
        have y1 : W1.cell? ⟨w.heap.size, 1, none⟩ = some (.slice Av nv cv) := by rw [hW1]; exact (HBX1.out.cell 1).trans rfl
        first | rw [← hW1] | skip
        clear x0 p51 hW1
        obtain ⟨NE, hNE⟩ : ∃ x, x = (nodesOf nd lf inn fl bl ((n + 1 : Nat) : Int)).2 := ⟨_, rfl⟩
        have HAE : Hid (addE nd lf inn fl bl l e = NE) := Lib.hid (by unfold addE; rw [if_neg (by rw [HX.out]; decide), if_neg HK.out, hNE, B7.out])
        have HNE := Lib.hid hNE
        clear hNE
        refine nodes p nd lf inn fl bl (some ⟨g, 0, none⟩) n c W1 _ (Lib.hid (fun _ _ _ _ h => h)) HC.out (by omega) (bc_of HB4.out) ?_
        intro v6 v38 v39 v40 v41 v42 v43 v44 v45 v46 v47 v48 v49 v50 v51 w3 hb3
        rw [← HNE.out]
        have HB3 := Lib.hid hb3
        have z0 := bkeep hb3 y0
        have z1 := bkeep hb3 y1
        have HBW3 : Hid (Below w.heap.size w w3) := Lib.hid (HBW.out.trans (hb3.mono HBW.out.size))
        clear hb3 y0 y1
        by_cases hz : NE = 0
        · have hz' : (NE == 0) = true := by rw [beq_iff_eq]; exact hz
          have HZ := Lib.hid hz
          clear hz
          go_wp2
          refine add_put p w.heap.size 72 (some ⟨g, 0, none⟩) n c us Ak Av nk ck nv cv D e _ _ _ _ _ w3 _ (Lib.hid (fun _ _ _ _ h => h)) (Lib.hid (HB4.out.below HB3.out)) (Lib.hid (own_below B5.out HBW3.out)) hop (by omega) z0 z1 hoq (H1.out.below HBW3.out |> Lib.hid) (H2.out.below HBW3.out |> Lib.hid) l1 l2 ?_
          intro v55 v56 v57 v58 v59 v60 v61 v62 v63 v64 v65 v66 v67 v68 v69 v70 u' v' x wa w4 hwa ho4 hg4 hat4 su sv
          have hpush := Bd.push (F := F) (In := In) (T := 72) (l := l) (e := e) b1 (fun b hb => Nat.lt_of_lt_of_le (B2.out b hb) HBW3.out.size) b3 (B4.out.below HBW3.out) (own_below B5.out HBW3.out) B6.out B7 (fun i x hx => let ⟨u, v, q1, q2, s1, s2⟩ := B8.out i x hx; ⟨u, v, q1, q2, s1.below HBW3.out, s2.below HBW3.out⟩) hwa ho4 hg4 hat4 (su.weak (fun b hb => ⟨.inr (.inr hb), fun e => by have := (own_lt (own_below B5.out HBW3.out) b e).2; have hb : w3.heap.size ≤ b := hb; omega, by have hb : w3.heap.size ≤ b := hb; have := HBW3.out.size; omega⟩)) (sv.weak (fun b hb => ⟨.inr (.inr hb), fun e => by have := (own_lt (own_below B5.out HBW3.out) b e).2; have hb : w3.heap.size ≤ b := hb; omega, by have hb : w3.heap.size ≤ b := hb; have := HBW3.out.size; omega⟩)) (fun b hb => Nat.lt_of_lt_of_le (HI.out b hb) HBW3.out.size)
          have HP := Lib.hid hpush
          clear hpush ho4 hg4 hat4
          go_wp2; go_ret; exact Added.put HBW3.out HP.out.1 HP.out.2 (by rw [HAE.out]; exact HZ.out) B2.out
        · have hz' : (NE == 0) = false := by rw [beq_eq_false_iff_ne]; exact hz
          go_wp2
          go_ret
          exact Added.stay HB.out HBW3.out HAE.out hz
  · have HX := Lib.hid he
    have HA : Hid (addE nd lf inn fl bl l e = 3) := Lib.hid (by unfold addE; rw [if_pos (by rw [he]; decide)]; exact he)
    clear he
    go_enter Try.func16, Try.ntmps16
    go_wp2_with (first | (go_at_call 35; refine (check_any Ak Av nk nv ck cv e H1.out.len H2.out.len _).mono ?_; rintro e1 w1 ⟨rfl, hb1⟩; rw [HX.out]; have HB1 : Hid (Below w.heap.size w w1) := Lib.hid (((Below.refl _ _).alloc (Nat.le_refl _) _).trans (hb1.mono (by simp))); clear hb1))
    go_ret
    exact Added.stay HB.out HB1.out HA.out (by decide)
end Go.Proofs.Ytgjphmlmndcaeaa

namespace Go.Proofs.Ytgjphmlmndcaeaa
open Go.RowKit
open Go.Lib (compareBytes)
set_option maxRecDepth 100000 in
set_option maxHeartbeats 4000000 in
theorem radd_any (F In : Nat → Prop) (p : Nat) (nd lf inn fl bl : Int) (l : List Ent) (e : Ent) (Ak Av : Option Addr) (nk ck nv cv : Nat) (w : World) (hB : Bd w 39 F In p nd lf inn fl bl l) (hc : cfgOk nd lf inn fl bl) (hIn : ∀ b, In b → b < w.heap.size ∧ ¬ F b) (h1 : Bt w In Ak nk ck e.1) (h2 : Bt w In Av nv cv e.2) (l1 : e.1.length ≤ 1152921504606) (l2 : e.2.length ≤ 1152921504606) (hl : l.length ≤ 1152921504) (hls : ∀ x ∈ l, x.1.length ≤ 1152921504606) :
    Calls Try.prog 19 #[.pointer (some ⟨p, 0, none⟩), .agg #[.slice Ak nk ck, .slice Av nv cv]] w (Added w 39 F In p nd lf inn fl bl l e) := by
  have HB := Lib.hid hB
  obtain ⟨A, n, c, us, b1, b2, b3, b4, b5, b6, b7, b8⟩ := hB
  have B2 := Lib.hid b2
  have B4 := Lib.hid b4
  have B5 := Lib.hid b5
  have B6 := Lib.hid b6
  have B7 := b7
  have B8 := Lib.hid b8
  have HC := Lib.hid hc
  have H1 := Lib.hid h1
  have H2 := Lib.hid h2
  have HI : Hid (∀ b, In b → b < w.heap.size) := Lib.hid (fun b hb => (hIn b hb).1)
  have HN : Hid (∀ b, In b → (Value.slice A n c).ownBlock ≠ some b ∧ b ≠ p) := Lib.hid (fun b hb => ⟨fun e => (hIn b hb).2 (b6 b e), fun e => (hIn b hb).2 (e ▸ b1)⟩)
  have HLS := Lib.hid hls
  have hn : n ≤ 1152921504 := by have := b7.out; omega
  have hop : (Value.slice A n c).ownBlock ≠ some p := own_blk_ne b5 b4 (by decide)
  have hoq : (Value.slice A n c).ownBlock ≠ some w.heap.size := fun e => by have := (own_lt b5 _ e).2; omega
  have hpw : p < w.heap.size := b4.lt
  have p5 : w.cell? ⟨p, 5, none⟩ = some (.slice A n c) := (b4.cell 5).trans rfl
  have hpf := b4.frozen
  clear hc b2 b4 b5 b6 b7 b8 hIn h1 h2 hls
  rcases entE_cases e with he | he
  · have HX := Lib.hid he
    have hbox : Blk (w.alloc (.cells #[.slice Ak nk ck, .slice Av nv cv] 43)) w.heap.size 43 #[.slice Ak nk ck, .slice Av nv cv] := Blk.new _ _ _
    have HBX := Lib.hid hbox
    clear he hbox
    rcases Nat.eq_zero_or_pos n with h0 | h0
    · have hn0 : ¬ (0 : Int) < (n : Int) := by omega
      have HK : Hid (¬ (0 < l.length ∧ 0 ≤ compareBytes (l.getD (l.length - 1) ([], [])).1 e.1)) := Lib.hid (by have := B7.out; omega)
      go_enter Try.func19, Try.ntmps19
      go_wp2_with (first | (go_at_call 39; refine (rcheck_any Ak Av nk nv ck cv e H1.out.len H2.out.len _).mono ?_; rintro e1 w1 ⟨rfl, hb1⟩; rw [HX.out]; have HB1 : Hid (Below w.heap.size w w1) := Lib.hid (((Below.refl _ _).alloc (Nat.le_refl _) _).trans (hb1.mono (by simp))); have HBX1 := Lib.hid (HBX.out.below hb1); have p51 := bkeep HB1.out p5; have x0 : w1.cell? ⟨w.heap.size, 0, none⟩ = some (.slice Ak nk ck) := (HBX1.out.cell 0).trans rfl; clear hb1))
      go_quiet (fail)
      rename_i nq
      go_wp2
      have HBW : Hid (Below w.heap.size w (w1.drewN nq)) := Lib.hid (below_drewN HB1.out nq)
      obtain ⟨W1, hW1⟩ : ∃ x, x = w1.drewN nq := ⟨_, rfl⟩
      rw [← hW1] at HBW
      have HB4 : Hid (Blk W1 p 39 #[.int .i64 nd, .int .i64 lf, .int .i64 inn, .int .i64 fl, .int .i64 bl, .slice A n c]) := Lib.hid (B4.out.below HBW.out)
      have y0 : W1.cell? ⟨w.heap.size, 0, none⟩ = some (.slice Ak nk ck) := by rw [hW1]; exact (HBX1.out.cell 0).trans rfl
      have y1 : W1.cell? ⟨w.heap.size, 1, none⟩ = some (.slice Av nv cv) := by rw [hW1]; exact (HBX1.out.cell 1).trans rfl
      first | rw [← hW1] | skip
      clear x0 p51 hW1
      obtain ⟨NE, hNE⟩ : ∃ x, x = (nodesOf nd lf inn fl bl ((n + 1 : Nat) : Int)).2 := ⟨_, rfl⟩
      have HAE : Hid (addE nd lf inn fl bl l e = NE) := Lib.hid (by unfold addE; rw [if_neg (by rw [HX.out]; decide), if_neg HK.out, hNE, B7.out])
      have HNE := Lib.hid hNE
      clear hNE
      refine rnodes p nd lf inn fl bl A n c W1 _ (Lib.hid (fun _ _ _ _ h => h)) HC.out (by omega) (bc_of HB4.out) ?_
      intro v36 v37 v38 v39 v40 v41 v42 v43 v44 v45 v46 v47 v48 v49 w3 hb3
      rw [← HNE.out]
      have HB3 := Lib.hid hb3
      have z0 := bkeep hb3 y0
      have z1 := bkeep hb3 y1
      have HBW3 : Hid (Below w.heap.size w w3) := Lib.hid (HBW.out.trans (hb3.mono HBW.out.size))
      clear hb3 y0 y1
      by_cases hz : NE = 0
      · have hz' : (NE == 0) = true := by rw [beq_iff_eq]; exact hz
        have HZ := Lib.hid hz
        clear hz
        go_wp2
        refine radd_put p w.heap.size 39 A n c us Ak Av nk ck nv cv  _ _ _ _ _ w3 _ (Lib.hid (fun _ _ _ _ h => h)) (Lib.hid (HB4.out.below HB3.out)) (Lib.hid (own_below B5.out HBW3.out)) hop (by omega) z0 z1 hoq  ?_
        intro v52 v53 v54 v55 v56 v57 v58 v59 v60 v61  x wa w4 hwa ho4 hg4 hat4 
        have hpush := Bd.push (F := F) (In := In) (T := 39) (l := l) (e := e) b1 (fun b hb => Nat.lt_of_lt_of_le (B2.out b hb) HBW3.out.size) b3 (B4.out.below HBW3.out) (own_below B5.out HBW3.out) B6.out B7 (fun i x hx => let ⟨u, v, q1, q2, s1, s2⟩ := B8.out i x hx; ⟨u, v, q1, q2, s1.below HBW3.out, s2.below HBW3.out⟩) hwa ho4 hg4 hat4 (((H1.out.below HBW3.out).below hwa).weak (fun b hb => ⟨.inr (.inl hb), HN.out b hb⟩)).sb (((H2.out.below HBW3.out).below hwa).weak (fun b hb => ⟨.inr (.inl hb), HN.out b hb⟩)).sb (fun b hb => Nat.lt_of_lt_of_le (HI.out b hb) HBW3.out.size)
        have HP := Lib.hid hpush
        clear hpush ho4 hg4 hat4
        go_wp2; go_ret; have hN := HZ.out; subst hN; exact Added.put HBW3.out HP.out.1 HP.out.2 (HAE.out.trans HZ.out) B2.out
      · have hz' : (NE == 0) = false := by rw [beq_eq_false_iff_ne]; exact hz
        go_wp2
        go_ret
        exact Added.stay HB.out HBW3.out HAE.out hz
    · have hn0 : (0 : Int) < (n : Int) := by omega
      have hn1 : (n : Int) ≤ 1152921504 := by omega
      obtain ⟨g, gc, hv, _, _⟩ := B5.out.form h0
      injection hv with hv _ hv'
      subst hv; subst hv'
      have hll : l.length - 1 < l.length := by have := B7.out; omega
      obtain ⟨u, v, u1, _, s1, _⟩ := B8.out (n - 1) l[l.length - 1] (by have e := B7.out; rw [e]; exact List.getElem?_eq_getElem hll)
      obtain ⟨La, ln, lc, rfl, q1, q2, q3, q4⟩ := s1
      have HL : Hid (l.getD (l.length - 1) ([], []) = l[l.length - 1]) := Lib.hid (by rw [List.getD_eq_getElem?_getD, List.getElem?_eq_getElem hll]; rfl)
      have HLB : Hid (Bt w (fun b => (F b ∨ In b) ∧ (Value.slice (some ⟨g, 0, none⟩) n c).ownBlock ≠ some b ∧ b ≠ p) La ln lc l[l.length - 1].1) := Lib.hid ⟨q1, q2, q3, q4⟩
      have lsm : l[l.length - 1].1.length ≤ 1152921504606 := HLS.out _ (List.getElem_mem hll)
      have cl : w.cell? ⟨g, (n - 1) * 2, none⟩ = some (.slice La ln lc) := by
        have h1 := B5.out.1
        rw [B5.out.cellAt ((n - 1) * 2) (by omega), Nat.mul_comm]; exact u1
      have w1' := IntWalk.i64_in ((n : Int) - 1) (by omega)
      have w2' : (0 : Int) ≤ (n : Int) - 1 := by omega
      have w3' : ((n : Int) - 1) < n := by omega
      have w4' : ((n : Int) - 1).toNat = n - 1 := by omega
      have w5' : (1 : Int) ≤ (n : Int) := by omega
      clear u1 q1 q2 q3 q4
      by_cases hcmp : 0 ≤ compareBytes l[l.length - 1].1 e.1
      · have HA : Hid (addE nd lf inn fl bl l e = 51) := Lib.hid (by unfold addE; rw [if_neg (by rw [HX.out]; decide), if_pos ⟨by have := B7.out; omega, by rw [HL.out]; exact hcmp⟩])
        go_enter Try.func19, Try.ntmps19
        go_wp2_with (first | (go_at_call 39; refine (rcheck_any Ak Av nk nv ck cv e H1.out.len H2.out.len _).mono ?_; rintro e1 w1 ⟨rfl, hb1⟩; rw [HX.out]; have HB1 : Hid (Below w.heap.size w w1) := Lib.hid (((Below.refl _ _).alloc (Nat.le_refl _) _).trans (hb1.mono (by simp))); have HBX1 := Lib.hid (HBX.out.below hb1); have p51 := bkeep HB1.out p5; have x0 : w1.cell? ⟨w.heap.size, 0, none⟩ = some (.slice Ak nk ck) := (HBX1.out.cell 0).trans rfl; have cl1 := bkeep HB1.out cl; clear hb1))
        go_quiet ((go_at_call 40; exact Calls.quiet_of (rcompare_any _ _ _ _ _ _ _ _ l[l.length - 1].1 e.1 _ ((HLB.out.below HB1.out).2.2.2.drewN _) HLB.out.len ((H1.out.below HB1.out).2.2.2.drewN _) H1.out.len (by have := HLB.out.len; omega))))
        go_wp2
        go_ret
        exact Added.stay HB.out (below_drewN HB1.out _) HA.out (by decide)
      · have HK : Hid (¬ (0 < l.length ∧ 0 ≤ compareBytes (l.getD (l.length - 1) ([], [])).1 e.1)) := Lib.hid (fun h => hcmp (by rw [HL.out] at h; exact h.2))
        go_enter Try.func19, Try.ntmps19
        go_wp2_with (first | (go_at_call 39; refine (rcheck_any Ak Av nk nv ck cv e H1.out.len H2.out.len _).mono ?_; rintro e1 w1 ⟨rfl, hb1⟩; rw [HX.out]; have HB1 : Hid (Below w.heap.size w w1) := Lib.hid (((Below.refl _ _).alloc (Nat.le_refl _) _).trans (hb1.mono (by simp))); have HBX1 := Lib.hid (HBX.out.below hb1); have p51 := bkeep HB1.out p5; have x0 : w1.cell? ⟨w.heap.size, 0, none⟩ = some (.slice Ak nk ck) := (HBX1.out.cell 0).trans rfl; have cl1 := bkeep HB1.out cl; clear hb1))
        go_quiet ((go_at_call 40; exact Calls.quiet_of (rcompare_any _ _ _ _ _ _ _ _ l[l.length - 1].1 e.1 _ ((HLB.out.below HB1.out).2.2.2.drewN _) HLB.out.len ((H1.out.below HB1.out).2.2.2.drewN _) H1.out.len (by have := HLB.out.len; omega))))
        rename_i nq
        clear w1' w2' w3' w4' w5' cl cl1
        go_wp2
        have HBW : Hid (Below w.heap.size w (w1.drewN nq)) := Lib.hid (below_drewN HB1.out nq)
        obtain ⟨W1, hW1⟩ : ∃ x, x = w1.drewN nq := ⟨_, rfl⟩
        rw [← hW1] at HBW
        have HB4 : Hid (Blk W1 p 39 #[.int .i64 nd, .int .i64 lf, .int .i64 inn, .int .i64 fl, .int .i64 bl, .slice (some ⟨g, 0, none⟩) n c]) := Lib.hid (B4.out.below HBW.out)
        have y0 : W1.cell? ⟨w.heap.size, 0, none⟩ = some (.slice Ak nk ck) := by rw [hW1]; exact (HBX1.out.cell 0).trans rfl
        have y1 : W1.cell? ⟨w.heap.size, 1, none⟩ = some (.slice Av nv cv) := by rw [hW1]; exact (HBX1.out.cell 1).trans rfl
        first | rw [← hW1] | skip
        clear x0 p51 hW1
        obtain ⟨NE, hNE⟩ : ∃ x, x = (nodesOf nd lf inn fl bl ((n + 1 : Nat) : Int)).2 := ⟨_, rfl⟩
        have HAE : Hid (addE nd lf inn fl bl l e = NE) := Lib.hid (by unfold addE; rw [if_neg (by rw [HX.out]; decide), if_neg HK.out, hNE, B7.out])
        have HNE := Lib.hid hNE
        clear hNE
        refine rnodes p nd lf inn fl bl (some ⟨g, 0, none⟩) n c W1 _ (Lib.hid (fun _ _ _ _ h => h)) HC.out (by omega) (bc_of HB4.out) ?_
        intro v36 v37 v38 v39 v40 v41 v42 v43 v44 v45 v46 v47 v48 v49 w3 hb3
        rw [← HNE.out]
        have HB3 := Lib.hid hb3
        have z0 := bkeep hb3 y0
        have z1 := bkeep hb3 y1
        have HBW3 : Hid (Below w.heap.size w w3) := Lib.hid (HBW.out.trans (hb3.mono HBW.out.size))
        clear hb3 y0 y1
        by_cases hz : NE = 0
        · have hz' : (NE == 0) = true := by rw [beq_iff_eq]; exact hz
          have HZ := Lib.hid hz
          clear hz
          go_wp2
          refine radd_put p w.heap.size 39 (some ⟨g, 0, none⟩) n c us Ak Av nk ck nv cv  _ _ _ _ _ w3 _ (Lib.hid (fun _ _ _ _ h => h)) (Lib.hid (HB4.out.below HB3.out)) (Lib.hid (own_below B5.out HBW3.out)) hop (by omega) z0 z1 hoq  ?_
          intro v52 v53 v54 v55 v56 v57 v58 v59 v60 v61  x wa w4 hwa ho4 hg4 hat4 
          have hpush := Bd.push (F := F) (In := In) (T := 39) (l := l) (e := e) b1 (fun b hb => Nat.lt_of_lt_of_le (B2.out b hb) HBW3.out.size) b3 (B4.out.below HBW3.out) (own_below B5.out HBW3.out) B6.out B7 (fun i x hx => let ⟨u, v, q1, q2, s1, s2⟩ := B8.out i x hx; ⟨u, v, q1, q2, s1.below HBW3.out, s2.below HBW3.out⟩) hwa ho4 hg4 hat4 (((H1.out.below HBW3.out).below hwa).weak (fun b hb => ⟨.inr (.inl hb), HN.out b hb⟩)).sb (((H2.out.below HBW3.out).below hwa).weak (fun b hb => ⟨.inr (.inl hb), HN.out b hb⟩)).sb (fun b hb => Nat.lt_of_lt_of_le (HI.out b hb) HBW3.out.size)
          have HP := Lib.hid hpush
          clear hpush ho4 hg4 hat4
          go_wp2; go_ret; have hN := HZ.out; subst hN; exact Added.put HBW3.out HP.out.1 HP.out.2 (HAE.out.trans HZ.out) B2.out
        · have hz' : (NE == 0) = false := by rw [beq_eq_false_iff_ne]; exact hz
          go_wp2
          go_ret
          exact Added.stay HB.out HBW3.out HAE.out hz
  · have HX := Lib.hid he
    have HA : Hid (addE nd lf inn fl bl l e = 3) := Lib.hid (by unfold addE; rw [if_pos (by rw [he]; decide)]; exact he)
    clear he
    go_enter Try.func19, Try.ntmps19
    go_wp2_with (first | (go_at_call 39; refine (rcheck_any Ak Av nk nv ck cv e H1.out.len H2.out.len _).mono ?_; rintro e1 w1 ⟨rfl, hb1⟩; rw [HX.out]; have HB1 : Hid (Below w.heap.size w w1) := Lib.hid (((Below.refl _ _).alloc (Nat.le_refl _) _).trans (hb1.mono (by simp))); clear hb1))
    go_ret
    exact Added.stay HB.out HB1.out HA.out (by decide)
end Go.Proofs.Ytgjphmlmndcaeaa

namespace Go.Proofs.Ytgjphmlmndcaeaa
open Go.RowKit
open Go.Lib (compareBytes)
theorem Bd.ents {w : World} {T : TypeId} {F In : Nat → Prop} {p : Nat} {nd lf inn fl bl : Int} {l : List Ent} (h : Bd w T F In p nd lf inn fl bl l) : ∃ A n c, Blk w p T #[.int .i64 nd, .int .i64 lf, .int .i64 inn, .int .i64 fl, .int .i64 bl, .slice A n c] ∧ Ents w (fun b => F b ∨ In b) A n l ∧ n ≤ c ∧ c ≤ maxLen := by
  obtain ⟨A, n, c, us, h1, h2, h3, h4, h5, h6, h7, h8⟩ := h
  obtain ⟨_, _, e, q1, q2⟩ := own_val h5
  injection e with _ _ e
  subst e
  exact ⟨A, n, _, h4, ⟨h7, us, rd_own_blk h5 (fun g hg => .inl (h6 g hg)), fun i e he => let ⟨u, v, a, b, s1, s2⟩ := h8 i e he; ⟨u, v, a, b, s1.weak (fun b hb => hb.1), s2.weak (fun b hb => hb.1)⟩⟩, q1, q2⟩

/-- a builder that has just been made -/
def NewBd (w : World) (T : TypeId) (nd lf inn fl bl : Int) (In : Nat → Prop) (e : Ending) (w' : World) : Prop :=
  ∃ p, e = .returned (.tuple #[.pointer (some ⟨p, 0, none⟩), .int .i64 0]) ∧ Bd w' T (fun b => w.heap.size ≤ b ∧ b < w'.heap.size) In p nd lf inn fl bl [] ∧ Below w.heap.size w w'
theorem bd_new {w : World} {T : TypeId} {F In : Nat → Prop} {p : Nat} {nd lf inn fl bl : Int} (h1 : F p) (h2 : ∀ b, F b → b < w.heap.size) (hT : T ≠ 43) (hb : Blk w p T #[.int .i64 nd, .int .i64 lf, .int .i64 inn, .int .i64 fl, .int .i64 bl, .slice none 0 0]) : Bd w T F In p nd lf inn fl bl [] :=
  ⟨none, 0, 0, [], h1, h2, hT, hb, World.ownsRow_nil _ _ _ _, fun g hg => by simp [Value.ownBlock] at hg, rfl, fun i e he => by simp at he⟩
theorem pnew_ok (nd lf inn fl bl : Int) (In : Nat → Prop) (w : World) (hc : cfgOk nd lf inn fl bl) : Calls Try.prog 10 #[.agg #[.int .i64 nd, .int .i64 lf, .int .i64 inn, .int .i64 fl, .int .i64 bl]] w (NewBd w 72 nd lf inn fl bl In) := by
  have HC := Lib.hid (cfgE_ok hc)
  clear hc
  go_enter Try.func10, Try.ntmps10
  go_wp2_with (go_at_call 30; refine (config_any nd lf inn fl bl _).mono ?_; rintro e w1 ⟨rfl, hb1⟩; rw [HC.out]; have HB1 : Hid (Below w.heap.size w w1) := Lib.hid (((Below.refl _ _).alloc (Nat.le_refl _) _).trans (hb1.mono (by simp))); have HK1 := Lib.hid ((Blk.new w 23 #[.int .i64 nd, .int .i64 lf, .int .i64 inn, .int .i64 fl, .int .i64 bl]).below hb1); obtain ⟨z0, z1, z2, z3, z4⟩ := cf_of HK1.out; clear hb1)
  go_ret2
  exact ⟨_, rfl, bd_new ⟨HB1.out.size, by simp⟩ (fun b hb => hb.2) (by decide) (Blk.new _ _ _), HB1.out.alloc HB1.out.size _⟩
theorem pnew_bad (nd lf inn fl bl : Int) (w : World) (hc : ¬ cfgOk nd lf inn fl bl) : Calls Try.prog 10 #[.agg #[.int .i64 nd, .int .i64 lf, .int .i64 inn, .int .i64 fl, .int .i64 bl]] w fun e w' => e = .returned (.tuple #[.pointer none, .int .i64 1]) ∧ Below w.heap.size w w' := by
  have HC := Lib.hid (cfgE_bad hc)
  clear hc
  go_enter Try.func10, Try.ntmps10
  go_wp2_with (go_at_call 30; refine (config_any nd lf inn fl bl _).mono ?_; rintro e w1 ⟨rfl, hb1⟩; rw [HC.out]; have HB1 : Hid (Below w.heap.size w w1) := Lib.hid (((Below.refl _ _).alloc (Nat.le_refl _) _).trans (hb1.mono (by simp))); clear hb1)
  go_ret2
  exact ⟨rfl, HB1.out⟩

/-- what Done leaves: an arena, an empty builder -/
def DoneX (w : World) (T : TypeId) (F In : Nat → Prop) (p : Nat) (nd lf inn fl bl : Int) (t : List Slt × Int) (en : Ending) (w' : World) : Prop :=
  ∃ a, en = .returned (.pointer (some ⟨a, 0, none⟩)) ∧ ArX w' (From w.heap.size) a nd t.1 t.2 ∧ Bd w' T F In p nd lf inn fl bl [] ∧ Chg F w w'
def DoneR (w : World) (T : TypeId) (F In : Nat → Prop) (p : Nat) (nd lf inn fl bl : Int) (t : List Slt × Int) (en : Ending) (w' : World) : Prop :=
  ∃ a, en = .returned (.pointer (some ⟨a, 0, none⟩)) ∧ ArR w' (From w.heap.size) a nd t.1 t.2 ∧ Bd w' T F In p nd lf inn fl bl [] ∧ Chg F w w'
theorem ptree_any (nd lf inn fl bl : Int) (A : Option Addr) (n c : Nat) (F0 : Nat → Prop) (l : List Ent) (w : World) (hok : (buildE nd lf inn fl bl l).1 = 0) (hE : Ents w F0 A n l) (hnc : n ≤ c) (hcm : c ≤ maxLen) (hn : n ≤ 1152921504606)
    (hsm : ∀ e ∈ l, e.1.length ≤ 1152921504606 ∧ e.2.length ≤ 1152921504606) :
    Calls Try.prog 33 #[.agg #[.int .i64 nd, .int .i64 lf, .int .i64 inn, .int .i64 fl, .int .i64 bl], .slice A n c] w (NewTree w nd (treeOf fl.toNat inn.toNat l)) := by
  obtain ⟨hc, hf⟩ := buildE_ok hok
  obtain ⟨i, rfl⟩ : ∃ i : Nat, inn = i := ⟨inn.toNat, by unfold cfgOk at hc; omega⟩
  obtain ⟨f, rfl⟩ : ∃ f : Nat, fl = f := ⟨fl.toNat, by unfold cfgOk at hc; omega⟩
  exact tree_any nd lf bl i f A n c F0 l w hc hE hnc hcm hn hsm (by rw [hE.len]; exact hf)
noncomputable def doneC : Code := codeOr (Try.f13.body.bind (regionAt 1))
set_option maxRecDepth 100000 in
set_option maxHeartbeats 4000000 in
theorem done_tree (F : Nat → Prop) (p : Nat) (nd lf inn fl bl : Int) (l : List Ent) (A : Option Addr) (n c : Nat) (w : World) {u1 u2 u3 u4 u5 u6 u7 u8 u9 u10 u11 u12 u13 u14 u15 u16 : Value} (Q : Exit → Act → World → Prop) (HQP : Hid (∀ c t (a : Act) w, Q (.panic c) ⟨t, a.defers⟩ w → Q (.panic c) a w))
    (HOK : Hid ((buildE nd lf inn fl bl l).1 = 0)) (HE : Hid (Ents w F A n l)) (hnc : n ≤ c) (hcm : c ≤ maxLen) (hn : n ≤ 1152921504606) (HS : Hid (∀ e ∈ l, e.1.length ≤ 1152921504606 ∧ e.2.length ≤ 1152921504606)) (hb : Bc p nd lf inn fl bl (.slice A n c) w)
    (hexit : ∀ (v4 v5 v6 v7 v8 v9 v10 v11 v12 : Value) (a : Nat) (w' : World), Below w.heap.size w w' → ArX w' (From w.heap.size) a nd (treeOf fl.toNat inn.toNat l).1 (treeOf fl.toNat inn.toNat l).2 → Q .normal ⟨(.pointer (some ⟨p, 0, none⟩) :: u1 :: u2 :: .pointer (some ⟨a, 0, none⟩) :: v4 :: v5 :: v6 :: v7 :: v8 :: v9 :: v10 :: v11 :: v12 :: u13 :: u14 :: u15 :: u16 :: []).toArray, []⟩ w') :
    Code.wp Try.prog doneC Q ⟨(.pointer (some ⟨p, 0, none⟩) :: u1 :: u2 :: u3 :: u4 :: u5 :: u6 :: u7 :: u8 :: u9 :: u10 :: u11 :: u12 :: u13 :: u14 :: u15 :: u16 :: []).toArray, []⟩ w := by
  have HEX := Lib.hid hexit
  have S0 : Bc p nd lf inn fl bl (.slice A n c) w.drew := hb
  clear hexit hb
  conv => arg 2; whnf
  refine wp_region_V (Bc p nd lf inn fl bl (.slice A n c)) (by kernel_rfl) ?_
  refine wpV_take (i := 0) (v := ?_) rfl (by kernel_rfl) (by kernel_rfl) (by kernel_rfl) (by first | exact fun _ _ _ h => h | exact fun c a w h => HQP.out c _ a w h) S0 (Or.inl ⟨by kernel_rfl, ?_⟩) ?_
  rotate_left
  · intro w hSw
    go_simp
    try with_reducible rfl
  try simp only [Act.put, List.setIfInBounds_toArray, List.set_cons_zero, List.set_cons_succ]
  refine wpV_take (i := 1) (v := ?_) rfl (by kernel_rfl) (by kernel_rfl) (by kernel_rfl) (by first | exact fun _ _ _ h => h | exact fun c a w h => HQP.out c _ a w h) S0 (Or.inl ⟨by kernel_rfl, ?_⟩) ?_
  rotate_left
  · intro w hSw
    go_simp
    try with_reducible rfl
  try simp only [Act.put, List.setIfInBounds_toArray, List.set_cons_zero, List.set_cons_succ]
  refine wpV_take (i := 2) (v := ?_) rfl (by kernel_rfl) (by kernel_rfl) (by kernel_rfl) (by first | exact fun _ _ _ h => h | exact fun c a w h => HQP.out c _ a w h) S0 (Or.inl ⟨by kernel_rfl, ?_⟩) ?_
  rotate_left
  · intro w hSw
    go_simp
    try with_reducible rfl
  try simp only [Act.put, List.setIfInBounds_toArray, List.set_cons_zero, List.set_cons_succ]
  refine wpV_take (i := 4) (v := ?_) rfl (by kernel_rfl) (by kernel_rfl) (by kernel_rfl) (by first | exact fun _ _ _ h => h | exact fun c a w h => HQP.out c _ a w h) S0 (Or.inl ⟨by kernel_rfl, ?_⟩) ?_
  rotate_left
  · intro w hSw
    go_simp
    try with_reducible rfl
  try simp only [Act.put, List.setIfInBounds_toArray, List.set_cons_zero, List.set_cons_succ]
  refine wpV_take (i := 5) (v := ?_) rfl (by kernel_rfl) (by kernel_rfl) (by kernel_rfl) (by first | exact fun _ _ _ h => h | exact fun c a w h => HQP.out c _ a w h) S0 (Or.inl ⟨by kernel_rfl, ?_⟩) ?_
  rotate_left
  · intro w hSw
    go_simp
    try with_reducible rfl
  try simp only [Act.put, List.setIfInBounds_toArray, List.set_cons_zero, List.set_cons_succ]
  refine wpV_take (i := 6) (v := ?_) rfl (by kernel_rfl) (by kernel_rfl) (by kernel_rfl) (by first | exact fun _ _ _ h => h | exact fun c a w h => HQP.out c _ a w h) S0 (Or.inl ⟨by kernel_rfl, ?_⟩) ?_
  rotate_left
  · intro w hSw
    go_simp
    try with_reducible rfl
  try simp only [Act.put, List.setIfInBounds_toArray, List.set_cons_zero, List.set_cons_succ]
  refine wpV_take (i := 3) (v := ?_) rfl (by kernel_rfl) (by kernel_rfl) (by kernel_rfl) (by first | exact fun _ _ _ h => h | exact fun c a w h => HQP.out c _ a w h) S0 (Or.inl ⟨by kernel_rfl, ?_⟩) ?_
  rotate_left
  · intro w hSw
    obtain ⟨s0, s1, s2, s3, s4, s5⟩ := hSw
    go_simp
    try with_reducible rfl
  try simp only [Act.put, List.setIfInBounds_toArray, List.set_cons_zero, List.set_cons_succ]
  refine wpV_take (i := 7) (v := ?_) rfl (by kernel_rfl) (by kernel_rfl) (by kernel_rfl) (by first | exact fun _ _ _ h => h | exact fun c a w h => HQP.out c _ a w h) S0 (Or.inl ⟨by kernel_rfl, ?_⟩) ?_
  rotate_left
  · intro w hSw
    obtain ⟨s0, s1, s2, s3, s4, s5⟩ := hSw
    go_simp
    try with_reducible rfl
  try simp only [Act.put, List.setIfInBounds_toArray, List.set_cons_zero, List.set_cons_succ]
  refine wpV_one (i := 8) (by kernel_rfl) rfl (fun K hK => ?_)
  go_simp
  refine (ptree_any nd lf inn fl bl A n c F l _ HOK.out (HE.out.below (Below.refl _ _).drew) hnc hcm hn HS.out).mono ?_; rintro e w5 ⟨a, rfl, q5, hb5⟩; have S5 := S0.below hb5
  refine hK.out _ _ S5 ?_
  clear hK K
  try simp only [Act.put, List.setIfInBounds_toArray, List.set_cons_zero, List.set_cons_succ]
  refine wpV_take (i := 9) (v := ?_) rfl (by kernel_rfl) (by kernel_rfl) (by kernel_rfl) (by first | exact fun _ _ _ h => h | exact fun c a w h => HQP.out c _ a w h) S5 (Or.inl ⟨by kernel_rfl, ?_⟩) ?_
  rotate_left
  · intro w hSw
    go_simp
    try with_reducible rfl
  try simp only [Act.put, List.setIfInBounds_toArray, List.set_cons_zero, List.set_cons_succ]
  refine wpV_done (by kernel_rfl) ?_ _
  exact HEX.out _ _ _ _ _ _ _ _ _ a _ ((Below.refl _ _).drew.trans hb5) q5
noncomputable def rdoneC : Code := codeOr (Try.f14.body.bind (regionAt 1))
set_option maxRecDepth 100000 in
set_option maxHeartbeats 4000000 in
theorem rdone_tree (F : Nat → Prop) (p : Nat) (nd lf inn fl bl : Int) (l : List Ent) (A : Option Addr) (n c : Nat) (w : World) {u1 u2 u3 u4 u5 u6 u7 u8 u9 u10 u11 u12 u13 u14 u15 u16 u17 u18 u19 u20 u21 u22 : Value} (Q : Exit → Act → World → Prop) (HQP : Hid (∀ c t (a : Act) w, Q (.panic c) ⟨t, a.defers⟩ w → Q (.panic c) a w))
    (HOK : Hid ((buildE nd lf inn fl bl l).1 = 0)) (HE : Hid (Ents w F A n l)) (hnc : n ≤ c) (hcm : c ≤ maxLen) (hn : n ≤ 1152921504606) (HS : Hid (∀ e ∈ l, e.1.length ≤ 1152921504606 ∧ e.2.length ≤ 1152921504606)) (hb : Bc p nd lf inn fl bl (.slice A n c) w)
    (hexit : ∀ (v4 v5 v6 v7 v8 v9 v10 v11 v12 v13 v14 v15 v16 v17 v18 : Value) (a : Nat) (w' : World), Below w.heap.size w w' → ArR w' (From w.heap.size) a nd (treeOf fl.toNat inn.toNat l).1 (treeOf fl.toNat inn.toNat l).2 → Q .normal ⟨(.pointer (some ⟨p, 0, none⟩) :: u1 :: u2 :: .pointer (some ⟨a, 0, none⟩) :: v4 :: v5 :: v6 :: v7 :: v8 :: v9 :: v10 :: v11 :: v12 :: v13 :: v14 :: v15 :: v16 :: v17 :: v18 :: u19 :: u20 :: u21 :: u22 :: []).toArray, []⟩ w') :
    Code.wp Try.prog rdoneC Q ⟨(.pointer (some ⟨p, 0, none⟩) :: u1 :: u2 :: u3 :: u4 :: u5 :: u6 :: u7 :: u8 :: u9 :: u10 :: u11 :: u12 :: u13 :: u14 :: u15 :: u16 :: u17 :: u18 :: u19 :: u20 :: u21 :: u22 :: []).toArray, []⟩ w := by
  have HEX := Lib.hid hexit
  have S0 : Bc p nd lf inn fl bl (.slice A n c) w.drew := hb
  clear hexit hb
  conv => arg 2; whnf
  refine wp_region_V (Bc p nd lf inn fl bl (.slice A n c)) (by kernel_rfl) ?_
  refine wpV_take (i := 0) (v := ?_) rfl (by kernel_rfl) (by kernel_rfl) (by kernel_rfl) (by first | exact fun _ _ _ h => h | exact fun c a w h => HQP.out c _ a w h) S0 (Or.inl ⟨by kernel_rfl, ?_⟩) ?_
  rotate_left
  · intro w hSw
    go_simp
    try with_reducible rfl
  try simp only [Act.put, List.setIfInBounds_toArray, List.set_cons_zero, List.set_cons_succ]
  refine wpV_take (i := 1) (v := ?_) rfl (by kernel_rfl) (by kernel_rfl) (by kernel_rfl) (by first | exact fun _ _ _ h => h | exact fun c a w h => HQP.out c _ a w h) S0 (Or.inl ⟨by kernel_rfl, ?_⟩) ?_
  rotate_left
  · intro w hSw
    go_simp
    try with_reducible rfl
  try simp only [Act.put, List.setIfInBounds_toArray, List.set_cons_zero, List.set_cons_succ]
  refine wpV_take (i := 2) (v := ?_) rfl (by kernel_rfl) (by kernel_rfl) (by kernel_rfl) (by first | exact fun _ _ _ h => h | exact fun c a w h => HQP.out c _ a w h) S0 (Or.inl ⟨by kernel_rfl, ?_⟩) ?_
  rotate_left
  · intro w hSw
    go_simp
    try with_reducible rfl
  try simp only [Act.put, List.setIfInBounds_toArray, List.set_cons_zero, List.set_cons_succ]
  refine wpV_take (i := 4) (v := ?_) rfl (by kernel_rfl) (by kernel_rfl) (by kernel_rfl) (by first | exact fun _ _ _ h => h | exact fun c a w h => HQP.out c _ a w h) S0 (Or.inl ⟨by kernel_rfl, ?_⟩) ?_
  rotate_left
  · intro w hSw
    go_simp
    try with_reducible rfl
  try simp only [Act.put, List.setIfInBounds_toArray, List.set_cons_zero, List.set_cons_succ]
  refine wpV_take (i := 5) (v := ?_) rfl (by kernel_rfl) (by kernel_rfl) (by kernel_rfl) (by first | exact fun _ _ _ h => h | exact fun c a w h => HQP.out c _ a w h) S0 (Or.inl ⟨by kernel_rfl, ?_⟩) ?_
  rotate_left
  · intro w hSw
    go_simp
    try with_reducible rfl
  try simp only [Act.put, List.setIfInBounds_toArray, List.set_cons_zero, List.set_cons_succ]
  refine wpV_take (i := 6) (v := ?_) rfl (by kernel_rfl) (by kernel_rfl) (by kernel_rfl) (by first | exact fun _ _ _ h => h | exact fun c a w h => HQP.out c _ a w h) S0 (Or.inl ⟨by kernel_rfl, ?_⟩) ?_
  rotate_left
  · intro w hSw
    go_simp
    try with_reducible rfl
  try simp only [Act.put, List.setIfInBounds_toArray, List.set_cons_zero, List.set_cons_succ]
  refine wpV_take (i := 3) (v := ?_) rfl (by kernel_rfl) (by kernel_rfl) (by kernel_rfl) (by first | exact fun _ _ _ h => h | exact fun c a w h => HQP.out c _ a w h) S0 (Or.inl ⟨by kernel_rfl, ?_⟩) ?_
  rotate_left
  · intro w hSw
    obtain ⟨s0, s1, s2, s3, s4, s5⟩ := hSw
    go_simp
    try with_reducible rfl
  try simp only [Act.put, List.setIfInBounds_toArray, List.set_cons_zero, List.set_cons_succ]
  refine wpV_take (i := 7) (v := ?_) rfl (by kernel_rfl) (by kernel_rfl) (by kernel_rfl) (by first | exact fun _ _ _ h => h | exact fun c a w h => HQP.out c _ a w h) S0 (Or.inl ⟨by kernel_rfl, ?_⟩) ?_
  rotate_left
  · intro w hSw
    obtain ⟨s0, s1, s2, s3, s4, s5⟩ := hSw
    go_simp
    try with_reducible rfl
  try simp only [Act.put, List.setIfInBounds_toArray, List.set_cons_zero, List.set_cons_succ]
  refine wpV_one (i := 8) (by kernel_rfl) rfl (fun K hK => ?_)
  go_simp
  refine (rbuild_any nd lf inn fl bl A n c F l _ (HE.out.below (Below.refl _ _).drew) hnc hcm hn HS.out).mono ?_; rintro e w5 ⟨pv, rfl, hb5, q6⟩; obtain ⟨a, rfl, q5⟩ := (q6.resolve_left (fun h => h.1 HOK.out)).2; have S5 := S0.below hb5
  refine hK.out _ _ S5 ?_
  clear hK K
  try simp only [Act.put, List.setIfInBounds_toArray, List.set_cons_zero, List.set_cons_succ]
  refine wpV_take (i := 9) (v := ?_) rfl (by kernel_rfl) (by kernel_rfl) (by kernel_rfl) (by first | exact fun _ _ _ h => h | exact fun c a w h => HQP.out c _ a w h) S5 (Or.inl ⟨by kernel_rfl, ?_⟩) ?_
  rotate_left
  · intro w hSw
    go_simp
    try with_reducible rfl
  try simp only [Act.put, List.setIfInBounds_toArray, List.set_cons_zero, List.set_cons_succ]
  refine wpV_take (i := 10) (v := ?_) rfl (by kernel_rfl) (by kernel_rfl) (by kernel_rfl) (by first | exact fun _ _ _ h => h | exact fun c a w h => HQP.out c _ a w h) S5 (Or.inl ⟨by kernel_rfl, ?_⟩) ?_
  rotate_left
  · intro w hSw
    go_simp
    try with_reducible rfl
  try simp only [Act.put, List.setIfInBounds_toArray, List.set_cons_zero, List.set_cons_succ]
  refine wpV_take (i := 11) (v := ?_) rfl (by kernel_rfl) (by kernel_rfl) (by kernel_rfl) (by first | exact fun _ _ _ h => h | exact fun c a w h => HQP.out c _ a w h) S5 (Or.inl ⟨by kernel_rfl, ?_⟩) ?_
  rotate_left
  · intro w hSw
    go_simp
    try with_reducible rfl
  try simp only [Act.put, List.setIfInBounds_toArray, List.set_cons_zero, List.set_cons_succ]
  refine wpV_take (i := 12) (v := ?_) rfl (by kernel_rfl) (by kernel_rfl) (by kernel_rfl) (by first | exact fun _ _ _ h => h | exact fun c a w h => HQP.out c _ a w h) S5 (Or.inl ⟨by kernel_rfl, ?_⟩) ?_
  rotate_left
  · intro w hSw
    go_simp
    try with_reducible rfl
  try simp only [Act.put, List.setIfInBounds_toArray, List.set_cons_zero, List.set_cons_succ]
  refine wpV_take (i := 13) (v := ?_) rfl (by kernel_rfl) (by kernel_rfl) (by kernel_rfl) (by first | exact fun _ _ _ h => h | exact fun c a w h => HQP.out c _ a w h) S5 (Or.inl ⟨by kernel_rfl, ?_⟩) ?_
  rotate_left
  · intro w hSw
    go_simp
    try with_reducible rfl
  try simp only [Act.put, List.setIfInBounds_toArray, List.set_cons_zero, List.set_cons_succ]
  refine wpV_take (i := 14) (v := ?_) rfl (by kernel_rfl) (by kernel_rfl) (by kernel_rfl) (by first | exact fun _ _ _ h => h | exact fun c a w h => HQP.out c _ a w h) S5 (Or.inl ⟨by kernel_rfl, ?_⟩) ?_
  rotate_left
  · intro w hSw
    go_simp
    try with_reducible rfl
  try simp only [Act.put, List.setIfInBounds_toArray, List.set_cons_zero, List.set_cons_succ]
  refine wpV_take (i := 15) (v := ?_) rfl (by kernel_rfl) (by kernel_rfl) (by kernel_rfl) (by first | exact fun _ _ _ h => h | exact fun c a w h => HQP.out c _ a w h) S5 (Or.inl ⟨by kernel_rfl, ?_⟩) ?_
  rotate_left
  · intro w hSw
    go_simp
    try with_reducible rfl
  try simp only [Act.put, List.setIfInBounds_toArray, List.set_cons_zero, List.set_cons_succ]
  refine wpV_done (by kernel_rfl) ?_ _
  exact HEX.out _ _ _ _ _ _ _ _ _ _ _ _ _ _ _ a _ ((Below.refl _ _).drew.trans hb5) q5

theorem done_any (F In : Nat → Prop) (p : Nat) (nd lf inn fl bl : Int) (l : List Ent) (w : World) (hB : Bd w 72 F In p nd lf inn fl bl l) (hok : (buildE nd lf inn fl bl l).1 = 0) (hl : l.length ≤ 1152921504606) (hsm : ∀ e ∈ l, e.1.length ≤ 1152921504606 ∧ e.2.length ≤ 1152921504606) :
    Calls Try.prog 13 #[.pointer (some ⟨p, 0, none⟩)] w (DoneX w 72 F In p nd lf inn fl bl (treeOf fl.toNat inn.toNat l)) := by
  have HB := Lib.hid hB
  obtain ⟨A, n, c, hblk, hE, hnc, hcm⟩ := hB.ents
  have HK := Lib.hid hblk
  have HE := Lib.hid hE
  have HS := Lib.hid hsm
  have HOK := Lib.hid hok
  have hn : n ≤ 1152921504606 := by have := hE.len; omega
  have hp : F p := by obtain ⟨_, _, _, _, h, _⟩ := hB; exact h
  clear hB hblk hE hsm hok
  go_enter Try.func13, Try.ntmps13
  go_wp2
  refine done_tree _ p nd lf inn fl bl l A n c w _ (Lib.hid (fun _ _ _ _ h => h)) HOK HE hnc hcm hn HS (bc_of HK.out) ?_
  intro v4 v5 v6 v7 v8 v9 v10 v11 v12 a w1 hb1 hx1
  have HB1 := Lib.hid hb1
  have HX1 := Lib.hid hx1
  have HK1 := Lib.hid (HK.out.below hb1)
  have p5 : w1.cell? ⟨p, 5, none⟩ = some (.slice A n c) := (HK1.out.cell 5).trans rfl
  have pf := HK1.out.frozen
  have hpl : p < w.heap.size := HK.out.lt
  clear hb1 hx1
  go_wp2
  go_ret
  have hch := Chg.set1 w1 p 5 (.slice none 0 0)
  exact ⟨a, rfl, HX1.out.chg hch (fun b hb e => by have hb : w.heap.size ≤ b := hb; have e : b = p := e; omega), (HB.out.below HB1.out).empty, (Chg.of_below (S := F) HB1.out).trans hch (fun b _ e => (show b = p from e) ▸ hp)⟩
theorem rdone_any (F In : Nat → Prop) (p : Nat) (nd lf inn fl bl : Int) (l : List Ent) (w : World) (hB : Bd w 39 F In p nd lf inn fl bl l) (hok : (buildE nd lf inn fl bl l).1 = 0) (hl : l.length ≤ 1152921504606) (hsm : ∀ e ∈ l, e.1.length ≤ 1152921504606 ∧ e.2.length ≤ 1152921504606) :
    Calls Try.prog 14 #[.pointer (some ⟨p, 0, none⟩)] w (DoneR w 39 F In p nd lf inn fl bl (treeOf fl.toNat inn.toNat l)) := by
  have HB := Lib.hid hB
  obtain ⟨A, n, c, hblk, hE, hnc, hcm⟩ := hB.ents
  have HK := Lib.hid hblk
  have HE := Lib.hid hE
  have HS := Lib.hid hsm
  have HOK := Lib.hid hok
  have hn : n ≤ 1152921504606 := by have := hE.len; omega
  have hp : F p := by obtain ⟨_, _, _, _, h, _⟩ := hB; exact h
  clear hB hblk hE hsm hok
  go_enter Try.func14, Try.ntmps14
  go_wp2
  refine rdone_tree _ p nd lf inn fl bl l A n c w _ (Lib.hid (fun _ _ _ _ h => h)) HOK HE hnc hcm hn HS (bc_of HK.out) ?_
  intro v4 v5 v6 v7 v8 v9 v10 v11 v12 v13 v14 v15 v16 v17 v18 a w1 hb1 hx1
  have HB1 := Lib.hid hb1
  have HX1 := Lib.hid hx1
  have HK1 := Lib.hid (HK.out.below hb1)
  have p5 : w1.cell? ⟨p, 5, none⟩ = some (.slice A n c) := (HK1.out.cell 5).trans rfl
  have pf := HK1.out.frozen
  have hpl : p < w.heap.size := HK.out.lt
  clear hb1 hx1
  go_wp2
  go_ret
  have hch := Chg.set1 w1 p 5 (.slice none 0 0)
  exact ⟨a, rfl, HX1.out.chg hch (fun b hb e => by have hb : w.heap.size ≤ b := hb; have e : b = p := e; omega), (HB.out.below HB1.out).empty, (Chg.of_below (S := F) HB1.out).trans hch (fun b _ e => (show b = p from e) ▸ hp)⟩
end Go.Proofs.Ytgjphmlmndcaeaa

namespace Go.Proofs.Ytgjphmlmndcaeaa
open Go.RowKit

/-- four builders whose blocks are apart: two of the program's, two of the document's -/
structure P2 (w : World) (B0 : Nat) (nd lf inn fl bl : Int) (F : Nat → Prop) (p : Nat) (la : List Ent) (G : Nat → Prop) (q : Nat) (lb : List Ent) (F' : Nat → Prop) (p' : Nat) (la' : List Ent) (G' : Nat → Prop) (q' : Nat) (lb' : List Ent) : Prop where
  b1 : Bd w 72 F (fun b => b < B0) p nd lf inn fl bl la
  c1 : Bd w 39 G (fun b => b < B0) q nd lf inn fl bl lb
  b2 : Bd w 72 F' (fun b => b < B0) p' nd lf inn fl bl la'
  c2 : Bd w 39 G' (fun b => b < B0) q' nd lf inn fl bl lb'
  d12 : ∀ b, F b → ¬ G b
  d13 : ∀ b, F b → ¬ F' b
  d14 : ∀ b, F b → ¬ G' b
  d23 : ∀ b, G b → ¬ F' b
  d24 : ∀ b, G b → ¬ G' b
  d34 : ∀ b, F' b → ¬ G' b
  base : ∀ b, F b ∨ G b ∨ F' b ∨ G' b → B0 ≤ b
theorem Bd.lt {w : World} {T : TypeId} {F In : Nat → Prop} {p : Nat} {nd lf inn fl bl : Int} {l : List Ent} (h : Bd w T F In p nd lf inn fl bl l) : ∀ b, F b → b < w.heap.size := by obtain ⟨_, _, _, _, _, h, _⟩ := h; exact h
section
variable {S : Nat → Prop} {w w' : World} {B0 : Nat} {nd lf inn fl bl : Int} {F G F' G' H : Nat → Prop} {p q p' q' : Nat} {la lb la' lb' l2 : List Ent}
theorem P2.swap (h : P2 w B0 nd lf inn fl bl F p la G q lb F' p' la' G' q' lb') : P2 w B0 nd lf inn fl bl F' p' la' G' q' lb' F p la G q lb :=
  ⟨h.b2, h.c2, h.b1, h.c1, h.d34, fun b hb hc => h.d13 b hc hb, fun b hb hc => h.d23 b hc hb, fun b hb hc => h.d14 b hc hb, fun b hb hc => h.d24 b hc hb, h.d12, fun b hb => h.base b (by rcases hb with h | h | h | h; exact .inr (.inr (.inl h)); exact .inr (.inr (.inr h)); exact .inl h; exact .inr (.inl h))⟩
theorem P2.chg (h : P2 w B0 nd lf inn fl bl F p la G q lb F' p' la' G' q' lb') (hc : Chg S w w') (hs : ∀ b, S b → B0 ≤ b ∧ ¬ (F b ∨ G b ∨ F' b ∨ G' b)) : P2 w' B0 nd lf inn fl bl F p la G q lb F' p' la' G' q' lb' := by
  have hi : ∀ b, b < B0 → ¬ S b := fun b hb h => by have := (hs b h).1; omega
  exact ⟨h.b1.chg hc (fun b hb hx => (hs b hx).2 (.inl hb)) hi, h.c1.chg hc (fun b hb hx => (hs b hx).2 (.inr (.inl hb))) hi, h.b2.chg hc (fun b hb hx => (hs b hx).2 (.inr (.inr (.inl hb)))) hi, h.c2.chg hc (fun b hb hx => (hs b hx).2 (.inr (.inr (.inr hb)))) hi, h.d12, h.d13, h.d14, h.d23, h.d24, h.d34, h.base⟩
theorem P2.below (h : P2 w B0 nd lf inn fl bl F p la G q lb F' p' la' G' q' lb') (hb : Below w.heap.size w w') : P2 w' B0 nd lf inn fl bl F p la G q lb F' p' la' G' q' lb' := h.chg (S := Nil) (Chg.of_below hb) (fun b hb => hb.elim)
/-- a step of the program's first builder -/
theorem P2.stepX (h : P2 w B0 nd lf inn fl bl F p la G q lb F' p' la' G' q' lb') (hB : B0 ≤ w.heap.size) (hb : Bd w' 72 H (fun b => b < B0) p nd lf inn fl bl l2) (hc : Chg F w w') (hH : ∀ b, H b → F b ∨ w.heap.size ≤ b) : P2 w' B0 nd lf inn fl bl H p l2 G q lb F' p' la' G' q' lb' := by
  have hi : ∀ b, b < B0 → ¬ F b := fun b hb h' => by have := h.base b (.inl h'); omega
  refine ⟨hb, h.c1.chg hc (fun b hb hx => h.d12 b hx hb) hi, h.b2.chg hc (fun b hb hx => h.d13 b hx hb) hi, h.c2.chg hc (fun b hb hx => h.d14 b hx hb) hi, fun b hb hx => ?_, fun b hb hx => ?_, fun b hb hx => ?_, h.d23, h.d24, h.d34, fun b hb => ?_⟩
  · exact (hH b hb).elim (fun h' => h.d12 b h' hx) (fun h' => by have := h.c1.lt b hx; omega)
  · exact (hH b hb).elim (fun h' => h.d13 b h' hx) (fun h' => by have := h.b2.lt b hx; omega)
  · exact (hH b hb).elim (fun h' => h.d14 b h' hx) (fun h' => by have := h.c2.lt b hx; omega)
  · rcases hb with hb | hb
    · exact (hH b hb).elim (fun h' => h.base b (.inl h')) (fun h' => by omega)
    · exact h.base b (.inr hb)
/-- a step of the document's first builder -/
theorem P2.stepR (h : P2 w B0 nd lf inn fl bl F p la G q lb F' p' la' G' q' lb') (hB : B0 ≤ w.heap.size) (hb : Bd w' 39 H (fun b => b < B0) q nd lf inn fl bl l2) (hc : Chg G w w') (hH : ∀ b, H b → G b ∨ w.heap.size ≤ b) : P2 w' B0 nd lf inn fl bl F p la H q l2 F' p' la' G' q' lb' := by
  have hi : ∀ b, b < B0 → ¬ G b := fun b hb h' => by have := h.base b (.inr (.inl h')); omega
  refine ⟨h.b1.chg hc (fun b hb hx => h.d12 b hb hx) hi, hb, h.b2.chg hc (fun b hb hx => h.d23 b hx hb) hi, h.c2.chg hc (fun b hb hx => h.d24 b hx hb) hi, fun b hb hx => ?_, h.d13, h.d14, fun b hb hx => ?_, fun b hb hx => ?_, h.d34, fun b hb => ?_⟩
  · exact (hH b hx).elim (fun h' => h.d12 b hb h') (fun h' => by have := h.b1.lt b hb; omega)
  · exact (hH b hb).elim (fun h' => h.d23 b h' hx) (fun h' => by have := h.b2.lt b hx; omega)
  · exact (hH b hb).elim (fun h' => h.d24 b h' hx) (fun h' => by have := h.c2.lt b hx; omega)
  · rcases hb with hb | hb | hb
    · exact h.base b (.inl hb)
    · exact (hH b hb).elim (fun h' => h.base b (.inr (.inl h'))) (fun h' => by omega)
    · exact h.base b (.inr (.inr hb))
end

/-- an operation of a script: which builder; is it Done; the entry -/
abbrev OpD := Bool × Bool × Ent
/-- a script in the slice of n operations at A -/
def Ops (w : World) (F : Nat → Prop) (A : Option Addr) (n : Nat) (ops : List OpD) : Prop :=
  Hid (n = ops.length) ∧ ∃ vs, Rd w F 4 A n vs ∧ ∀ (i : Nat) (o : OpD), ops[i]? = some o → ∃ u v, vs[i * 4]? = some (.bool o.1) ∧ vs[i * 4 + 1]? = some (.bool o.2.1) ∧ vs[i * 4 + 2]? = some u ∧ vs[i * 4 + 3]? = some v ∧ SB w F u o.2.2.1 ∧ SB w F v o.2.2.2
section
variable {S F G : Nat → Prop} {w w' : World} {A : Option Addr} {n : Nat} {ops : List OpD}
theorem Ops.below (h : Ops w F A n ops) (hb : Below w.heap.size w w') : Ops w' F A n ops :=
  let ⟨h1, vs, h2, h3⟩ := h; ⟨h1, vs, h2.below hb, fun i o ho => let ⟨u, v, a, b, c, d, e, f⟩ := h3 i o ho; ⟨u, v, a, b, c, d, e.below hb, f.below hb⟩⟩
theorem Ops.lt (h : Ops w F A n ops) : Ops w (fun b => F b ∧ b < w.heap.size) A n ops :=
  let ⟨h1, vs, h2, h3⟩ := h; ⟨h1, vs, h2.lt (by omega), fun i o ho => let ⟨u, v, a, b, c, d, e, f⟩ := h3 i o ho; ⟨u, v, a, b, c, d, e.lt, f.lt⟩⟩
theorem Ops.weak (h : Ops w F A n ops) (hF : ∀ b, F b → G b) : Ops w G A n ops :=
  let ⟨h1, vs, h2, h3⟩ := h; ⟨h1, vs, h2.weak hF, fun i o ho => let ⟨u, v, a, b, c, d, e, f⟩ := h3 i o ho; ⟨u, v, a, b, c, d, e.weak hF, f.weak hF⟩⟩
theorem Ops.at_ {i : Nat} (h : Ops w F A n ops) (hi : i < n) : ∃ b o Ak nk ck Av nv cv op, A = some ⟨b, o, none⟩ ∧ ops[i]? = some op ∧ w.cell? ⟨b, o + i * 4, none⟩ = some (.bool op.1) ∧ w.cell? ⟨b, o + i * 4 + 1, none⟩ = some (.bool op.2.1) ∧ w.cell? ⟨b, o + i * 4 + 2, none⟩ = some (.slice Ak nk ck) ∧ w.cell? ⟨b, o + i * 4 + 2 + 1, none⟩ = some (.slice Av nv cv) ∧ Bt w F Ak nk ck op.2.2.1 ∧ Bt w F Av nv cv op.2.2.2 := by
  obtain ⟨h1, vs, h2, h3⟩ := h
  have hl : i < ops.length := by have := h1.out; omega
  obtain ⟨b, o, hA, _, hc⟩ := h2.2 (by omega)
  obtain ⟨u, v, q0, q1, q2, q3, s1, s2⟩ := h3 i ops[i] (List.getElem?_eq_getElem hl)
  obtain ⟨Ak, nk, ck, rfl, t1⟩ := s1
  obtain ⟨Av, nv, cv, rfl, t2⟩ := s2
  have c0 := hc _ _ q0
  have c1 := hc _ _ q1
  have c2 := hc _ _ q2
  have c3 := hc _ _ q3
  rw [← Nat.add_assoc] at c1 c2 c3
  exact ⟨b, o, Ak, nk, ck, Av, nv, cv, ops[i], hA, List.getElem?_eq_getElem hl, c0, c1, c2, c3, t1, t2⟩
end
end Go.Proofs.Ytgjphmlmndcaeaa
