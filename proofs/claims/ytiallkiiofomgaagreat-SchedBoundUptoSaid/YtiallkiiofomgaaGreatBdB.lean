/- WALKS: the bound of a script (sched.Bound, coppiceref19.Bound). -/
import Derived.Test.YtiallkiiofomgaaGreatBdA
namespace Go.Proofs.YtiallkiiofomgaaGreat
open Go.Proofs.Tryz
set_option maxRecDepth 100000
attribute [-simp] pfa
@[simp] theorem pfa_ep {n i j : Nat} {m : Nat × Option Nat} {l : List (List AV)} {k : AV → Prop} : pfa (some (n, m)) (.ep l i j) k = k (.ep l i (j + n)) := (rfl)
@[simp high] theorem pfa_ep0 {i j : Nat} {m : Nat × Option Nat} {l : List (List AV)} {k : AV → Prop} : pfa (some (0, m)) (.ep l i j) k = k (.ep l i j) := (rfl)
@[simp high] theorem pfa_epz {n i : Nat} {m : Nat × Option Nat} {l : List (List AV)} {k : AV → Prop} : pfa (some (n, m)) (.ep l i 0) k = k (.ep l i n) := by simp only [pfa, Nat.zero_add]
@[simp high] theorem pfa_0 {m : Nat × Option Nat} {b o : Nat} {k : AV → Prop} : pfa (some (0, m)) (.v (.pointer (some ⟨b, o, none⟩))) k = k (.v (.pointer (some ⟨b, o, none⟩))) := (rfl)
@[simp high] theorem pfa_z {n : Nat} {m : Nat × Option Nat} {b : Nat} {k : AV → Prop} : pfa (some (n, m)) (.v (.pointer (some ⟨b, 0, none⟩))) k = k (.v (.pointer (some ⟨b, n, none⟩))) := by simp only [pfa, Nat.zero_add]
theorem rmay_any (s : ScA) (hl : s.cl.length ≤ 1048576) (H : Hp) : AC prog 13 [.agg s.cells] H [] fun _ r H' => r = .v (.bool s.may) := by
  refine AC.of func13 rfl (by kernel_rfl) (by kernel_rfl) fun Wr hW => ?_
  simp
  refine enew.of fun bc hbc hwc hnc => ?_
  simp
  refine acall.of (AC.pure_ (R := fun r => r = iv (if cfgOk s.n s.l s.i s.f s.b then 0 else 1)) (rconfig_any s.n s.l s.i s.f s.b _)) fun a H' e => ?_
  obtain ⟨rfl, rfl⟩ := e
  unfold ScA.may
  generalize cfgOk s.n s.l s.i s.f s.b = g
  simp
  refine aO.ev ?_
  cases g with
  | false =>
    simp
    repeat (first | (refine eG.no ?_; simp) | (refine avT ?_; simp))
    refine aC.ev ?_
    simp
    exact Fin.mk rfl
  | true =>
    simp
    iterate 4 (refine eG.yes ?_; simp)
    iterate 4 (refine eG.go ?_; simp)
    refine ⟨fun hb => aC.ev ?_, fun hb1 hb2 => aC.ev ?_⟩
    · simp
      refine Fin.mk ?_
      rcases hb with hb | hb <;> simp <;> omega
    · simp
      have hq : (s.cl.any fun c => decide (256 < (c.length : Int))) = ((s.cl.drop 0).any fun c => decide (256 < (c.length : Int))) := by simp
      generalize hqq : (s.cl.any fun c => decide (256 < (c.length : Int))) = q at hq
      refine aC.loopf (fun j : Nat => [(1, .v (pv bc)), (4, iv j)]) (fun _ => hset H bc (.cells 28 s.cells)) (fun j => j ≤ s.cl.length ∧ q = ((s.cl.drop j).any fun c => decide (256 < (c.length : Int)))) (fun j => s.cl.length - j) 0 ⟨Nat.zero_le _, hq⟩ (Vs.to (by simp) (Sub.refl _)) fun j hj => ?_
      obtain ⟨hj, ha⟩ := hj
      simp
      refine ⟨fun h => aC.ev ?_, fun h => aC.ev ?_⟩
      · simp [h, clRow]
        have hd : s.cl.drop j = s.cl[j] :: s.cl.drop (j + 1) := (List.getElem_cons_drop h).symm
        rw [hd, List.any_cons] at ha
        refine ⟨fun hc => aC.ev ?_, fun hc => aC.ev ?_⟩
        · simp
          exact Fin.mk (by rw [ha]; simp [hc])
        · simp
          refine ⟨by omega, j + 1, ⟨by omega, ?_⟩, by omega, Vs.to (by simp) (Sub.refl _)⟩
          rw [ha]; simp; omega
      · obtain rfl : j = s.cl.length := by omega
        simp
        exact Fin.mk (by rw [ha]; simp; omega)
def nS (l : List Cl) : Int := (l.map fun c => (c.length : Int)).sum
def tC (c : Cl) : Int := (c.map fun o => (o.tk.length : Int)).sum
def tkS (l : List Cl) : Int := (l.map tC).sum
theorem sum_nn {α : Type} (f : α → Int) (hf : ∀ a, 0 ≤ f a) : ∀ l : List α, 0 ≤ (l.map f).sum
  | [] => by simp
  | a :: l => by have := hf a; have := sum_nn f hf l; simp; omega
theorem sum_take {α : Type} (f : α → Int) (hf : ∀ a, 0 ≤ f a) (l : List α) (j : Nat) : 0 ≤ ((l.take j).map f).sum ∧ ((l.take j).map f).sum ≤ (l.map f).sum := by
  refine ⟨sum_nn f hf _, ?_⟩
  have h : (l.map f).sum = ((l.take j).map f).sum + ((l.drop j).map f).sum := by rw [← List.sum_append, ← List.map_append, List.take_append_drop]
  have := sum_nn f hf (l.drop j)
  omega
theorem sum_succ {α : Type} (f : α → Int) (l : List α) (j : Nat) (h : j < l.length) : ((l.take (j + 1)).map f).sum = ((l.take j).map f).sum + f l[j] := by
  rw [← List.take_append_getElem h, List.map_append, List.sum_append]; simp
theorem sum_all {α : Type} (f : α → Int) (B : Int) : ∀ l : List α, (∀ a ∈ l, f a ≤ B) → (l.map f).sum ≤ l.length * B
  | [], _ => by simp
  | a :: l, h => by
    have h1 := h a (List.mem_cons_self ..)
    have h2 := sum_all f B l fun a m => h a (List.mem_cons_of_mem _ m)
    simp [Int.add_mul]
    omega
theorem tC_nn (c : Cl) : 0 ≤ tC c := sum_nn _ (fun _ => by omega) c
def boundN (nodes leaf n t w : Int) : Int := w * (n * ((40 + 40 * n) * (4 * nodes + 16) + 3 * nodes * leaf + 100) + t + 8 * w * (40 * n) + 1)
def boundS (s : ScA) (w : Int) : Int := if s.may = true ∧ 1 ≤ w ∧ w ≤ 1000 then boundN s.n s.l (nS s.cl) (tkS s.cl) w else 0
theorem may_yes {s : ScA} (h : s.may = true) : (1 ≤ s.n ∧ s.n ≤ 65536 ∧ 2 ≤ s.l ∧ s.l ≤ 64) ∧ s.cl.length ≤ 16 ∧ (∀ c ∈ s.cl, (c.length : Int) ≤ 256) ∧ nS s.cl ≤ 4096 := by
  simp only [ScA.may, Bool.and_eq_true, cfgOk, decide_eq_true_eq] at h
  obtain ⟨⟨⟨h1, h2⟩, h3⟩, h4⟩ := h
  have h5 : ∀ c ∈ s.cl, (c.length : Int) ≤ 256 := fun c m => by
    simp at h4
    have := h4 c m
    omega
  refine ⟨by omega, by omega, h5, ?_⟩
  have := sum_all (fun c : Cl => (c.length : Int)) 256 s.cl h5
  unfold nS; omega
theorem mul_bd {a b A B : Int} (ha : 0 ≤ a) (hA : a ≤ A) (hb : 0 ≤ b) (hB : b ≤ B) : 0 ≤ a * b ∧ a * b ≤ A * B := ⟨Int.mul_nonneg ha hb, Int.mul_le_mul hA hB hb (by omega)⟩
theorem pnum_bd {n : Int} {k : AV → Prop} (B : Int) (hB : B ≤ 9223372036854775807) (h : 0 ≤ n ∧ n ≤ B) (c : ∀ x : Int, x = n → 0 ≤ x ∧ x ≤ B → k (iv x)) : pnum .i64 n k := ⟨by omega, c n rfl h⟩
theorem bound_any (s : ScA) (w : Int) (hl : s.cl.length ≤ 1048576) (ht : tkS s.cl ≤ 1048576) (H : Hp) : AC prog 6 [.agg s.cells, iv w] H [] fun _ r H' => r = iv (boundS s w) := by
  refine AC.of func6 rfl (by kernel_rfl) (by kernel_rfl) fun Wr hW => ?_
  simp
  refine enew.of fun bc hbc hwc hnc => ?_
  simp
  refine acall.of (AC.pure_ (R := fun r => r = .v (.bool s.may)) (may_any s hl _)) fun a H' e => ?_
  obtain ⟨rfl, rfl⟩ := e
  cases hg : s.may with
  | false =>
    have hz : boundS s w = 0 := if_neg fun q => by rw [hg] at q; cases q.1
    rw [hz]
    simp
    refine aO.ev ?_
    simp
    repeat (first | (refine eG.no ?_; simp) | (refine avT ?_; simp))
    refine aC.ev ?_
    simp
    exact Fin.mk rfl
  | true =>
    obtain ⟨⟨hn1, hn2, hl1, hl2⟩, hcl, hc, hns⟩ := may_yes hg
    simp
    refine aO.ev ?_
    simp
    iterate 4 (refine eG.go ?_; simp)
    refine ⟨fun hb => aC.ev ?_, fun hb1 hb2 => aC.ev ?_⟩
    · simp
      exact Fin.mk (by rw [show boundS s w = 0 from if_neg (by omega)])
    · rw [show boundS s w = boundN s.n s.l (nS s.cl) (tkS s.cl) w from if_pos ⟨hg, hb1, hb2⟩]
      simp
      refine aC.loopf (fun j : Nat => [(1, iv w), (2, .v (pv bc)), (5, iv (nS (s.cl.take j))), (6, iv (tkS (s.cl.take j))), (25, .sl false (s.cl.map clRow)), (26, iv s.cl.length), (27, iv j)]) (fun _ => hset H bc (.cells 28 s.cells)) (fun j => j ≤ s.cl.length) (fun j => s.cl.length - j) 0 (Nat.zero_le _) (Vs.to (by simp [nS, tkS]) (Sub.refl _)) fun j hj => ?_
      have hn3 : 0 ≤ nS (s.cl.take j) ∧ nS (s.cl.take j) ≤ nS s.cl := sum_take (fun c : Cl => (c.length : Int)) (fun _ => by omega) s.cl j
      have ht3 : 0 ≤ tkS (s.cl.take j) ∧ tkS (s.cl.take j) ≤ tkS s.cl := sum_take tC tC_nn s.cl j
      simp
      refine ⟨fun h => aC.ev ?_, fun h => aC.ev ?_⟩
      · have hn4 : nS (s.cl.take (j + 1)) = nS (s.cl.take j) + s.cl[j].length := sum_succ (fun c : Cl => (c.length : Int)) s.cl j h
        have ht4 : tkS (s.cl.take (j + 1)) = tkS (s.cl.take j) + tC s.cl[j] := sum_succ tC s.cl j h
        have ht5 : 0 ≤ tkS (s.cl.take (j + 1)) ∧ tkS (s.cl.take (j + 1)) ≤ tkS s.cl := sum_take tC tC_nn s.cl (j + 1)
        have hc3 := hc _ (List.getElem_mem h)
        simp [h, clRow]
        refine ⟨by omega, ?_⟩
        generalize s.cl[j] = c at *
        refine aC.loopf (fun k : Nat => [(1, iv w), (2, .v (pv bc)), (5, iv (nS (s.cl.take (j + 1)))), (6, iv (tkS (s.cl.take j) + tC (c.take k))), (25, .sl false (s.cl.map clRow)), (26, iv s.cl.length), (27, iv j), (35, .sl false (c.map OpA.row)), (36, iv c.length), (37, iv k)]) (fun _ => hset H bc (.cells 28 s.cells)) (fun k => k ≤ c.length) (fun k => c.length - k) 0 (Nat.zero_le _) (Vs.to (by simp [tC, hn4, clRow]) (Sub.refl _)) fun k hk => ?_
        have hk3 : 0 ≤ tC (c.take k) ∧ tC (c.take k) ≤ tC c := sum_take (fun o : OpA => (o.tk.length : Int)) (fun _ => by omega) c k
        simp
        refine ⟨fun h => aC.ev ?_, fun h => aC.ev ?_⟩
        · have hk4 : tC (c.take (k + 1)) = tC (c.take k) + c[k].tk.length := sum_succ (fun o : OpA => (o.tk.length : Int)) c k h
          have hk5 : 0 ≤ tC (c.take (k + 1)) ∧ tC (c.take (k + 1)) ≤ tC c := sum_take (fun o : OpA => (o.tk.length : Int)) (fun _ => by omega) c (k + 1)
          have hk6 : tkS (s.cl.take j) + tC (c.take (k + 1)) = tkS (s.cl.take j) + tC (c.take k) + c[k].tk.length := by omega
          simp [h, OpA.row]
          refine enew.of fun bo hbo hwo hno => ?_
          have hco : bc ≠ bo := (hno bc _ (hset_at ..)).1
          have hco' := Ne.symm hco
          simp [hwo, inl, hco, hco']
          refine ⟨by omega, by omega, k + 1, by omega, by omega, Vs.to (by simp [hk6]) (Sub.hset hbo)⟩
        · obtain rfl : k = c.length := by omega
          simp
          refine ⟨by omega, j + 1, by omega, by omega, Vs.to (by simp [ht4]) (Sub.refl _)⟩
      · obtain rfl : j = s.cl.length := by omega
        simp only [List.take_length] at *
        generalize nS s.cl = N at *
        generalize tkS s.cl = T at *
        simp [-pnum]
        have hN : 0 ≤ N := by omega
        refine pnum_bd 163840 (by omega) (by omega) fun x1 e1 b1 => ?_
        simp [-pnum]
        refine pnum_bd 163880 (by omega) (by omega) fun x2 e2 b2 => ?_
        simp [-pnum]
        refine pnum_bd 262144 (by omega) (by omega) fun x3 e3 b3 => ?_
        simp [-pnum]
        refine pnum_bd 262160 (by omega) (by omega) fun x4 e4 b4 => ?_
        simp [-pnum]
        refine pnum_bd (163880 * 262160) (by omega) (mul_bd b2.1 b2.2 b4.1 b4.2) fun x5 e5 b5 => ?_
        simp [-pnum]
        refine pnum_bd 196608 (by omega) (by omega) fun x6 e6 b6 => ?_
        simp [-pnum]
        refine pnum_bd (196608 * 64) (by omega) (mul_bd b6.1 b6.2 (by omega) hl2) fun x7 e7 b7 => ?_
        simp [-pnum]
        refine pnum_bd 100000000000 (by omega) (by omega) fun x8 e8 b8 => ?_
        simp [-pnum]
        refine pnum_bd 100000000100 (by omega) (by omega) fun x9 e9 b9 => ?_
        simp [-pnum]
        refine pnum_bd (4096 * 100000000100) (by omega) (mul_bd hN hns b9.1 b9.2) fun x10 e10 b10 => ?_
        simp [-pnum]
        refine pnum_bd 1000000000000000 (by omega) (by omega) fun x11 e11 b11 => ?_
        simp [-pnum]
        refine pnum_bd 8000 (by omega) (by omega) fun x12 e12 b12 => ?_
        simp [-pnum]
        refine pnum_bd (8000 * 163840) (by omega) (mul_bd b12.1 b12.2 b1.1 b1.2) fun x13 e13 b13 => ?_
        simp [-pnum]
        refine pnum_bd 2000000000000000 (by omega) (by omega) fun x14 e14 b14 => ?_
        simp [-pnum]
        refine pnum_bd 2000000000000001 (by omega) (by omega) fun x15 e15 b15 => ?_
        simp [-pnum]
        refine pnum_bd (1000 * 2000000000000001) (by omega) (mul_bd (by omega) hb2 b15.1 b15.2) fun x16 e16 b16 => ?_
        simp
        exact Fin.mk (by rw [e16, e15, e14, e13, e12, e11, e10, e9, e8, e7, e6, e5, e4, e3, e2, e1]; rfl)
end Go.Proofs.YtiallkiiofomgaaGreat
