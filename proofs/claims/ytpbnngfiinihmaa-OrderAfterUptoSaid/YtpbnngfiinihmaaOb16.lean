/- WALKS: coppicelaw20.head. WALKS: order.after, order.After. WALKS: the statements OrderLines, OrderChecks. A list in new memory whose texts are written over; the loops of OrderAfter. -/
import Derived.Test.YtpbnngfiinihmaaOb15
set_option linter.unusedVariables false
set_option linter.unusedSimpArgs false
namespace Go.Proofs.Ytpbnngfiinihmaa
open Go.RowKit
/-- a text of one byte that a constant has made -/
def One1 (w : World) (g : Nat) (c : UInt8) : Prop := w.heap[g]? = some (.cells #[.int .u8 c.toNat] 5 (1, 2))
theorem One1.sb {w : World} {g : Nat} {c : UInt8} (h : One1 w g c) : SB w Any (.slice (some ⟨g, 0, none⟩) 1 1) [c] := by
  refine SB.mk (Nat.le_refl _) (by simp [maxLen]) rfl ⟨rfl, fun _ => ⟨g, 0, rfl, trivial, fun j u hu => ?_⟩⟩
  have hj : j = 0 := by have := (List.getElem?_eq_some_iff.1 hu).1; simp [bvs] at this; exact this
  subst hj
  simp [bvs] at hu
  subst hu
  unfold One1 at h
  simp [World.cell?, h, bv]
theorem One1.chg {S : Nat → Prop} {w w' : World} {g : Nat} {c : UInt8} (h : One1 w g c) (hc : Chg S w w') (hs : ¬ S g) : One1 w' g c := by
  unfold One1 at *
  have hl : g < w.heap.size := (Array.getElem?_eq_some_iff.1 h).1
  rw [hc.block g hl hs]; exact h
theorem wpList_conv_text {ops : Array Oper} {rest : List Oper} {o : Oper} {a : Act} {w : World} {Q : Exit → Act → World → Prop} (hg : o.guard = none) (x : Operand) (ho : o.op = .convert 36 36 x) (g : Nat) (c : UInt8) (hx : a.eval x = .slice (some ⟨g, 0, none⟩) 1 1)
    (hB : Blk w g 5 #[.int .u8 c.toNat]) (hK : ∀ w', One1 w' g c → Chg (One g) w w' → wpList Try.prog ops Q rest (a.put o.dst (.slice (some ⟨g, 0, none⟩) 1 1)) w') :
    wpList Try.prog ops Q (o :: rest) a w := by
  refine wpList_plain hg fun K hK' => ?_
  have hsh : w.shape? g = some (5, 1) := by unfold Blk at hB; simp [World.shape?, hB]
  have hrun : (convert 36 36 (.slice (some ⟨g, 0, none⟩) 1 1)).run Try.prog w = .ok (.slice (some ⟨g, 0, none⟩) 1 1) (w.freeze ⟨g, 1, none⟩ 1) := by
    simp [convert, run_underlying Try.underlying36, run_underlying Try.underlying5, markStringish, hsh]
  unfold Oper.wp execOp
  simp only [ho, hx, Sem.run_bind, hrun, Result.andThen_ok, Sem.run_pure]
  refine hK' _ _ (hK _ ?_ ⟨?_, ?_, ?_, ?_, fun k hk hs => ?_⟩)
  · unfold One1; unfold Blk at hB
    simp [World.freeze, Array.getElem?_modify, hB]
  · simp [World.freeze]
  · simp [World.freeze]
  · simp [World.freeze]
  · simp [World.freeze]
  · have : ¬ g = k := fun e => hs e.symm
    simp [World.freeze, Array.getElem?_modify, this]
theorem conv_below {w w' : World} {o : Obj} {g : Nat} (h : Chg (One g) (w.alloc o) w') (hg : w.heap.size ≤ g) : Below w.heap.size w w' :=
  ((Below.refl _ _).alloc (Nat.le_refl _) _).trans (h.below_of (by simp) (fun b hb e => by have e : b = g := e; omega))
theorem conv_below2 {w w' : World} {o o2 : Obj} {g : Nat} (h : Chg (One g) ((w.alloc o).alloc o2) w') (hg : w.heap.size + 1 ≤ g) : Below (w.heap.size + 1) (w.alloc o) w' ∧ Below w.heap.size w w' := by
  have h1 : Below (w.heap.size + 1) (w.alloc o) w' := ((Below.refl _ _).alloc (by simp) _).trans (h.below_of (by simp) (fun b hb e => by have e : b = g := e; omega))
  exact ⟨h1, ((Below.refl _ _).alloc (Nat.le_refl _) _).trans (h1.mono (by omega))⟩
/-- the call of the head's history -/
def headC (v : List UInt8) : CallD := ⟨0, 1, [97], [], 0, 4, 4, true, 0, true, v⟩
theorem head_line (v : List UInt8) : lineE [headC v] = [0] := by
  have h : LineN [headC v] [headC v].length [0] := ⟨by simp, fun i => by
    constructor
    · intro h; simp at h; subst h; exact ⟨by simp, by simp [ptOf, headC]⟩
    · rintro ⟨h, _⟩; simp at h; simp [h]⟩
  exact h.eq.symm
theorem head_bad (v : List UInt8) : badPt [headC v] = none := badPt_none (fun j hj d hd => by
  have hj0 : j = 0 := by simpa using hj
  subst hj0
  simp at hd
  subst hd
  refine ⟨?_, by simp⟩
  unfold momentE headC
  simp)
theorem head_yes : checkE [([97], [49])] [headC [49]] [([97], [49])] 0 = (-1, 0) := by
  unfold checkE
  rw [head_bad, head_line]
  have : runL [headC [49]] [0] (mapE [([97], [49])]) = .inr [([97], [49])] := by decide
  rw [this]; simp
theorem head_no : checkE [([97], [49])] [headC [50]] [([97], [49])] 0 = (0, 202) := by
  unfold checkE
  rw [head_bad, head_line]
  have : runL [headC [50]] [0] (mapE [([97], [49])]) = .inl 0 := by decide
  rw [this]; rfl
theorem ents_one {w : World} {g n c m d : Nat} {A B : Option Addr} {k v : List UInt8} (hB : Blk w g 38 #[.slice A n c, .slice B m d]) (h1 : SB w Any (.slice A n c) k) (h2 : SB w Any (.slice B m d) v) : Ents w Any (some ⟨g, 0, none⟩) 1 [(k, v)] := by
  refine ⟨Lib.hid rfl, [.slice A n c, .slice B m d], ⟨rfl, fun _ => ⟨g, 0, rfl, trivial, fun j u hu => ?_⟩⟩, fun i e he => ?_⟩
  · rw [Nat.zero_add, hB.cell]; simpa using hu
  · have hi : i = 0 := by have := (List.getElem?_eq_some_iff.1 he).1; simpa using this
    subst hi
    simp at he
    subst he
    exact ⟨_, _, rfl, rfl, h1, h2⟩
theorem calls_one {w : World} {g : Nat} {c : CallD} {x : CallX} (hB : Blk w g 48 (callCs c x)) (hw : CallW w Any c x) : CallsM w Any (some ⟨g, 0, none⟩) 1 [c] := by
  refine ⟨rfl, fun _ => x, fun i e he => ?_⟩
  have hi : i = 0 := by have := (List.getElem?_eq_some_iff.1 he).1; simpa using this
  subst hi
  simp at he
  subst he
  exact ⟨hw, g, 0, rfl, trivial, CallAt.of_blk hB⟩
/-- what else lies in the call's cells -/
def headX (a b : Nat) : CallX := ⟨0, 0, 0, some ⟨a, 0, none⟩, 1, 1, none, 0, 0, none, 0, 0, none, 0, 0, some ⟨b, 0, none⟩, 1, 1, none, 0, 0⟩
theorem head_w {w : World} {a b : Nat} {v : UInt8} (h1 : One1 w a 97) (h2 : One1 w b v) : CallW w Any (headC [v]) (headX a b) := by
  obtain ⟨a1, a2, a3, a4⟩ := h1.sb.parts
  obtain ⟨b1, b2, b3, b4⟩ := h2.sb.parts
  exact ⟨a1, a2, a3, a4, Nat.le_refl _, by simp [headX, maxLen], rfl, Rd.none_ _ _ _ _, b1, b2, b3, b4⟩
theorem head_short : Short 1048576 [(([97] : List UInt8), ([49] : List UInt8))] := fun e he => by simp at he; subst he; simp
theorem head_keys (v : List UInt8) : ∀ c ∈ [headC v], c.key.length ≤ 1048576 := fun c hc => by simp at hc; subst hc; simp [headC]
set_option maxRecDepth 100000 in
set_option maxHeartbeats 8000000 in
theorem head_any (w : World) : Calls Try.prog 7 #[] w fun e w' => e = .returned (.bool true) ∧ Below w.heap.size w w' := by
  go_enter Try.func7, Try.ntmps7
  go_upto_region 2 with (first | (refine wpList_conv_text rfl (.tmp 6) rfl (w.heap.size) 97 rfl (Blk.new _ _ _) ?_; intro w1 k1 d1; have K1 := Lib.hid k1; have D1 := Lib.hid d1; clear k1 d1) | (refine wpList_conv_text rfl (.tmp 8) rfl (w1.heap.size) 49 rfl (Blk.new _ _ _) ?_; intro w2 k2 d2; have K2 := Lib.hid k2; have D2 := Lib.hid d2; clear k2 d2) | (refine wpList_conv_text rfl (.tmp 12) rfl (w2.heap.size + 1) 97 rfl (by have := Blk.new (w2.alloc (.cells #[.slice (some ⟨w.heap.size, 0, none⟩) 1 1, .slice (some ⟨w1.heap.size, 0, none⟩) 1 1] 38)) 5 #[.int .u8 (UInt8.toNat 97)]; simpa using this) ?_; intro w3 k3 d3; have K3 := Lib.hid k3; have D3 := Lib.hid d3; clear k3 d3) | (refine wpList_conv_text rfl (.tmp 15) rfl (w3.heap.size) 49 rfl (Blk.new _ _ _) ?_; intro w4 k4 d4; have K4 := Lib.hid k4; have D4 := Lib.hid d4; clear k4 d4) | (refine wpList_conv_text rfl (.tmp 19) rfl (w4.heap.size + 1) 97 rfl (by have := Blk.new (w4.alloc (.cells #[.int .i64 0, .int .i64 0, .int .i64 1, .slice (some ⟨w2.heap.size + 1, 0, none⟩) 1 1, .slice none 0 0, .slice none 0 0, .int .i64 0, .slice none 0 0, .int .i64 0, .int .i64 0, .int .i64 4, .int .i64 4, .bool true, .int .i64 0, .bool true, .slice (some ⟨w3.heap.size, 0, none⟩) 1 1, .slice none 0 0] 48)) 5 #[.int .u8 (UInt8.toNat 97)]; simpa using this) ?_; intro w5 k5 d5; have K5 := Lib.hid k5; have D5 := Lib.hid d5; clear k5 d5) | (refine wpList_conv_text rfl (.tmp 21) rfl (w5.heap.size) 49 rfl (Blk.new _ _ _) ?_; intro w6 k6 d6; have K6 := Lib.hid k6; have D6 := Lib.hid d6; clear k6 d6))
  obtain ⟨w7, hw7⟩ : ∃ W, W = (w6.alloc (.cells #[.slice (some ⟨w4.heap.size + 1, 0, none⟩) 1 1, .slice (some ⟨w5.heap.size, 0, none⟩) 1 1] 38)).alloc (.cells #[.slice (some ⟨w2.heap.size, 0, none⟩) 1 1, .slice (some ⟨w4.heap.size, 0, none⟩) 1 1, .int .i64 0, .bool false, .slice (some ⟨w6.heap.size, 0, none⟩) 1 1, .slice none 0 0] 29) := ⟨_, rfl⟩
  rw [← hw7]
  have b1 := conv_below D1.out (Nat.le_refl _)
  have b2 := conv_below D2.out (Nat.le_refl _)
  obtain ⟨b3', b3⟩ := conv_below2 D3.out (Nat.le_refl _)
  have b4 := conv_below D4.out (Nat.le_refl _)
  obtain ⟨b5', b5⟩ := conv_below2 D5.out (Nat.le_refl _)
  have b6 := conv_below D6.out (Nat.le_refl _)
  have b7 : Below w6.heap.size w6 w7 := by rw [hw7]; exact ((Below.refl _ _).alloc (Nat.le_refl _) _).alloc (by simp) _
  have E7 : Blk w7 w6.heap.size 38 #[.slice (some ⟨w4.heap.size + 1, 0, none⟩) 1 1, .slice (some ⟨w5.heap.size, 0, none⟩) 1 1] := by rw [hw7]; exact (Blk.new _ _ _).alloc _
  have H7 : Blk w7 (w6.heap.size + 1) 29 #[.slice (some ⟨w2.heap.size, 0, none⟩) 1 1, .slice (some ⟨w4.heap.size, 0, none⟩) 1 1, .int .i64 0, .bool false, .slice (some ⟨w6.heap.size, 0, none⟩) 1 1, .slice none 0 0] := by
    rw [hw7]
    have := Blk.new (w6.alloc (.cells #[.slice (some ⟨w4.heap.size + 1, 0, none⟩) 1 1, .slice (some ⟨w5.heap.size, 0, none⟩) 1 1] 38)) 29 #[.slice (some ⟨w2.heap.size, 0, none⟩) 1 1, .slice (some ⟨w4.heap.size, 0, none⟩) 1 1, .int .i64 0, .bool false, .slice (some ⟨w6.heap.size, 0, none⟩) 1 1, .slice none 0 0]
    simpa using this
  have s1 : w.heap.size + 1 ≤ w1.heap.size := by have := D1.out.size; simpa using this
  have s2 : w1.heap.size + 1 ≤ w2.heap.size := by have := D2.out.size; simpa using this
  have s3 : w2.heap.size + 2 ≤ w3.heap.size := by have := D3.out.size; simpa using this
  have s4 : w3.heap.size + 1 ≤ w4.heap.size := by have := D4.out.size; simpa using this
  have s5 : w4.heap.size + 2 ≤ w5.heap.size := by have := D5.out.size; simpa using this
  have s6 : w5.heap.size + 1 ≤ w6.heap.size := by have := D6.out.size; simpa using this
  have c6 : Below w6.heap.size w6 w7 := b7
  have c5 : Below w5.heap.size w5 w7 := b6.trans (c6.mono b6.size)
  have c4 : Below w4.heap.size w4 w7 := b5.trans (c5.mono b5.size)
  have c3 : Below w3.heap.size w3 w7 := b4.trans (c4.mono b4.size)
  have c2 : Below w2.heap.size w2 w7 := b3.trans (c3.mono b3.size)
  have c1 : Below w1.heap.size w1 w7 := b2.trans (c2.mono b2.size)
  have c0 : Below w.heap.size w w7 := b1.trans (c1.mono b1.size)
  have c3' : Below (w2.heap.size + 1) (w2.alloc (.cells #[.slice (some ⟨w.heap.size, 0, none⟩) 1 1, .slice (some ⟨w1.heap.size, 0, none⟩) 1 1] 38)) w7 := b3'.trans (c3.mono (by omega))
  have c5' := b5'.trans (c5.mono (by omega))
  have HE3 : Hid (Blk w7 w2.heap.size 38 #[.slice (some ⟨w.heap.size, 0, none⟩) 1 1, .slice (some ⟨w1.heap.size, 0, none⟩) 1 1]) := Lib.hid ((Blk.new _ _ _).below (by simpa using c3'))
  have HC5 : Hid (Blk w7 w4.heap.size 48 (callCs (headC [49]) (headX (w2.heap.size + 1) w3.heap.size))) := Lib.hid (Blk.below (w := w4.alloc (.cells (callCs (headC [49]) (headX (w2.heap.size + 1) w3.heap.size)) 48)) (Blk.new _ _ _) (by have h := c5'; rw [show w4.heap.size + 1 = (w4.alloc (.cells (callCs (headC [49]) (headX (w2.heap.size + 1) w3.heap.size)) 48)).heap.size by simp] at h; exact h))
  have HE7 := Lib.hid E7
  have HH7 := Lib.hid H7
  have T1 := Lib.hid (K1.out.chg (S := Nil) (Chg.of_below c1) (fun h => h))
  have T2 := Lib.hid (K2.out.chg (S := Nil) (Chg.of_below c2) (fun h => h))
  have T3 := Lib.hid (K3.out.chg (S := Nil) (Chg.of_below c3) (fun h => h))
  have T4 := Lib.hid (K4.out.chg (S := Nil) (Chg.of_below c4) (fun h => h))
  have T5 := Lib.hid (K5.out.chg (S := Nil) (Chg.of_below c5) (fun h => h))
  have T6 := Lib.hid (K6.out.chg (S := Nil) (Chg.of_below c6) (fun h => h))
  have HB7 := Lib.hid c0
  have s7 : w6.heap.size + 2 ≤ w7.heap.size := by rw [hw7]; simp
  clear hw7 b1 b2 b3 b3' b4 b5 b5' b6 b7 c0 c1 c2 c3 c4 c5 c6 c3' c5' E7 H7
  have z0 : w7.cell? ⟨w6.heap.size + 1, 0, none⟩ = some (.slice (some ⟨w2.heap.size, 0, none⟩) 1 1) := HH7.out.cell 0
  have z1 : w7.cell? ⟨w6.heap.size + 1, 1, none⟩ = some (.slice (some ⟨w4.heap.size, 0, none⟩) 1 1) := HH7.out.cell 1
  have z2 : w7.cell? ⟨w6.heap.size + 1, 2, none⟩ = some (.int .i64 0) := HH7.out.cell 2
  have z3 : w7.cell? ⟨w6.heap.size + 1, 3, none⟩ = some (.bool false) := HH7.out.cell 3
  have z4 : w7.cell? ⟨w6.heap.size + 1, 4, none⟩ = some (.slice (some ⟨w6.heap.size, 0, none⟩) 1 1) := HH7.out.cell 4
  have z5 : w7.cell? ⟨w6.heap.size + 1, 5, none⟩ = some (.slice none 0 0) := HH7.out.cell 5
  go_upto_region 3 with (go_at_call 10; go_loud (refine (check_any (some ⟨w2.heap.size, 0, none⟩) (some ⟨w4.heap.size, 0, none⟩) (some ⟨w6.heap.size, 0, none⟩) none 1 1 1 1 1 1 0 0 0 false [([97], [49])] [([97], [49])] [headC [49]] w7 (ents_one HE3.out T1.out.sb T2.out.sb) (calls_one HC5.out (head_w T3.out T4.out)) (ents_one HE7.out T5.out.sb T6.out.sb) (by omega) (by omega) (by omega) (by omega) head_short (head_keys _)).mono ?_); rintro e w8 ⟨rfl, hb8⟩; rw [head_yes]; have HB8 := Lib.hid hb8; clear hb8)
  have HH8 := Lib.hid (HH7.out.below HB8.out)
  have HC8 := Lib.hid (HC5.out.below HB8.out)
  have s8 : w7.heap.size ≤ w8.heap.size := HB8.out.size
  have y1 : w8.cell? ⟨w6.heap.size + 1, 1, none⟩ = some (.slice (some ⟨w4.heap.size, 0, none⟩) 1 1) := HH8.out.cell 1
  have y15 : w8.cell? ⟨w4.heap.size, 15, none⟩ = some (.slice (some ⟨w3.heap.size, 0, none⟩) 1 1) := HC8.out.cell 15
  have yf := HC8.out.frozen 15
  clear z0 z1 z2 z3 z4 z5
  go_upto_region 4 with (refine wpList_conv_text rfl (.tmp 33) rfl w8.heap.size 50 rfl (Blk.new _ _ _) ?_; intro w9 k9 d9; have K9 := Lib.hid k9; have D9 := Lib.hid (conv_below d9 (Nat.le_refl _)); have y15 := bkeep D9.out y15; have yf := (HC8.out.below D9.out).frozen 15; have s9 : w8.heap.size + 1 ≤ w9.heap.size := (by have := d9.size; simpa using this); clear k9 d9)
  obtain ⟨w10, hw10⟩ : ∃ W, W = w9.setCell ⟨w4.heap.size, 15, none⟩ (.slice (some ⟨w8.heap.size, 0, none⟩) 1 1) := ⟨_, rfl⟩
  rw [← hw10]
  have hc10 : Chg (One w4.heap.size) w9 w10 := by rw [hw10]; exact Chg.set1 _ _ _ _
  have HC10 : Hid (Blk w10 w4.heap.size 48 (callCs (headC [50]) (headX (w2.heap.size + 1) w8.heap.size))) := Lib.hid (by rw [hw10]; exact (HC8.out.below D9.out).set_ 15 (.slice (some ⟨w8.heap.size, 0, none⟩) 1 1))
  have B79 : Below w7.heap.size w7 w9 := HB8.out.trans (D9.out.mono s8)
  have C710 := (Chg.of_below (S := One w4.heap.size) B79).trans hc10 (fun _ _ h => h)
  have HH10 := Lib.hid (HH7.out.chg C710 (fun e => by have e : w6.heap.size + 1 = w4.heap.size := e; omega))
  have HE10 := Lib.hid (HE3.out.chg C710 (fun e => by have e : w2.heap.size = w4.heap.size := e; omega))
  have HF10 := Lib.hid (HE7.out.chg C710 (fun e => by have e : w6.heap.size = w4.heap.size := e; omega))
  have U1 := Lib.hid (T1.out.chg C710 (fun e => by have e : w.heap.size = w4.heap.size := e; omega))
  have U2 := Lib.hid (T2.out.chg C710 (fun e => by have e : w1.heap.size = w4.heap.size := e; omega))
  have U3 := Lib.hid (T3.out.chg C710 (fun e => by have e : w2.heap.size + 1 = w4.heap.size := e; omega))
  have U5 := Lib.hid (T5.out.chg C710 (fun e => by have e : w4.heap.size + 1 = w4.heap.size := e; omega))
  have U6 := Lib.hid (T6.out.chg C710 (fun e => by have e : w5.heap.size = w4.heap.size := e; omega))
  have U9 := Lib.hid (K9.out.chg hc10 (fun e => by have e : w8.heap.size = w4.heap.size := e; omega))
  have HB10 := Lib.hid (HB7.out.trans (C710.below_of HB7.out.size (fun b hb e => by have e : b = w4.heap.size := e; omega)))
  clear hw10 hc10 B79 C710 y1 y15 yf
  have z0 : w10.cell? ⟨w6.heap.size + 1, 0, none⟩ = some (.slice (some ⟨w2.heap.size, 0, none⟩) 1 1) := HH10.out.cell 0
  have z1 : w10.cell? ⟨w6.heap.size + 1, 1, none⟩ = some (.slice (some ⟨w4.heap.size, 0, none⟩) 1 1) := HH10.out.cell 1
  have z2 : w10.cell? ⟨w6.heap.size + 1, 2, none⟩ = some (.int .i64 0) := HH10.out.cell 2
  have z3 : w10.cell? ⟨w6.heap.size + 1, 3, none⟩ = some (.bool false) := HH10.out.cell 3
  have z4 : w10.cell? ⟨w6.heap.size + 1, 4, none⟩ = some (.slice (some ⟨w6.heap.size, 0, none⟩) 1 1) := HH10.out.cell 4
  have z5 : w10.cell? ⟨w6.heap.size + 1, 5, none⟩ = some (.slice none 0 0) := HH10.out.cell 5
  go_upto_region 5 with (go_at_call 10; go_loud (refine (check_any (some ⟨w2.heap.size, 0, none⟩) (some ⟨w4.heap.size, 0, none⟩) (some ⟨w6.heap.size, 0, none⟩) none 1 1 1 1 1 1 0 0 0 false [([97], [49])] [([97], [49])] [headC [50]] w10 (ents_one HE10.out U1.out.sb U2.out.sb) (calls_one HC10.out (head_w U3.out U9.out)) (ents_one HF10.out U5.out.sb U6.out.sb) (by omega) (by omega) (by omega) (by omega) head_short (head_keys _)).mono ?_); rintro e w11 ⟨rfl, hb11⟩; rw [head_no]; have HB11 := Lib.hid (HB10.out.trans (hb11.mono HB10.out.size)); clear hb11)
  go_wp2
  go_ret
  exact ⟨rfl, HB11.out⟩
end Go.Proofs.Ytpbnngfiinihmaa

namespace Go.Proofs.Ytpbnngfiinihmaa
open Go.RowKit
/-- a new table that reads as m: its block, and how many entries it may have -/
def NewTabA (w : World) (n : Nat) (m : List Ent) (e : Ending) (w' : World) : Prop := ∃ tb n2, e = .returned (.map (some tb)) ∧ w.heap.size ≤ tb ∧ n2 ≤ n ∧ TabM w' tb n2 (Under w.heap.size) m ∧ Up m ∧ Short 1048576 m ∧ m.length ≤ n ∧ Below w.heap.size w w'
set_option maxRecDepth 100000 in
set_option maxHeartbeats 8000000 in
theorem afterT_any (sA cA : Option Addr) (sn sc cn cc : Nat) (now : Int) (start : List Ent) (l : List CallD) (w : World) (hS : Ents w Any sA sn start) (hL : CallsM w Any cA cn l)
    (h1 : sn ≤ 1048576) (h2 : cn ≤ 1048576) (hsh : Short 1048576 start) :
    Calls Try.prog 32 #[.slice sA sn sc, .slice cA cn cc, .int .i64 now] w (NewTabA w (sn + cn) (afterE start l now)) := by
  have HS := Lib.hid hS
  have HL := Lib.hid hL
  have HLL := Lib.hid hL.lt
  have HSH := Lib.hid hsh
  have HN := Lib.hid hL.len
  clear hS hL hsh
  go_enter Try.func32, Try.ntmps32
  go_upto_region 2 with (go_at_call 21; go_loud (refine (of_any sA sn sc start w HS.out h1 (fun e he => ⟨Nat.le_trans (HSH.out e he).1 (by omega), Nat.le_trans (HSH.out e he).2 (by omega)⟩)).mono ?_); rintro e w2 ⟨rfl, ht2, hb2⟩; have HT2 := Lib.hid ht2; have HB3 := Lib.hid hb2; have hsz2 := hb2.size; clear ht2 hb2)
  obtain ⟨tb, htb⟩ : ∃ tb, tb = w.heap.size := ⟨_, rfl⟩
  have HTB := Lib.hid htb
  rw [← htb] at HT2 ⊢
  have htbs : w.heap.size ≤ tb := by omega
  have htbs2 : tb ≤ w.heap.size := by omega
  have htl := HT2.out.lt
  clear htb
  go_upto_region 3 with (go_at_call 8; go_loud (refine (line_any Any cA cn cc l w2 (HL.out.below HB3.out) h2).mono ?_); rintro e w3 ⟨lA, lm, lc, rfl, hlm, hlm2, hrd, hln, hb3⟩; have HLM := Lib.hid hlm; have HRD := Lib.hid hrd; have HLN := Lib.hid hln; have HB4 := Lib.hid (HB3.out.trans (hb3.mono HB3.out.size)); have HT3 := Lib.hid (HT2.out.below hb3); have hsz3 := hb3.size; clear hlm hrd hln hb3)
  have hlmb : lm ≤ 1048576 := by omega
  go_loopg [15] lm (fun g' iv wz => ∃ (k n2 : Nat) (m : List Ent), g' = lm - k ∧ k ≤ lm ∧ iv = .int .i64 k ∧ TabM wz tb n2 (Under tb) m ∧ Up m ∧ Short 1048576 m ∧ n2 ≤ sn + k ∧ m.length ≤ sn + k ∧ aftL l now ((lineE l).drop k) m = aftL l now (lineE l) (mapE start) ∧ Chg (One tb) w3 wz)
  case atStart => exact ⟨0, sn, mapE start, by omega, by omega, rfl, HT3.out, mapE_up _, fun e he => HSH.out e (mapE_sub start start.length e (by rw [List.take_length]; exact he)), by omega, by have h1 := mapE_len start; have h2 := HS.out.len; omega, rfl, Chg.refl _ _⟩
  case round =>
    obtain ⟨k, n2, m, hg, hk, rfl, ht, hup, hsm, hn2, hml, hrun, hc3⟩ := hrel
    have HG := Lib.hid hg
    have HT := Lib.hid ht
    have HUP := Lib.hid hup
    have HSM := Lib.hid hsm
    have HRUN := Lib.hid hrun
    have HC3 := Lib.hid hc3
    have HB6 := Lib.hid (HB4.out.trans (hc3.below_of HB4.out.size (fun g hg e => by have e : g = tb := e; omega)))
    have HLn := Lib.hid (HLL.out.below HB6.out)
    have hsz4 : w3.heap.size ≤ wr.heap.size := hc3.size
    clear hg ht hup hsm hrun
    by_cases hlt : k < lm
    · have hlt' : (k : Int) < (lm : Int) := by omega
      obtain ⟨g, e, u, rfl, hgF, hu, zc0⟩ := HRD.out.at_ hlt
      have hgF : w2.heap.size ≤ g := hgF
      have zc := hc3.cell (show ¬ One tb g from fun e => by have e : g = tb := e; omega) zc0
      have hkl : k < (lineE l).length := by have := HLM.out; omega
      obtain ⟨p, hp⟩ : ∃ p, (lineE l)[k]? = some p := ⟨_, List.getElem?_eq_getElem hkl⟩
      rw [pvs_at hp] at hu
      injection hu with hu
      subst hu
      have hpn : p < cn := ((HLN.out.2 p).1 (List.mem_of_getElem? hp)).1
      have hpn' : (p : Int) < (cn : Int) := by omega
      obtain ⟨b, o, c, x, rfl, hFb, hlp, hcw, hat⟩ := HLn.out.at_ hpn
      have HCW := Lib.hid (hcw.weakS (B := tb) (fun g hg => by have := hg.2; omega))
      have HAT := Lib.hid hat
      have HST := Lib.hid (aftL_step hp hlp now m)
      have z11 := hat.c11
      have hbs : b < w.heap.size := hFb.2
      clear hp hlp hcw hat hkl zc0 hc3 hFb
      by_cases hpt : c.pt < now
      · go_wp2_with (first | (refine wpList_load_call rfl (.tmp 29) rfl rfl HAT.out ?_) | (go_at_call 23; go_loud (refine (does_any (Under tb) tb n2 m c x wr HCW.out HT.out (by omega) (fun g (hg : g < tb) => by omega)).mono ?_); rintro e6 w6 ⟨rfl, ht6, hc6⟩; have HT6 := Lib.hid ht6; have HC6 := Lib.hid (HC3.out.trans hc6 (fun _ _ h => h)); clear ht6 hc6))
        go_roundg (lm - (k + 1))
        case measure => have := HG.out; omega
        case rel =>
          refine ⟨k + 1, n2 + 1, doesE m c, rfl, by omega, by go_num, HT6.out, doesE_up HUP.out c, doesE_short HSM.out c (by omega), by omega, by have := doesE_len m c; omega, ?_, HC6.out⟩
          have h1 := HRUN.out
          rw [HST.out, if_pos hpt] at h1
          exact h1
      · go_wp2
        go_roundg (lm - (k + 1))
        case measure => have := HG.out; omega
        case rel =>
          refine ⟨k + 1, n2, m, rfl, by omega, by go_num, HT.out, HUP.out, HSM.out, by omega, by omega, ?_, HC3.out⟩
          have h1 := HRUN.out
          rw [HST.out, if_neg (by omega)] at h1
          exact h1
    · have hkm : k = lm := by omega
      subst hkm
      go_wp2
      go_ret
      have h1 := HRUN.out
      rw [List.drop_of_length_le (by have := HLM.out; omega)] at h1
      have h2 : m = afterE start l now := h1
      rw [← h2]
      exact ⟨tb, n2, rfl, htbs, by omega, HT.out.weak (fun b (hb : b < tb) => (show b < w.heap.size by omega)), HUP.out, HSM.out, by omega, HB6.out⟩
set_option maxRecDepth 100000 in
set_option maxHeartbeats 4000000 in
theorem after_any (sA cA : Option Addr) (sn sc cn cc : Nat) (now : Int) (start : List Ent) (l : List CallD) (w : World) (hS : Ents w Any sA sn start) (hL : CallsM w Any cA cn l)
    (h1 : sn ≤ 1048576) (h2 : cn ≤ 1048576) (hsh : Short 1048576 start) :
    Calls Try.prog 12 #[.slice sA sn sc, .slice cA cn cc, .int .i64 now] w fun e w' => NewList w (afterE start l now) e w' ∧ (afterE start l now).length ≤ sn + cn ∧ Short 1048576 (afterE start l now) := by
  have HH := Lib.hid (afterT_any sA cA sn sc cn cc now start l w hS hL h1 h2 hsh)
  clear hS hL hsh
  go_enter Try.func12, Try.ntmps12
  go_wp2_with (first | (go_at_call 32; go_loud (refine HH.out.mono ?_); rintro e w2 ⟨tb, n2, rfl, hb, hn2, ht, hu, hs, hml, hb2⟩; have HT := Lib.hid ht; have HU := Lib.hid hu; have HS := Lib.hid hs; have HML := Lib.hid hml; have HB2 := Lib.hid hb2; clear ht hu hs hb2) | (go_at_call 25; go_loud (refine (list_any tb n2 _ _ w2 HT.out HU.out HS.out (by omega) (by omega)).mono ?_); rintro e w3 ⟨lA, ln, lc, us, rfl, hln, hel, hb3⟩; have HLN := Lib.hid hln; have HEL := Lib.hid hel; have HB3 := Lib.hid hb3; clear hln hel hb3))
  go_ret
  exact ⟨⟨lA, ln, lc, us, rfl, HLN.out, HEL.out.mono HB2.out.size, HB2.out.trans (HB3.out.mono HB2.out.size)⟩, HML.out, HS.out⟩
end Go.Proofs.Ytpbnngfiinihmaa

namespace Go.Proofs.Ytpbnngfiinihmaa
open Go.RowKit
set_option maxRecDepth 100000 in
set_option maxHeartbeats 8000000 in
theorem lines_all (A : Option Addr) (n c : Nat) (l : List CallD) (w : World) (hL : CallsM w Any A n l) (hn : n ≤ 1048576) :
    Calls Try.prog 3 #[.slice A n c] w fun e w' => e = .returned (.bool true) ∧ Below w.heap.size w w' := by
  have HL := Lib.hid hL
  clear hL
  go_enter Try.func3, Try.ntmps3
  go_upto_region 2 with (go_at_call 7; go_loud (refine (head_any w).mono ?_); rintro e w1 ⟨rfl, hb1⟩; have HB1 := Lib.hid hb1; clear hb1)
  go_upto_region 3 with (go_at_call 8; go_loud (refine (line_any Any A n c l w1 (HL.out.below HB1.out) hn).mono ?_); rintro e w2 ⟨lA, lm, lc, rfl, hlm, hlm2, hrd, _, hb2⟩; have HLM := Lib.hid hlm; have HRD := Lib.hid hrd; have HB2 := Lib.hid (HB1.out.trans (hb2.mono HB1.out.size)); clear hlm hrd hb2)
  go_upto_region 4 with (go_at_call 9; go_loud (refine (rline_any Any A n c l w2 (HL.out.below HB2.out) hn).mono ?_); rintro e w3 ⟨rA, rm, rc, rfl, hrm, _, hrr, _, hb3⟩; have HRM := Lib.hid hrm; have HRR := Lib.hid hrr; have HRD3 := Lib.hid (HRD.out.below hb3); have HB3 := Lib.hid (HB2.out.trans (hb3.mono HB2.out.size)); clear hrm hrr hb3)
  have hrl : rm = lm := by rw [HRM.out, HLM.out]
  subst hrl
  have hrm6 : rm ≤ 1152921504606 := by omega
  go_wp2
  go_loopg [6] rm (fun g' iv wz => ∃ i : Nat, g' = rm - i ∧ i ≤ rm ∧ iv = .int .i64 i ∧ Below w3.heap.size w3 wz)
  case atStart => exact ⟨0, by omega, by omega, rfl, Below.refl _ _⟩
  case round =>
    obtain ⟨i, hg, hi, rfl, hb⟩ := hrel
    have HG := Lib.hid hg
    have HB := Lib.hid hb
    clear hg hb
    by_cases hlt : i < rm
    · obtain ⟨b, o, u, rfl, _, hu, zc⟩ := (HRD3.out.below HB.out).at_ hlt
      obtain ⟨b', o', u', rfl, _, hu', zc'⟩ := (HRR.out.below HB.out).at_ hlt
      rw [hu] at hu'
      injection hu' with hu'
      subst hu'
      have hkl : i < (lineE l).length := by have := HLM.out; omega
      obtain ⟨p, hp⟩ : ∃ p, (lineE l)[i]? = some p := ⟨_, List.getElem?_eq_getElem hkl⟩
      rw [pvs_at hp] at hu
      injection hu with hu
      subst hu
      clear hp hkl
      go_wp2
      go_quiet (fail)
      go_wp2
      go_roundg (rm - (i + 1))
      case measure => have := HG.out; omega
      case rel => exact ⟨i + 1, rfl, by omega, by go_num, bel_drewN HB.out _⟩
    · go_wp2
      go_ret
      exact ⟨rfl, HB3.out.trans (HB.out.mono HB3.out.size)⟩
set_option maxRecDepth 100000 in
set_option maxHeartbeats 8000000 in
theorem checks_all (sA cA eA hA : Option Addr) (sn sc cn cc en ec hn hc : Nat) (st : Int) (dn : Bool) (start endl : List Ent) (l : List CallD) (w : World) (hS : Ents w Any sA sn start) (hL : CallsM w Any cA cn l) (hE : Ents w Any eA en endl)
    (h1 : sn ≤ 1048576) (h2 : cn ≤ 1048576) (h3 : en ≤ 1048576) (hcc : cn ≤ cc) (hsh : Short 1048576 start) (hks : ∀ c ∈ l, c.key.length ≤ 1048576) :
    Calls Try.prog 4 #[.agg #[.slice sA sn sc, .slice cA cn cc, .int .i64 st, .bool dn, .slice eA en ec, .slice hA hn hc]] w fun e w' => e = .returned (.bool true) ∧ Below w.heap.size w w' := by
  have HS := Lib.hid hS
  have HL := Lib.hid hL
  have HE := Lib.hid hE
  have HSH := Lib.hid hsh
  have HKS := Lib.hid hks
  clear hS hL hE hsh hks
  obtain ⟨ci, hci⟩ : ∃ ci, ci = (checkE start l endl hn).1 := ⟨_, rfl⟩
  obtain ⟨ce, hce⟩ : ∃ ce, ce = (checkE start l endl hn).2 := ⟨_, rfl⟩
  have HCI := Lib.hid hci
  have HCE := Lib.hid hce
  clear hci hce
  go_enter Try.func4, Try.ntmps4
  go_upto_region 1 with fail
  obtain ⟨w1, hw1⟩ : ∃ W, W = w.alloc (.cells #[.slice sA sn sc, .slice cA cn cc, .int .i64 st, .bool dn, .slice eA en ec, .slice hA hn hc] 29) := ⟨_, rfl⟩
  rw [← hw1]
  have HB : Hid (Below w.heap.size w w1) := Lib.hid (by rw [hw1]; exact (Below.refl _ _).alloc (Nat.le_refl _) _)
  have HK : Hid (Blk w1 w.heap.size 29 #[.slice sA sn sc, .slice cA cn cc, .int .i64 st, .bool dn, .slice eA en ec, .slice hA hn hc]) := Lib.hid (by rw [hw1]; exact Blk.new _ _ _)
  clear hw1
  go_upto_region 2 with (go_at_call 7; go_loud (refine (head_any w1).mono ?_); rintro e w2 ⟨rfl, hb2⟩; have HK2 := Lib.hid (HK.out.below hb2); have HB2 := Lib.hid (HB.out.trans (hb2.mono HB.out.size)); clear hb2)
  have z0 : w2.cell? ⟨w.heap.size, 0, none⟩ = some (.slice sA sn sc) := HK2.out.cell 0
  have z1 : w2.cell? ⟨w.heap.size, 1, none⟩ = some (.slice cA cn cc) := HK2.out.cell 1
  have z2 : w2.cell? ⟨w.heap.size, 2, none⟩ = some (.int .i64 st) := HK2.out.cell 2
  have z3 : w2.cell? ⟨w.heap.size, 3, none⟩ = some (.bool dn) := HK2.out.cell 3
  have z4 : w2.cell? ⟨w.heap.size, 4, none⟩ = some (.slice eA en ec) := HK2.out.cell 4
  have z5 : w2.cell? ⟨w.heap.size, 5, none⟩ = some (.slice hA hn hc) := HK2.out.cell 5
  go_upto_region 3 with (go_at_call 10; go_loud (refine (check_any sA cA eA hA sn sc cn cc en ec hn hc st dn start endl l w2 (HS.out.below HB2.out) (HL.out.below HB2.out) (HE.out.below HB2.out) h1 h2 h3 hcc HSH.out HKS.out).mono ?_); rintro e w3 ⟨rfl, hb3⟩; rw [← HCI.out, ← HCE.out]; have HK3 := Lib.hid (HK2.out.below hb3); have HB3 := Lib.hid (HB2.out.trans (hb3.mono HB2.out.size)); clear hb3)
  clear z0 z1 z2 z3 z4 z5
  have z0 : w3.cell? ⟨w.heap.size, 0, none⟩ = some (.slice sA sn sc) := HK3.out.cell 0
  have z1 : w3.cell? ⟨w.heap.size, 1, none⟩ = some (.slice cA cn cc) := HK3.out.cell 1
  have z2 : w3.cell? ⟨w.heap.size, 2, none⟩ = some (.int .i64 st) := HK3.out.cell 2
  have z3 : w3.cell? ⟨w.heap.size, 3, none⟩ = some (.bool dn) := HK3.out.cell 3
  have z4 : w3.cell? ⟨w.heap.size, 4, none⟩ = some (.slice eA en ec) := HK3.out.cell 4
  have z5 : w3.cell? ⟨w.heap.size, 5, none⟩ = some (.slice hA hn hc) := HK3.out.cell 5
  go_upto_region 4 with (go_at_call 11; go_loud (refine (rcheck_any sA cA eA hA sn sc cn cc en ec hn hc st dn start endl l w3 (HS.out.below HB3.out) (HL.out.below HB3.out) (HE.out.below HB3.out) h1 h2 h3 (fun e he => ⟨Nat.le_trans (HSH.out e he).1 (by omega), Nat.le_trans (HSH.out e he).2 (by omega)⟩)).mono ?_); rintro e w4 ⟨rfl, hb4⟩; rw [← HCI.out, ← HCE.out]; have HB4 := Lib.hid (HB3.out.trans (hb4.mono HB3.out.size)); clear hb4)
  clear z0 z1 z2 z3 z4 z5
  go_wp2
  go_ret
  exact ⟨rfl, HB4.out⟩
end Go.Proofs.Ytpbnngfiinihmaa

namespace Go.Proofs.Ytpbnngfiinihmaa
open Go.RowKit
/-- a slice of bytes, whichever they are, that may be written -/
def Wb (w : World) (F : Nat → Prop) (v : Value) : Prop := ∃ A n c, v = .slice A n c ∧ n ≤ 1152921504606 ∧ (0 < n → ∃ b o, A = some ⟨b, o, none⟩ ∧ F b ∧ ∀ j, j < n → (∃ z, w.cell? ⟨b, o + j, none⟩ = some (.int .u8 z)) ∧ w.frozen? ⟨b, o + j, none⟩ = false)
theorem Wb.setCell {w : World} {F : Nat → Prop} {v : Value} (h : Wb w F v) (b o : Nat) (z : Int) : Wb (w.setCell ⟨b, o, none⟩ (.int .u8 z)) F v := by
  obtain ⟨A, n, c, e, hn, h⟩ := h
  refine ⟨A, n, c, e, hn, fun h0 => ?_⟩
  obtain ⟨b', o', eA, hF, hc⟩ := h h0
  refine ⟨b', o', eA, hF, fun j hj => ⟨?_, (World.frozen?_setCell _ _ _ _).trans (hc j hj).2⟩⟩
  obtain ⟨z', hz⟩ := (hc j hj).1
  by_cases he : b' = b ∧ o' + j = o
  · obtain ⟨rfl, rfl⟩ := he
    exact ⟨z, World.cell?_setCell_same _ _ _ hz⟩
  · exact ⟨z', by rw [World.cell?_setCell_other _ _ _ _ (by intro e'; injection e' with e1 e2 _; exact he ⟨e1.symm, e2.symm⟩)]; exact hz⟩
theorem Wb.chg {S F : Nat → Prop} {w w' : World} {v : Value} (h : Wb w F v) (hc : Chg S w w') (hs : ∀ b, F b → ¬ S b) : Wb w' F v := by
  obtain ⟨A, n, c, e, hn, h⟩ := h
  refine ⟨A, n, c, e, hn, fun h0 => ?_⟩
  obtain ⟨b', o', eA, hF, hx⟩ := h h0
  refine ⟨b', o', eA, hF, fun j hj => ?_⟩
  obtain ⟨⟨z, hz⟩, hf⟩ := hx j hj
  exact ⟨⟨z, hc.cell (hs _ hF) hz⟩, by rw [frozen_chg hc (cell_lt hz) (hs _ hF)]; exact hf⟩
theorem Wb.of {w : World} {F : Nat → Prop} {v : Value} {bs : List UInt8} (h : TS w F v bs) (hl : bs.length ≤ 1152921504606) : Wb w F v := by
  obtain ⟨⟨A, n, c, rfl, h1, h2, h3, h4⟩, A', n', c', e, h5⟩ := h
  injection e with e1 e2 e3
  subst e1; subst e2; subst e3
  refine ⟨A, n, c, rfl, by omega, fun h0 => ?_⟩
  obtain ⟨b, o, eA, hF, _, hf⟩ := h5 h0
  obtain ⟨b2, o2, e2, _, hc⟩ := h4.2 h0
  rw [eA] at e2
  injection e2 with e2; injection e2 with e3 e4
  subst e3; subst e4
  refine ⟨b, o, eA, hF, fun j hj => ⟨?_, hf j hj⟩⟩
  have hjl : j < bs.length := by omega
  exact ⟨_, hc j (bv bs[j]) (by simp [bvs, List.getElem?_eq_getElem hjl])⟩
/-- entries in a row in block g, whose texts lie from base on, off that block, and may be written -/
structure Ev (w : World) (base g : Nat) (A : Option Addr) (n : Nat) (us : List Value) : Prop where
  row : Rd w (fun b => b = g) 2 A n us
  tx : ∀ i, i < n → ∃ u v, us[2 * i]? = some u ∧ us[2 * i + 1]? = some v ∧ Wb w (fun b => base ≤ b ∧ b ≠ g) u ∧ Wb w (fun b => base ≤ b ∧ b ≠ g) v
theorem Ev.of {w : World} {base n c : Nat} {A : Option Addr} {us : List Value} {l : List Ent} (h : El w base (.slice A n c) us l) (hn : n = l.length) (hs : Short 1048576 l) : ∃ g, base ≤ g ∧ Ev w base g A n us := by
  rcases Nat.eq_zero_or_pos n with h0 | h0
  · refine ⟨base, Nat.le_refl _, ?_, fun i hi => by omega⟩
    have h1 := h.own.1
    have : us = [] := List.eq_nil_of_length_eq_zero (by rw [h1, ← hn, h0])
    subst h0
    rw [this]
    exact Rd.none_ _ _ _ _
  · subst hn
    obtain ⟨g, cap, hv, hbg, hlt⟩ := h.own.form h0
    injection hv with hv hv3 hv4
    subst hv
    refine ⟨g, hbg, ⟨h.own.1, fun _ => ⟨g, 0, rfl, rfl, fun j u hu => by have := h.own.cells (g := g) rfl j u hu; rw [add_eq] at this; exact this⟩⟩, fun i hi => ?_⟩
    obtain ⟨u, v, a, b, s1, s2⟩ := h.at_ i l[i] (List.getElem?_eq_getElem hi)
    have hm := hs l[i] (List.getElem_mem hi)
    have W := fun {x : Value} {bs : List UInt8} (s : TS w (fun b => base ≤ b ∧ (Value.slice (some ⟨g, 0, none⟩) l.length c).ownBlock ≠ some b) x bs) (hl : bs.length ≤ 1048576) => Wb.of (s.next (S := Nil) (G := fun b => base ≤ b ∧ b ≠ g) (Chg.refl _ _) (fun _ _ _ h => h) (fun b _ hb => ⟨hb.1, fun e => hb.2 (by rw [e]; rfl)⟩)) (by omega)
    exact ⟨u, v, a, b, W s1 hm.1, W s2 hm.2⟩
theorem Ev.setCell {w : World} {base g n : Nat} {A : Option Addr} {us : List Value} (h : Ev w base g A n us) {b : Nat} (hb : b ≠ g) (o : Nat) (z : Int) : Ev (w.setCell ⟨b, o, none⟩ (.int .u8 z)) base g A n us :=
  ⟨h.row.setCell (p := ⟨b, o, none⟩) (fun e => hb e) _, fun i hi => let ⟨u, v, a, c, s1, s2⟩ := h.tx i hi; ⟨u, v, a, c, s1.setCell b o z, s2.setCell b o z⟩⟩
theorem Ev.below {w w' : World} {base g n : Nat} {A : Option Addr} {us : List Value} (h : Ev w base g A n us) (hc : Below w.heap.size w w') : Ev w' base g A n us :=
  ⟨h.row.below hc, fun i hi => let ⟨u, v, a, c, s1, s2⟩ := h.tx i hi; ⟨u, v, a, c, s1.chg (S := Nil) (Chg.of_below hc) (fun _ _ h => h), s2.chg (S := Nil) (Chg.of_below hc) (fun _ _ h => h)⟩⟩
/-- an entry's two cells -/
theorem Ev.at_ {w : World} {base g n : Nat} {A : Option Addr} {us : List Value} (h : Ev w base g A n us) {i : Nat} (hi : i < n) : ∃ o u v, A = some ⟨g, o, none⟩ ∧ w.cell? ⟨g, o + i * 2, none⟩ = some u ∧ w.cell? ⟨g, o + i * 2 + 1, none⟩ = some v ∧ Wb w (fun b => base ≤ b ∧ b ≠ g) u ∧ Wb w (fun b => base ≤ b ∧ b ≠ g) v := by
  obtain ⟨b, o, u, v, e, hb, h1, h2, c1, c2⟩ := h.row.at2 hi
  subst hb
  obtain ⟨u', v', a1, a2, s1, s2⟩ := h.tx i hi
  rw [h1] at a1; rw [h2] at a2
  injection a1 with a1; injection a2 with a2
  subst a1; subst a2
  rw [Nat.mul_comm 2 i] at c1 c2
  rw [← Nat.add_assoc] at c2
  exact ⟨o, u, v, e, c1, c2, s1, s2⟩
noncomputable def klC : Code := codeOr (Try.f5.body.bind (blockIn 2))
set_option maxRecDepth 100000 in
set_option maxHeartbeats 4000000 in
theorem kl_loop (base g n c i : Nat) (A : Option Addr) (us : List Value) (w : World) {u0 u1 u2 u3 u4 u5 u6 u7 u9 u10 u13 u14 u15 u16 u17 u18 u19 u20 u21 u22 u23 u24 u25 u26 u27 u28 u29 u30 u31 u32 u33 u34 u35 u36 u37 u38 u39 u40 u41 u42 u43 u44 u45 u46 u47 u48 u49 u50 u51 u52 u53 u54 u55 u56 u57 u58 u59 u60 u61 u62 u63 u64 u65 u66 u67 u68 u69 u70 u71 u72 u73 u74 u75 u76 u77 u78 u79 u80 u81 u82 u83 u84 u85 u86 u87 u88 : Value} (Q : Exit → Act → World → Prop)
    (HE : Hid (Ev w base g A n us)) (hi : i < n) (hn : n ≤ 1152921504606)
    (hexit : ∀ (v33 v34 v35 v36 v37 v38 v39 v40 v41 v42 v43 v44 v45 v46 v47 v48 v49 v50 v51 v52 : Value) (kn : Nat) (w' : World), Ev w' base g A n us → Chg (fun b => base ≤ b) w w' → Q (.exit 2) ⟨(u0 :: u1 :: u2 :: u3 :: u4 :: u5 :: u6 :: u7 :: .slice A n c :: u9 :: u10 :: .int .i64 i :: .int .i64 kn :: u13 :: u14 :: u15 :: u16 :: u17 :: u18 :: u19 :: u20 :: u21 :: u22 :: u23 :: u24 :: u25 :: u26 :: u27 :: u28 :: u29 :: u30 :: u31 :: u32 :: v33 :: v34 :: v35 :: v36 :: v37 :: v38 :: v39 :: v40 :: v41 :: v42 :: v43 :: v44 :: v45 :: v46 :: v47 :: v48 :: v49 :: v50 :: v51 :: v52 :: u53 :: u54 :: u55 :: u56 :: u57 :: u58 :: u59 :: u60 :: u61 :: u62 :: u63 :: u64 :: u65 :: u66 :: u67 :: u68 :: u69 :: u70 :: u71 :: u72 :: u73 :: u74 :: u75 :: u76 :: u77 :: u78 :: u79 :: u80 :: u81 :: u82 :: u83 :: u84 :: u85 :: u86 :: u87 :: u88 :: []).toArray, []⟩ w') :
    Code.wp Try.prog klC Q ⟨(u0 :: u1 :: u2 :: u3 :: u4 :: u5 :: u6 :: u7 :: .slice A n c :: u9 :: u10 :: .int .i64 i :: .int .i64 0 :: u13 :: u14 :: u15 :: u16 :: u17 :: u18 :: u19 :: u20 :: u21 :: u22 :: u23 :: u24 :: u25 :: u26 :: u27 :: u28 :: u29 :: u30 :: u31 :: u32 :: u33 :: u34 :: u35 :: u36 :: u37 :: u38 :: u39 :: u40 :: u41 :: u42 :: u43 :: u44 :: u45 :: u46 :: u47 :: u48 :: u49 :: u50 :: u51 :: u52 :: u53 :: u54 :: u55 :: u56 :: u57 :: u58 :: u59 :: u60 :: u61 :: u62 :: u63 :: u64 :: u65 :: u66 :: u67 :: u68 :: u69 :: u70 :: u71 :: u72 :: u73 :: u74 :: u75 :: u76 :: u77 :: u78 :: u79 :: u80 :: u81 :: u82 :: u83 :: u84 :: u85 :: u86 :: u87 :: u88 :: []).toArray, []⟩ w := by
  have HEX := Lib.hid hexit
  obtain ⟨o, u, v, rfl, c1, c2, s1, s2⟩ := HE.out.at_ hi
  obtain ⟨tA, tn, tc, rfl, ht, _⟩ := s1
  clear hexit
  conv => arg 2; whnf
  go_loopg [12] tn (fun g' kv wz => ∃ k : Nat, g' = tn - k ∧ k ≤ tn ∧ kv = .int .i64 k ∧ Ev wz base g (some ⟨g, o, none⟩) n us ∧ wz.cell? ⟨g, o + i * 2, none⟩ = some (.slice tA tn tc) ∧ Chg (fun b => base ≤ b) w wz)
  case atStart => exact ⟨0, by omega, by omega, rfl, HE.out, c1, Chg.refl _ _⟩
  case round =>
    obtain ⟨k, hg, hk, rfl, he, hz, hc⟩ := hrel
    have HG := Lib.hid hg
    have HEV := Lib.hid he
    have HC := Lib.hid hc
    clear hg he hc c1 c2
    by_cases hlt : k < tn
    · obtain ⟨o', u', v', e', d1, d2, t1, t2⟩ := HEV.out.at_ hi
      injection e' with e'; injection e' with _ e'; subst e'
      rw [d1] at hz
      injection hz with hz
      subst hz
      obtain ⟨xA, xn, xc, e2, _, hx⟩ := t1
      injection e2 with e2 e3 e4
      subst e2; subst e3; subst e4
      obtain ⟨b, q, rfl, hF, hcell⟩ := hx (by omega)
      obtain ⟨⟨y, hy⟩, hf⟩ := hcell k hlt
      have HF := Lib.hid hF
      have HD := Lib.hid (d1)
      clear hx hcell hF
      go_wp2
      go_roundg (tn - (k + 1))
      case measure => have := HG.out; omega
      case rel =>
        refine ⟨k + 1, rfl, by omega, by go_num, HEV.out.setCell HF.out.2 _ _, ?_, HC.out.setCell (p := ⟨b, q + k, none⟩) (fun _ => HF.out.1) _⟩
        rw [World.cell?_setCell_other _ _ _ _ (by intro e; injection e with e1 _ _; exact HF.out.2 e1)]
        exact HD.out
    · have hk2 : k = tn := by omega
      subst hk2
      go_wp2
      exact HEX.out _ _ _ _ _ _ _ _ _ _ _ _ _ _ _ _ _ _ _ _ k _ HEV.out HC.out
noncomputable def vlC : Code := codeOr (Try.f5.body.bind (blockIn 4))
set_option maxRecDepth 100000 in
set_option maxHeartbeats 4000000 in
theorem vl_loop (base g n c i : Nat) (A : Option Addr) (us : List Value) (w : World) {u0 u1 u2 u3 u4 u5 u6 u7 u9 u10 u12 u14 u15 u16 u17 u18 u19 u20 u21 u22 u23 u24 u25 u26 u27 u28 u29 u30 u31 u32 u33 u34 u35 u36 u37 u38 u39 u40 u41 u42 u43 u44 u45 u46 u47 u48 u49 u50 u51 u52 u53 u54 u55 u56 u57 u58 u59 u60 u61 u62 u63 u64 u65 u66 u67 u68 u69 u70 u71 u72 u73 u74 u75 u76 u77 u78 u79 u80 u81 u82 u83 u84 u85 u86 u87 u88 : Value} (Q : Exit → Act → World → Prop)
    (HE : Hid (Ev w base g A n us)) (hi : i < n) (hn : n ≤ 1152921504606)
    (hexit : ∀ (v53 v54 v55 v56 v57 v58 v59 v60 v61 v62 v63 v64 v65 v66 v67 v68 v69 v70 v71 v72 : Value) (kn : Nat) (w' : World), Ev w' base g A n us → Chg (fun b => base ≤ b) w w' → Q (.exit 4) ⟨(u0 :: u1 :: u2 :: u3 :: u4 :: u5 :: u6 :: u7 :: .slice A n c :: u9 :: u10 :: .int .i64 i :: u12 :: .int .i64 kn :: u14 :: u15 :: u16 :: u17 :: u18 :: u19 :: u20 :: u21 :: u22 :: u23 :: u24 :: u25 :: u26 :: u27 :: u28 :: u29 :: u30 :: u31 :: u32 :: u33 :: u34 :: u35 :: u36 :: u37 :: u38 :: u39 :: u40 :: u41 :: u42 :: u43 :: u44 :: u45 :: u46 :: u47 :: u48 :: u49 :: u50 :: u51 :: u52 :: v53 :: v54 :: v55 :: v56 :: v57 :: v58 :: v59 :: v60 :: v61 :: v62 :: v63 :: v64 :: v65 :: v66 :: v67 :: v68 :: v69 :: v70 :: v71 :: v72 :: u73 :: u74 :: u75 :: u76 :: u77 :: u78 :: u79 :: u80 :: u81 :: u82 :: u83 :: u84 :: u85 :: u86 :: u87 :: u88 :: []).toArray, []⟩ w') :
    Code.wp Try.prog vlC Q ⟨(u0 :: u1 :: u2 :: u3 :: u4 :: u5 :: u6 :: u7 :: .slice A n c :: u9 :: u10 :: .int .i64 i :: u12 :: .int .i64 0 :: u14 :: u15 :: u16 :: u17 :: u18 :: u19 :: u20 :: u21 :: u22 :: u23 :: u24 :: u25 :: u26 :: u27 :: u28 :: u29 :: u30 :: u31 :: u32 :: u33 :: u34 :: u35 :: u36 :: u37 :: u38 :: u39 :: u40 :: u41 :: u42 :: u43 :: u44 :: u45 :: u46 :: u47 :: u48 :: u49 :: u50 :: u51 :: u52 :: u53 :: u54 :: u55 :: u56 :: u57 :: u58 :: u59 :: u60 :: u61 :: u62 :: u63 :: u64 :: u65 :: u66 :: u67 :: u68 :: u69 :: u70 :: u71 :: u72 :: u73 :: u74 :: u75 :: u76 :: u77 :: u78 :: u79 :: u80 :: u81 :: u82 :: u83 :: u84 :: u85 :: u86 :: u87 :: u88 :: []).toArray, []⟩ w := by
  have HEX := Lib.hid hexit
  obtain ⟨o, u, v, rfl, c1, c2, s1, s2⟩ := HE.out.at_ hi
  obtain ⟨tA, tn, tc, rfl, ht, _⟩ := s2
  clear hexit
  conv => arg 2; whnf
  go_loopg [13] tn (fun g' kv wz => ∃ k : Nat, g' = tn - k ∧ k ≤ tn ∧ kv = .int .i64 k ∧ Ev wz base g (some ⟨g, o, none⟩) n us ∧ wz.cell? ⟨g, o + i * 2 + 1, none⟩ = some (.slice tA tn tc) ∧ Chg (fun b => base ≤ b) w wz)
  case atStart => exact ⟨0, by omega, by omega, rfl, HE.out, c2, Chg.refl _ _⟩
  case round =>
    obtain ⟨k, hg, hk, rfl, he, hz, hc⟩ := hrel
    have HG := Lib.hid hg
    have HEV := Lib.hid he
    have HC := Lib.hid hc
    clear hg he hc c1 c2
    by_cases hlt : k < tn
    · obtain ⟨o', u', v', e', d1, d2, t1, t2⟩ := HEV.out.at_ hi
      injection e' with e'; injection e' with _ e'; subst e'
      rw [d2] at hz
      injection hz with hz
      subst hz
      obtain ⟨xA, xn, xc, e2, _, hx⟩ := t2
      injection e2 with e2 e3 e4
      subst e2; subst e3; subst e4
      obtain ⟨b, q, rfl, hF, hcell⟩ := hx (by omega)
      obtain ⟨⟨y, hy⟩, hf⟩ := hcell k hlt
      have HF := Lib.hid hF
      have HD := Lib.hid (d2)
      clear hx hcell hF
      go_wp2
      go_roundg (tn - (k + 1))
      case measure => have := HG.out; omega
      case rel =>
        refine ⟨k + 1, rfl, by omega, by go_num, HEV.out.setCell HF.out.2 _ _, ?_, HC.out.setCell (p := ⟨b, q + k, none⟩) (fun _ => HF.out.1) _⟩
        rw [World.cell?_setCell_other _ _ _ _ (by intro e; injection e with e1 _ _; exact HF.out.2 e1)]
        exact HD.out
    · have hk2 : k = tn := by omega
      subst hk2
      go_wp2
      exact HEX.out _ _ _ _ _ _ _ _ _ _ _ _ _ _ _ _ _ _ _ _ k _ HEV.out HC.out
end Go.Proofs.Ytpbnngfiinihmaa
