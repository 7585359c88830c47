/- WALKS: coppicelaw20.head. WALKS: order.after, order.After. WALKS: the statements OrderLines, OrderChecks. Entries that come in, opened to cells; what the bound says of them. -/
import Derived.Test.YtpbnngfiinihmaaOa15
import Derived.Test.YtpbnngfiinihmaaRows
import Derived.Test.YtpbnngfiinihmaaOa04
import Derived.Deep.Slices
import Derived.Deep.Fields
import Derived.ChangeSame
import Derived.ChangeSlices
import Derived.RowKit
set_option linter.unusedVariables false
set_option linter.unusedSimpArgs false
namespace Go.Proofs.Ytpbnngfiinihmaa
open Go.RowKit
/-- a text of one byte that a constant has made -/
def One1 (w : World) (g : Nat) (c : UInt8) : Prop := w.heap[g]? = some (.cells #[.int .u8 c.toNat] 5 (1, 2))
theorem One1.sb {w : World} {g : Nat} {c : UInt8} (h : One1 w g c) : SB w Any (.slice (some ⟨g, 0, none⟩) 1 1) [c] := by
  refine SB.mk (Nat.le_refl _) (by simp [maxLen]) rfl ⟨rfl, fun _ => ⟨g, 0, rfl, trivial, fun j u hu => ?_⟩⟩
  have hj : j = 0 := by have := (List.getElem?_eq_some_iff.1 hu).1; simp [bvs] at this; exact this
  subst hj
  simp [bvs] at hu
  subst hu
  unfold One1 at h
  simp [World.cell?, h, bv]
theorem One1.chg {S : Nat → Prop} {w w' : World} {g : Nat} {c : UInt8} (h : One1 w g c) (hc : Chg S w w') (hs : ¬ S g) : One1 w' g c := by
  unfold One1 at *
  have hl : g < w.heap.size := (Array.getElem?_eq_some_iff.1 h).1
  rw [hc.block g hl hs]; exact h
theorem wpList_conv_text {ops : Array Oper} {rest : List Oper} {o : Oper} {a : Act} {w : World} {Q : Exit → Act → World → Prop} (hg : o.guard = none) (x : Operand) (ho : o.op = .convert 36 36 x) (g : Nat) (c : UInt8) (hx : a.eval x = .slice (some ⟨g, 0, none⟩) 1 1)
    (hB : Blk w g 5 #[.int .u8 c.toNat]) (hK : ∀ w', One1 w' g c → Chg (One g) w w' → wpList Try.prog ops Q rest (a.put o.dst (.slice (some ⟨g, 0, none⟩) 1 1)) w') :
    wpList Try.prog ops Q (o :: rest) a w := by
  refine wpList_plain hg fun K hK' => ?_
  have hsh : w.shape? g = some (5, 1) := by unfold Blk at hB; simp [World.shape?, hB]
  have hrun : (convert 36 36 (.slice (some ⟨g, 0, none⟩) 1 1)).run Try.prog w = .ok (.slice (some ⟨g, 0, none⟩) 1 1) (w.freeze ⟨g, 1, none⟩ 1) := by
    simp [convert, run_underlying Try.underlying36, run_underlying Try.underlying5, markStringish, hsh]
  unfold Oper.wp execOp
  simp only [ho, hx, Sem.run_bind, hrun, Result.andThen_ok, Sem.run_pure]
  refine hK' _ _ (hK _ ?_ ⟨?_, ?_, ?_, ?_, fun k hk hs => ?_⟩)
  · unfold One1; unfold Blk at hB
    simp [World.freeze, Array.getElem?_modify, hB]
  · simp [World.freeze]
  · simp [World.freeze]
  · simp [World.freeze]
  · simp [World.freeze]
  · have : ¬ g = k := fun e => hs e.symm
    simp [World.freeze, Array.getElem?_modify, this]
theorem conv_below {w w' : World} {o : Obj} {g : Nat} (h : Chg (One g) (w.alloc o) w') (hg : w.heap.size ≤ g) : Below w.heap.size w w' :=
  ((Below.refl _ _).alloc (Nat.le_refl _) _).trans (h.below_of (by simp) (fun b hb e => by have e : b = g := e; omega))
theorem conv_below2 {w w' : World} {o o2 : Obj} {g : Nat} (h : Chg (One g) ((w.alloc o).alloc o2) w') (hg : w.heap.size + 1 ≤ g) : Below (w.heap.size + 1) (w.alloc o) w' ∧ Below w.heap.size w w' := by
  have h1 : Below (w.heap.size + 1) (w.alloc o) w' := ((Below.refl _ _).alloc (by simp) _).trans (h.below_of (by simp) (fun b hb e => by have e : b = g := e; omega))
  exact ⟨h1, ((Below.refl _ _).alloc (Nat.le_refl _) _).trans (h1.mono (by omega))⟩
/-- the call of the head's history -/
def headC (v : List UInt8) : CallD := ⟨0, 1, [97], [], 0, 4, 4, true, 0, true, v⟩
theorem head_line (v : List UInt8) : lineE [headC v] = [0] := by
  have h : LineN [headC v] [headC v].length [0] := ⟨by simp, fun i => by
    constructor
    · intro h; simp at h; subst h; exact ⟨by simp, by simp [ptOf, headC]⟩
    · rintro ⟨h, _⟩; simp at h; simp [h]⟩
  exact h.eq.symm
theorem head_bad (v : List UInt8) : badPt [headC v] = none := badPt_none (fun j hj d hd => by
  have hj0 : j = 0 := by simpa using hj
  subst hj0
  simp at hd
  subst hd
  refine ⟨?_, by simp⟩
  unfold momentE headC
  simp)
theorem head_yes : checkE [([97], [49])] [headC [49]] [([97], [49])] 0 = (-1, 0) := by
  unfold checkE
  rw [head_bad, head_line]
  have : runL [headC [49]] [0] (mapE [([97], [49])]) = .inr [([97], [49])] := by decide
  rw [this]; simp
theorem head_no : checkE [([97], [49])] [headC [50]] [([97], [49])] 0 = (0, 202) := by
  unfold checkE
  rw [head_bad, head_line]
  have : runL [headC [50]] [0] (mapE [([97], [49])]) = .inl 0 := by decide
  rw [this]; rfl
theorem ents_one {w : World} {g n c m d : Nat} {A B : Option Addr} {k v : List UInt8} (hB : Blk w g 38 #[.slice A n c, .slice B m d]) (h1 : SB w Any (.slice A n c) k) (h2 : SB w Any (.slice B m d) v) : Ents w Any (some ⟨g, 0, none⟩) 1 [(k, v)] := by
  refine ⟨Lib.hid rfl, [.slice A n c, .slice B m d], ⟨rfl, fun _ => ⟨g, 0, rfl, trivial, fun j u hu => ?_⟩⟩, fun i e he => ?_⟩
  · rw [Nat.zero_add, hB.cell]; simpa using hu
  · have hi : i = 0 := by have := (List.getElem?_eq_some_iff.1 he).1; simpa using this
    subst hi
    simp at he
    subst he
    exact ⟨_, _, rfl, rfl, h1, h2⟩
theorem calls_one {w : World} {g : Nat} {c : CallD} {x : CallX} (hB : Blk w g 48 (callCs c x)) (hw : CallW w Any c x) : CallsM w Any (some ⟨g, 0, none⟩) 1 [c] := by
  refine ⟨rfl, fun _ => x, fun i e he => ?_⟩
  have hi : i = 0 := by have := (List.getElem?_eq_some_iff.1 he).1; simpa using this
  subst hi
  simp at he
  subst he
  exact ⟨hw, g, 0, rfl, trivial, CallAt.of_blk hB⟩
/-- what else lies in the call's cells -/
def headX (a b : Nat) : CallX := ⟨0, 0, 0, some ⟨a, 0, none⟩, 1, 1, none, 0, 0, none, 0, 0, none, 0, 0, some ⟨b, 0, none⟩, 1, 1, none, 0, 0⟩
theorem head_w {w : World} {a b : Nat} {v : UInt8} (h1 : One1 w a 97) (h2 : One1 w b v) : CallW w Any (headC [v]) (headX a b) := by
  obtain ⟨a1, a2, a3, a4⟩ := h1.sb.parts
  obtain ⟨b1, b2, b3, b4⟩ := h2.sb.parts
  exact ⟨a1, a2, a3, a4, Nat.le_refl _, by simp [headX, maxLen], rfl, Rd.none_ _ _ _ _, b1, b2, b3, b4⟩
theorem head_short : Short 1048576 [(([97] : List UInt8), ([49] : List UInt8))] := fun e he => by simp at he; subst he; simp
theorem head_keys (v : List UInt8) : ∀ c ∈ [headC v], c.key.length ≤ 1048576 := fun c hc => by simp at hc; subst hc; simp [headC]
set_option maxRecDepth 100000 in
set_option maxHeartbeats 8000000 in
theorem head_any (w : World) : Calls Try.prog 7 #[] w fun e w' => e = .returned (.bool true) ∧ Below w.heap.size w w' := by
  go_enter Try.func7, Try.ntmps7
  go_upto_region 2 with (first | (refine wpList_conv_text rfl (.tmp 6) rfl (w.heap.size) 97 rfl (Blk.new _ _ _) ?_; intro w1 k1 d1; have K1 := Lib.hid k1; have D1 := Lib.hid d1; clear k1 d1) | (refine wpList_conv_text rfl (.tmp 8) rfl (w1.heap.size) 49 rfl (Blk.new _ _ _) ?_; intro w2 k2 d2; have K2 := Lib.hid k2; have D2 := Lib.hid d2; clear k2 d2) | (refine wpList_conv_text rfl (.tmp 12) rfl (w2.heap.size + 1) 97 rfl (by have := Blk.new (w2.alloc (.cells #[.slice (some ⟨w.heap.size, 0, none⟩) 1 1, .slice (some ⟨w1.heap.size, 0, none⟩) 1 1] 38)) 5 #[.int .u8 (UInt8.toNat 97)]; simpa using this) ?_; intro w3 k3 d3; have K3 := Lib.hid k3; have D3 := Lib.hid d3; clear k3 d3) | (refine wpList_conv_text rfl (.tmp 15) rfl (w3.heap.size) 49 rfl (Blk.new _ _ _) ?_; intro w4 k4 d4; have K4 := Lib.hid k4; have D4 := Lib.hid d4; clear k4 d4) | (refine wpList_conv_text rfl (.tmp 19) rfl (w4.heap.size + 1) 97 rfl (by have := Blk.new (w4.alloc (.cells #[.int .i64 0, .int .i64 0, .int .i64 1, .slice (some ⟨w2.heap.size + 1, 0, none⟩) 1 1, .slice none 0 0, .slice none 0 0, .int .i64 0, .slice none 0 0, .int .i64 0, .int .i64 0, .int .i64 4, .int .i64 4, .bool true, .int .i64 0, .bool true, .slice (some ⟨w3.heap.size, 0, none⟩) 1 1, .slice none 0 0] 48)) 5 #[.int .u8 (UInt8.toNat 97)]; simpa using this) ?_; intro w5 k5 d5; have K5 := Lib.hid k5; have D5 := Lib.hid d5; clear k5 d5) | (refine wpList_conv_text rfl (.tmp 21) rfl (w5.heap.size) 49 rfl (Blk.new _ _ _) ?_; intro w6 k6 d6; have K6 := Lib.hid k6; have D6 := Lib.hid d6; clear k6 d6))
  obtain ⟨w7, hw7⟩ : ∃ W, W = (w6.alloc (.cells #[.slice (some ⟨w4.heap.size + 1, 0, none⟩) 1 1, .slice (some ⟨w5.heap.size, 0, none⟩) 1 1] 38)).alloc (.cells #[.slice (some ⟨w2.heap.size, 0, none⟩) 1 1, .slice (some ⟨w4.heap.size, 0, none⟩) 1 1, .int .i64 0, .bool false, .slice (some ⟨w6.heap.size, 0, none⟩) 1 1, .slice none 0 0] 29) := ⟨_, rfl⟩
  rw [← hw7]
  have b1 := conv_below D1.out (Nat.le_refl _)
  have b2 := conv_below D2.out (Nat.le_refl _)
  obtain ⟨b3', b3⟩ := conv_below2 D3.out (Nat.le_refl _)
  have b4 := conv_below D4.out (Nat.le_refl _)
  obtain ⟨b5', b5⟩ := conv_below2 D5.out (Nat.le_refl _)
  have b6 := conv_below D6.out (Nat.le_refl _)
  have b7 : Below w6.heap.size w6 w7 := by rw [hw7]; exact ((Below.refl _ _).alloc (Nat.le_refl _) _).alloc (by simp) _
  have E7 : Blk w7 w6.heap.size 38 #[.slice (some ⟨w4.heap.size + 1, 0, none⟩) 1 1, .slice (some ⟨w5.heap.size, 0, none⟩) 1 1] := by rw [hw7]; exact (Blk.new _ _ _).alloc _
  have H7 : Blk w7 (w6.heap.size + 1) 29 #[.slice (some ⟨w2.heap.size, 0, none⟩) 1 1, .slice (some ⟨w4.heap.size, 0, none⟩) 1 1, .int .i64 0, .bool false, .slice (some ⟨w6.heap.size, 0, none⟩) 1 1, .slice none 0 0] := by
    rw [hw7]
    have := Blk.new (w6.alloc (.cells #[.slice (some ⟨w4.heap.size + 1, 0, none⟩) 1 1, .slice (some ⟨w5.heap.size, 0, none⟩) 1 1] 38)) 29 #[.slice (some ⟨w2.heap.size, 0, none⟩) 1 1, .slice (some ⟨w4.heap.size, 0, none⟩) 1 1, .int .i64 0, .bool false, .slice (some ⟨w6.heap.size, 0, none⟩) 1 1, .slice none 0 0]
    simpa using this
  have s1 : w.heap.size + 1 ≤ w1.heap.size := by have := D1.out.size; simpa using this
  have s2 : w1.heap.size + 1 ≤ w2.heap.size := by have := D2.out.size; simpa using this
  have s3 : w2.heap.size + 2 ≤ w3.heap.size := by have := D3.out.size; simpa using this
  have s4 : w3.heap.size + 1 ≤ w4.heap.size := by have := D4.out.size; simpa using this
  have s5 : w4.heap.size + 2 ≤ w5.heap.size := by have := D5.out.size; simpa using this
  have s6 : w5.heap.size + 1 ≤ w6.heap.size := by have := D6.out.size; simpa using this
  have c6 : Below w6.heap.size w6 w7 := b7
  have c5 : Below w5.heap.size w5 w7 := b6.trans (c6.mono b6.size)
  have c4 : Below w4.heap.size w4 w7 := b5.trans (c5.mono b5.size)
  have c3 : Below w3.heap.size w3 w7 := b4.trans (c4.mono b4.size)
  have c2 : Below w2.heap.size w2 w7 := b3.trans (c3.mono b3.size)
  have c1 : Below w1.heap.size w1 w7 := b2.trans (c2.mono b2.size)
  have c0 : Below w.heap.size w w7 := b1.trans (c1.mono b1.size)
  have c3' : Below (w2.heap.size + 1) (w2.alloc (.cells #[.slice (some ⟨w.heap.size, 0, none⟩) 1 1, .slice (some ⟨w1.heap.size, 0, none⟩) 1 1] 38)) w7 := b3'.trans (c3.mono (by omega))
  have c5' := b5'.trans (c5.mono (by omega))
  have HE3 : Hid (Blk w7 w2.heap.size 38 #[.slice (some ⟨w.heap.size, 0, none⟩) 1 1, .slice (some ⟨w1.heap.size, 0, none⟩) 1 1]) := Lib.hid ((Blk.new _ _ _).below (by simpa using c3'))
  have HC5 : Hid (Blk w7 w4.heap.size 48 (callCs (headC [49]) (headX (w2.heap.size + 1) w3.heap.size))) := Lib.hid (Blk.below (w := w4.alloc (.cells (callCs (headC [49]) (headX (w2.heap.size + 1) w3.heap.size)) 48)) (Blk.new _ _ _) (by have h := c5'; rw [show w4.heap.size + 1 = (w4.alloc (.cells (callCs (headC [49]) (headX (w2.heap.size + 1) w3.heap.size)) 48)).heap.size by simp] at h; exact h))
  have HE7 := Lib.hid E7
  have HH7 := Lib.hid H7
  have T1 := Lib.hid (K1.out.chg (S := Nil) (Chg.of_below c1) (fun h => h))
  have T2 := Lib.hid (K2.out.chg (S := Nil) (Chg.of_below c2) (fun h => h))
  have T3 := Lib.hid (K3.out.chg (S := Nil) (Chg.of_below c3) (fun h => h))
  have T4 := Lib.hid (K4.out.chg (S := Nil) (Chg.of_below c4) (fun h => h))
  have T5 := Lib.hid (K5.out.chg (S := Nil) (Chg.of_below c5) (fun h => h))
  have T6 := Lib.hid (K6.out.chg (S := Nil) (Chg.of_below c6) (fun h => h))
  have HB7 := Lib.hid c0
  have s7 : w6.heap.size + 2 ≤ w7.heap.size := by rw [hw7]; simp
  clear hw7 b1 b2 b3 b3' b4 b5 b5' b6 b7 c0 c1 c2 c3 c4 c5 c6 c3' c5' E7 H7
  have z0 : w7.cell? ⟨w6.heap.size + 1, 0, none⟩ = some (.slice (some ⟨w2.heap.size, 0, none⟩) 1 1) := HH7.out.cell 0
  have z1 : w7.cell? ⟨w6.heap.size + 1, 1, none⟩ = some (.slice (some ⟨w4.heap.size, 0, none⟩) 1 1) := HH7.out.cell 1
  have z2 : w7.cell? ⟨w6.heap.size + 1, 2, none⟩ = some (.int .i64 0) := HH7.out.cell 2
  have z3 : w7.cell? ⟨w6.heap.size + 1, 3, none⟩ = some (.bool false) := HH7.out.cell 3
  have z4 : w7.cell? ⟨w6.heap.size + 1, 4, none⟩ = some (.slice (some ⟨w6.heap.size, 0, none⟩) 1 1) := HH7.out.cell 4
  have z5 : w7.cell? ⟨w6.heap.size + 1, 5, none⟩ = some (.slice none 0 0) := HH7.out.cell 5
  go_upto_region 3 with (go_at_call 10; go_loud (refine (check_any (some ⟨w2.heap.size, 0, none⟩) (some ⟨w4.heap.size, 0, none⟩) (some ⟨w6.heap.size, 0, none⟩) none 1 1 1 1 1 1 0 0 0 false [([97], [49])] [([97], [49])] [headC [49]] w7 (ents_one HE3.out T1.out.sb T2.out.sb) (calls_one HC5.out (head_w T3.out T4.out)) (ents_one HE7.out T5.out.sb T6.out.sb) (by omega) (by omega) (by omega) (by omega) head_short (head_keys _)).mono ?_); rintro e w8 ⟨rfl, hb8⟩; rw [head_yes]; have HB8 := Lib.hid hb8; clear hb8)
  have HH8 := Lib.hid (HH7.out.below HB8.out)
  have HC8 := Lib.hid (HC5.out.below HB8.out)
  have s8 : w7.heap.size ≤ w8.heap.size := HB8.out.size
  have y1 : w8.cell? ⟨w6.heap.size + 1, 1, none⟩ = some (.slice (some ⟨w4.heap.size, 0, none⟩) 1 1) := HH8.out.cell 1
  have y15 : w8.cell? ⟨w4.heap.size, 15, none⟩ = some (.slice (some ⟨w3.heap.size, 0, none⟩) 1 1) := HC8.out.cell 15
  have yf := HC8.out.frozen 15
  clear z0 z1 z2 z3 z4 z5
  go_upto_region 4 with (refine wpList_conv_text rfl (.tmp 33) rfl w8.heap.size 50 rfl (Blk.new _ _ _) ?_; intro w9 k9 d9; have K9 := Lib.hid k9; have D9 := Lib.hid (conv_below d9 (Nat.le_refl _)); have y15 := bkeep D9.out y15; have yf := (HC8.out.below D9.out).frozen 15; have s9 : w8.heap.size + 1 ≤ w9.heap.size := (by have := d9.size; simpa using this); clear k9 d9)
  obtain ⟨w10, hw10⟩ : ∃ W, W = w9.setCell ⟨w4.heap.size, 15, none⟩ (.slice (some ⟨w8.heap.size, 0, none⟩) 1 1) := ⟨_, rfl⟩
  rw [← hw10]
  have hc10 : Chg (One w4.heap.size) w9 w10 := by rw [hw10]; exact Chg.set1 _ _ _ _
  have HC10 : Hid (Blk w10 w4.heap.size 48 (callCs (headC [50]) (headX (w2.heap.size + 1) w8.heap.size))) := Lib.hid (by rw [hw10]; exact (HC8.out.below D9.out).set_ 15 (.slice (some ⟨w8.heap.size, 0, none⟩) 1 1))
  have B79 : Below w7.heap.size w7 w9 := HB8.out.trans (D9.out.mono s8)
  have C710 := (Chg.of_below (S := One w4.heap.size) B79).trans hc10 (fun _ _ h => h)
  have HH10 := Lib.hid (HH7.out.chg C710 (fun e => by have e : w6.heap.size + 1 = w4.heap.size := e; omega))
  have HE10 := Lib.hid (HE3.out.chg C710 (fun e => by have e : w2.heap.size = w4.heap.size := e; omega))
  have HF10 := Lib.hid (HE7.out.chg C710 (fun e => by have e : w6.heap.size = w4.heap.size := e; omega))
  have U1 := Lib.hid (T1.out.chg C710 (fun e => by have e : w.heap.size = w4.heap.size := e; omega))
  have U2 := Lib.hid (T2.out.chg C710 (fun e => by have e : w1.heap.size = w4.heap.size := e; omega))
  have U3 := Lib.hid (T3.out.chg C710 (fun e => by have e : w2.heap.size + 1 = w4.heap.size := e; omega))
  have U5 := Lib.hid (T5.out.chg C710 (fun e => by have e : w4.heap.size + 1 = w4.heap.size := e; omega))
  have U6 := Lib.hid (T6.out.chg C710 (fun e => by have e : w5.heap.size = w4.heap.size := e; omega))
  have U9 := Lib.hid (K9.out.chg hc10 (fun e => by have e : w8.heap.size = w4.heap.size := e; omega))
  have HB10 := Lib.hid (HB7.out.trans (C710.below_of HB7.out.size (fun b hb e => by have e : b = w4.heap.size := e; omega)))
  clear hw10 hc10 B79 C710 y1 y15 yf
  have z0 : w10.cell? ⟨w6.heap.size + 1, 0, none⟩ = some (.slice (some ⟨w2.heap.size, 0, none⟩) 1 1) := HH10.out.cell 0
  have z1 : w10.cell? ⟨w6.heap.size + 1, 1, none⟩ = some (.slice (some ⟨w4.heap.size, 0, none⟩) 1 1) := HH10.out.cell 1
  have z2 : w10.cell? ⟨w6.heap.size + 1, 2, none⟩ = some (.int .i64 0) := HH10.out.cell 2
  have z3 : w10.cell? ⟨w6.heap.size + 1, 3, none⟩ = some (.bool false) := HH10.out.cell 3
  have z4 : w10.cell? ⟨w6.heap.size + 1, 4, none⟩ = some (.slice (some ⟨w6.heap.size, 0, none⟩) 1 1) := HH10.out.cell 4
  have z5 : w10.cell? ⟨w6.heap.size + 1, 5, none⟩ = some (.slice none 0 0) := HH10.out.cell 5
  go_upto_region 5 with (go_at_call 10; go_loud (refine (check_any (some ⟨w2.heap.size, 0, none⟩) (some ⟨w4.heap.size, 0, none⟩) (some ⟨w6.heap.size, 0, none⟩) none 1 1 1 1 1 1 0 0 0 false [([97], [49])] [([97], [49])] [headC [50]] w10 (ents_one HE10.out U1.out.sb U2.out.sb) (calls_one HC10.out (head_w U3.out U9.out)) (ents_one HF10.out U5.out.sb U6.out.sb) (by omega) (by omega) (by omega) (by omega) head_short (head_keys _)).mono ?_); rintro e w11 ⟨rfl, hb11⟩; rw [head_no]; have HB11 := Lib.hid (HB10.out.trans (hb11.mono HB10.out.size)); clear hb11)
  go_wp2
  go_ret
  exact ⟨rfl, HB11.out⟩
end Go.Proofs.Ytpbnngfiinihmaa

namespace Go.Proofs.Ytpbnngfiinihmaa
open Go.RowKit
/-- a new table that reads as m: its block, and how many entries it may have -/
def NewTabA (w : World) (n : Nat) (m : List Ent) (e : Ending) (w' : World) : Prop := ∃ tb n2, e = .returned (.map (some tb)) ∧ w.heap.size ≤ tb ∧ n2 ≤ n ∧ TabM w' tb n2 (Under w.heap.size) m ∧ Up m ∧ Short 1048576 m ∧ m.length ≤ n ∧ Below w.heap.size w w'
set_option maxRecDepth 100000 in
set_option maxHeartbeats 8000000 in
theorem afterT_any (sA cA : Option Addr) (sn sc cn cc : Nat) (now : Int) (start : List Ent) (l : List CallD) (w : World) (hS : Ents w Any sA sn start) (hL : CallsM w Any cA cn l)
    (h1 : sn ≤ 1048576) (h2 : cn ≤ 1048576) (hsh : Short 1048576 start) :
    Calls Try.prog 32 #[.slice sA sn sc, .slice cA cn cc, .int .i64 now] w (NewTabA w (sn + cn) (afterE start l now)) := by
  have HS := Lib.hid hS
  have HL := Lib.hid hL
  have HLL := Lib.hid hL.lt
  have HSH := Lib.hid hsh
  have HN := Lib.hid hL.len
  clear hS hL hsh
  go_enter Try.func32, Try.ntmps32
  go_upto_region 2 with (go_at_call 21; go_loud (refine (of_any sA sn sc start w HS.out h1 (fun e he => ⟨Nat.le_trans (HSH.out e he).1 (by omega), Nat.le_trans (HSH.out e he).2 (by omega)⟩)).mono ?_); rintro e w2 ⟨rfl, ht2, hb2⟩; have HT2 := Lib.hid ht2; have HB3 := Lib.hid hb2; have hsz2 := hb2.size; clear ht2 hb2)
  obtain ⟨tb, htb⟩ : ∃ tb, tb = w.heap.size := ⟨_, rfl⟩
  have HTB := Lib.hid htb
  rw [← htb] at HT2 ⊢
  have htbs : w.heap.size ≤ tb := by omega
  have htbs2 : tb ≤ w.heap.size := by omega
  have htl := HT2.out.lt
  clear htb
  go_upto_region 3 with (go_at_call 8; go_loud (refine (line_any Any cA cn cc l w2 (HL.out.below HB3.out) h2).mono ?_); rintro e w3 ⟨lA, lm, lc, rfl, hlm, hlm2, hrd, hln, hb3⟩; have HLM := Lib.hid hlm; have HRD := Lib.hid hrd; have HLN := Lib.hid hln; have HB4 := Lib.hid (HB3.out.trans (hb3.mono HB3.out.size)); have HT3 := Lib.hid (HT2.out.below hb3); have hsz3 := hb3.size; clear hlm hrd hln hb3)
  have hlmb : lm ≤ 1048576 := by omega
  go_loopg [15] lm (fun g' iv wz => ∃ (k n2 : Nat) (m : List Ent), g' = lm - k ∧ k ≤ lm ∧ iv = .int .i64 k ∧ TabM wz tb n2 (Under tb) m ∧ Up m ∧ Short 1048576 m ∧ n2 ≤ sn + k ∧ m.length ≤ sn + k ∧ aftL l now ((lineE l).drop k) m = aftL l now (lineE l) (mapE start) ∧ Chg (One tb) w3 wz)
  case atStart => exact ⟨0, sn, mapE start, by omega, by omega, rfl, HT3.out, mapE_up _, fun e he => HSH.out e (mapE_sub start start.length e (by rw [List.take_length]; exact he)), by omega, by have h1 := mapE_len start; have h2 := HS.out.len; omega, rfl, Chg.refl _ _⟩
  case round =>
    obtain ⟨k, n2, m, hg, hk, rfl, ht, hup, hsm, hn2, hml, hrun, hc3⟩ := hrel
    have HG := Lib.hid hg
    have HT := Lib.hid ht
    have HUP := Lib.hid hup
    have HSM := Lib.hid hsm
    have HRUN := Lib.hid hrun
    have HC3 := Lib.hid hc3
    have HB6 := Lib.hid (HB4.out.trans (hc3.below_of HB4.out.size (fun g hg e => by have e : g = tb := e; omega)))
    have HLn := Lib.hid (HLL.out.below HB6.out)
    have hsz4 : w3.heap.size ≤ wr.heap.size := hc3.size
    clear hg ht hup hsm hrun
    by_cases hlt : k < lm
    · have hlt' : (k : Int) < (lm : Int) := by omega
      obtain ⟨g, e, u, rfl, hgF, hu, zc0⟩ := HRD.out.at_ hlt
      have hgF : w2.heap.size ≤ g := hgF
      have zc := hc3.cell (show ¬ One tb g from fun e => by have e : g = tb := e; omega) zc0
      have hkl : k < (lineE l).length := by have := HLM.out; omega
      obtain ⟨p, hp⟩ : ∃ p, (lineE l)[k]? = some p := ⟨_, List.getElem?_eq_getElem hkl⟩
      rw [pvs_at hp] at hu
      injection hu with hu
      subst hu
      have hpn : p < cn := ((HLN.out.2 p).1 (List.mem_of_getElem? hp)).1
      have hpn' : (p : Int) < (cn : Int) := by omega
      obtain ⟨b, o, c, x, rfl, hFb, hlp, hcw, hat⟩ := HLn.out.at_ hpn
      have HCW := Lib.hid (hcw.weakS (B := tb) (fun g hg => by have := hg.2; omega))
      have HAT := Lib.hid hat
      have HST := Lib.hid (aftL_step hp hlp now m)
      have z11 := hat.c11
      have hbs : b < w.heap.size := hFb.2
      clear hp hlp hcw hat hkl zc0 hc3 hFb
      by_cases hpt : c.pt < now
      · go_wp2_with (first | (refine wpList_load_call rfl (.tmp 29) rfl rfl HAT.out ?_) | (go_at_call 23; go_loud (refine (does_any (Under tb) tb n2 m c x wr HCW.out HT.out (by omega) (fun g (hg : g < tb) => by omega)).mono ?_); rintro e6 w6 ⟨rfl, ht6, hc6⟩; have HT6 := Lib.hid ht6; have HC6 := Lib.hid (HC3.out.trans hc6 (fun _ _ h => h)); clear ht6 hc6))
        go_roundg (lm - (k + 1))
        case measure => have := HG.out; omega
        case rel =>
          refine ⟨k + 1, n2 + 1, doesE m c, rfl, by omega, by go_num, HT6.out, doesE_up HUP.out c, doesE_short HSM.out c (by omega), by omega, by have := doesE_len m c; omega, ?_, HC6.out⟩
          have h1 := HRUN.out
          rw [HST.out, if_pos hpt] at h1
          exact h1
      · go_wp2
        go_roundg (lm - (k + 1))
        case measure => have := HG.out; omega
        case rel =>
          refine ⟨k + 1, n2, m, rfl, by omega, by go_num, HT.out, HUP.out, HSM.out, by omega, by omega, ?_, HC3.out⟩
          have h1 := HRUN.out
          rw [HST.out, if_neg (by omega)] at h1
          exact h1
    · have hkm : k = lm := by omega
      subst hkm
      go_wp2
      go_ret
      have h1 := HRUN.out
      rw [List.drop_of_length_le (by have := HLM.out; omega)] at h1
      have h2 : m = afterE start l now := h1
      rw [← h2]
      exact ⟨tb, n2, rfl, htbs, by omega, HT.out.weak (fun b (hb : b < tb) => (show b < w.heap.size by omega)), HUP.out, HSM.out, by omega, HB6.out⟩
set_option maxRecDepth 100000 in
set_option maxHeartbeats 4000000 in
theorem after_any (sA cA : Option Addr) (sn sc cn cc : Nat) (now : Int) (start : List Ent) (l : List CallD) (w : World) (hS : Ents w Any sA sn start) (hL : CallsM w Any cA cn l)
    (h1 : sn ≤ 1048576) (h2 : cn ≤ 1048576) (hsh : Short 1048576 start) :
    Calls Try.prog 12 #[.slice sA sn sc, .slice cA cn cc, .int .i64 now] w (NewList w (afterE start l now)) := by
  have HH := Lib.hid (afterT_any sA cA sn sc cn cc now start l w hS hL h1 h2 hsh)
  clear hS hL hsh
  go_enter Try.func12, Try.ntmps12
  go_wp2_with (first | (go_at_call 32; go_loud (refine HH.out.mono ?_); rintro e w2 ⟨tb, n2, rfl, hb, hn2, ht, hu, hs, hml, hb2⟩; have HT := Lib.hid ht; have HU := Lib.hid hu; have HS := Lib.hid hs; have HB2 := Lib.hid hb2; clear ht hu hs hb2) | (go_at_call 25; go_loud (refine (list_any tb n2 _ _ w2 HT.out HU.out HS.out (by omega) (by omega)).mono ?_); rintro e w3 ⟨lA, ln, lc, us, rfl, hln, hel, hb3⟩; have HLN := Lib.hid hln; have HEL := Lib.hid hel; have HB3 := Lib.hid hb3; clear hln hel hb3))
  go_ret
  exact ⟨lA, ln, lc, us, rfl, HLN.out, HEL.out.mono HB2.out.size, HB2.out.trans (HB3.out.mono HB2.out.size)⟩
end Go.Proofs.Ytpbnngfiinihmaa

namespace Go.Proofs.Ytpbnngfiinihmaa
open Go.RowKit
set_option maxRecDepth 100000 in
set_option maxHeartbeats 8000000 in
theorem lines_all (A : Option Addr) (n c : Nat) (l : List CallD) (w : World) (hL : CallsM w Any A n l) (hn : n ≤ 1048576) :
    Calls Try.prog 3 #[.slice A n c] w fun e w' => e = .returned (.bool true) ∧ Below w.heap.size w w' := by
  have HL := Lib.hid hL
  clear hL
  go_enter Try.func3, Try.ntmps3
  go_upto_region 2 with (go_at_call 7; go_loud (refine (head_any w).mono ?_); rintro e w1 ⟨rfl, hb1⟩; have HB1 := Lib.hid hb1; clear hb1)
  go_upto_region 3 with (go_at_call 8; go_loud (refine (line_any Any A n c l w1 (HL.out.below HB1.out) hn).mono ?_); rintro e w2 ⟨lA, lm, lc, rfl, hlm, hlm2, hrd, _, hb2⟩; have HLM := Lib.hid hlm; have HRD := Lib.hid hrd; have HB2 := Lib.hid (HB1.out.trans (hb2.mono HB1.out.size)); clear hlm hrd hb2)
  go_upto_region 4 with (go_at_call 9; go_loud (refine (rline_any Any A n c l w2 (HL.out.below HB2.out) hn).mono ?_); rintro e w3 ⟨rA, rm, rc, rfl, hrm, _, hrr, _, hb3⟩; have HRM := Lib.hid hrm; have HRR := Lib.hid hrr; have HRD3 := Lib.hid (HRD.out.below hb3); have HB3 := Lib.hid (HB2.out.trans (hb3.mono HB2.out.size)); clear hrm hrr hb3)
  have hrl : rm = lm := by rw [HRM.out, HLM.out]
  subst hrl
  have hrm6 : rm ≤ 1152921504606 := by omega
  go_wp2
  go_loopg [6] rm (fun g' iv wz => ∃ i : Nat, g' = rm - i ∧ i ≤ rm ∧ iv = .int .i64 i ∧ Below w3.heap.size w3 wz)
  case atStart => exact ⟨0, by omega, by omega, rfl, Below.refl _ _⟩
  case round =>
    obtain ⟨i, hg, hi, rfl, hb⟩ := hrel
    have HG := Lib.hid hg
    have HB := Lib.hid hb
    clear hg hb
    by_cases hlt : i < rm
    · obtain ⟨b, o, u, rfl, _, hu, zc⟩ := (HRD3.out.below HB.out).at_ hlt
      obtain ⟨b', o', u', rfl, _, hu', zc'⟩ := (HRR.out.below HB.out).at_ hlt
      rw [hu] at hu'
      injection hu' with hu'
      subst hu'
      have hkl : i < (lineE l).length := by have := HLM.out; omega
      obtain ⟨p, hp⟩ : ∃ p, (lineE l)[i]? = some p := ⟨_, List.getElem?_eq_getElem hkl⟩
      rw [pvs_at hp] at hu
      injection hu with hu
      subst hu
      clear hp hkl
      go_wp2
      go_quiet (fail)
      go_wp2
      go_roundg (rm - (i + 1))
      case measure => have := HG.out; omega
      case rel => exact ⟨i + 1, rfl, by omega, by go_num, bel_drewN HB.out _⟩
    · go_wp2
      go_ret
      exact ⟨rfl, HB3.out.trans (HB.out.mono HB3.out.size)⟩
set_option maxRecDepth 100000 in
set_option maxHeartbeats 8000000 in
theorem checks_all (sA cA eA hA : Option Addr) (sn sc cn cc en ec hn hc : Nat) (st : Int) (dn : Bool) (start endl : List Ent) (l : List CallD) (w : World) (hS : Ents w Any sA sn start) (hL : CallsM w Any cA cn l) (hE : Ents w Any eA en endl)
    (h1 : sn ≤ 1048576) (h2 : cn ≤ 1048576) (h3 : en ≤ 1048576) (hcc : cn ≤ cc) (hsh : Short 1048576 start) (hks : ∀ c ∈ l, c.key.length ≤ 1048576) :
    Calls Try.prog 4 #[.agg #[.slice sA sn sc, .slice cA cn cc, .int .i64 st, .bool dn, .slice eA en ec, .slice hA hn hc]] w fun e w' => e = .returned (.bool true) ∧ Below w.heap.size w w' := by
  have HS := Lib.hid hS
  have HL := Lib.hid hL
  have HE := Lib.hid hE
  have HSH := Lib.hid hsh
  have HKS := Lib.hid hks
  clear hS hL hE hsh hks
  obtain ⟨ci, hci⟩ : ∃ ci, ci = (checkE start l endl hn).1 := ⟨_, rfl⟩
  obtain ⟨ce, hce⟩ : ∃ ce, ce = (checkE start l endl hn).2 := ⟨_, rfl⟩
  have HCI := Lib.hid hci
  have HCE := Lib.hid hce
  clear hci hce
  go_enter Try.func4, Try.ntmps4
  go_upto_region 1 with fail
  obtain ⟨w1, hw1⟩ : ∃ W, W = w.alloc (.cells #[.slice sA sn sc, .slice cA cn cc, .int .i64 st, .bool dn, .slice eA en ec, .slice hA hn hc] 29) := ⟨_, rfl⟩
  rw [← hw1]
  have HB : Hid (Below w.heap.size w w1) := Lib.hid (by rw [hw1]; exact (Below.refl _ _).alloc (Nat.le_refl _) _)
  have HK : Hid (Blk w1 w.heap.size 29 #[.slice sA sn sc, .slice cA cn cc, .int .i64 st, .bool dn, .slice eA en ec, .slice hA hn hc]) := Lib.hid (by rw [hw1]; exact Blk.new _ _ _)
  clear hw1
  go_upto_region 2 with (go_at_call 7; go_loud (refine (head_any w1).mono ?_); rintro e w2 ⟨rfl, hb2⟩; have HK2 := Lib.hid (HK.out.below hb2); have HB2 := Lib.hid (HB.out.trans (hb2.mono HB.out.size)); clear hb2)
  have z0 : w2.cell? ⟨w.heap.size, 0, none⟩ = some (.slice sA sn sc) := HK2.out.cell 0
  have z1 : w2.cell? ⟨w.heap.size, 1, none⟩ = some (.slice cA cn cc) := HK2.out.cell 1
  have z2 : w2.cell? ⟨w.heap.size, 2, none⟩ = some (.int .i64 st) := HK2.out.cell 2
  have z3 : w2.cell? ⟨w.heap.size, 3, none⟩ = some (.bool dn) := HK2.out.cell 3
  have z4 : w2.cell? ⟨w.heap.size, 4, none⟩ = some (.slice eA en ec) := HK2.out.cell 4
  have z5 : w2.cell? ⟨w.heap.size, 5, none⟩ = some (.slice hA hn hc) := HK2.out.cell 5
  go_upto_region 3 with (go_at_call 10; go_loud (refine (check_any sA cA eA hA sn sc cn cc en ec hn hc st dn start endl l w2 (HS.out.below HB2.out) (HL.out.below HB2.out) (HE.out.below HB2.out) h1 h2 h3 hcc HSH.out HKS.out).mono ?_); rintro e w3 ⟨rfl, hb3⟩; rw [← HCI.out, ← HCE.out]; have HK3 := Lib.hid (HK2.out.below hb3); have HB3 := Lib.hid (HB2.out.trans (hb3.mono HB2.out.size)); clear hb3)
  clear z0 z1 z2 z3 z4 z5
  have z0 : w3.cell? ⟨w.heap.size, 0, none⟩ = some (.slice sA sn sc) := HK3.out.cell 0
  have z1 : w3.cell? ⟨w.heap.size, 1, none⟩ = some (.slice cA cn cc) := HK3.out.cell 1
  have z2 : w3.cell? ⟨w.heap.size, 2, none⟩ = some (.int .i64 st) := HK3.out.cell 2
  have z3 : w3.cell? ⟨w.heap.size, 3, none⟩ = some (.bool dn) := HK3.out.cell 3
  have z4 : w3.cell? ⟨w.heap.size, 4, none⟩ = some (.slice eA en ec) := HK3.out.cell 4
  have z5 : w3.cell? ⟨w.heap.size, 5, none⟩ = some (.slice hA hn hc) := HK3.out.cell 5
  go_upto_region 4 with (go_at_call 11; go_loud (refine (rcheck_any sA cA eA hA sn sc cn cc en ec hn hc st dn start endl l w3 (HS.out.below HB3.out) (HL.out.below HB3.out) (HE.out.below HB3.out) h1 h2 h3 (fun e he => ⟨Nat.le_trans (HSH.out e he).1 (by omega), Nat.le_trans (HSH.out e he).2 (by omega)⟩)).mono ?_); rintro e w4 ⟨rfl, hb4⟩; rw [← HCI.out, ← HCE.out]; have HB4 := Lib.hid (HB3.out.trans (hb4.mono HB3.out.size)); clear hb4)
  clear z0 z1 z2 z3 z4 z5
  go_wp2
  go_ret
  exact ⟨rfl, HB4.out⟩
end Go.Proofs.Ytpbnngfiinihmaa

namespace Go.Proofs.Ytpbnngfiinihmaa
open Go.ChangeShapes Go.WideShapes Go.Deep Go.RowKit
theorem bulk_one {H : Type} (d : DataW H) : 1 ≤ Rows.uptoBulk d := by
  cases d with
  | lit l => cases l <;> simp [Rows.uptoBulk]
  | _ => simp [Rows.uptoBulk]
theorem bulk_part {H : Type} {d : DataW H} {l : List (DataW H)} (h : d ∈ l) : Rows.uptoBulk d ≤ Rows.uptoBulkAll l := by
  induction l with
  | nil => cases h
  | cons x r ih =>
    simp only [Rows.uptoBulkAll]
    cases List.mem_cons.1 h with
    | inl e => subst e; omega
    | inr e => have := ih e; omega
theorem bulk_len {H : Type} (l : List (DataW H)) : l.length ≤ Rows.uptoBulkAll l := by
  induction l with
  | nil => simp [Rows.uptoBulkAll]
  | cons x r ih => have := bulk_one x; simp only [Rows.uptoBulkAll, List.length_cons]; omega
theorem bulk_slice {H : Type} (elems spare : List (DataW H)) : Rows.uptoBulkAll elems + 1 ≤ Rows.uptoBulk (.slice elems spare) := by
  simp only [Rows.uptoBulk]; omega

/-- the bytes that a slice's cells hold -/
def readBytes (w : World) : Value → List UInt8
  | .slice (some a) n _ => (List.range n).map fun j => match w.cell? (a.add j) with | some (.int _ z) => UInt8.ofNat z.toNat | _ => 0
  | _ => []
section
variable {H : Type} {enc : TypeId × Value → H} {w : World} {base : Nat} {spare : Nat → Bool} {held : Bool}
theorem cell_bt {a : Addr} {v : Value} (h : w.cell? (a.add 0) = some v) : a = ⟨a.block, a.off, none⟩ := by
  obtain ⟨b, o', s⟩ := a
  have hs : s = none := by simpa [Addr.add] using World.cell?_spot h
  subst hs
  rfl
theorem sb_of_trod {fuel : Nat} {v : Value} {y : DataW H × List MemPlace} (h : DataW.trod enc Try.prog w base spare held fuel 36 [v] = some y) : SB w (fun _ => True) v (readBytes w v) ∧ (readBytes w v).length + 1 ≤ Rows.uptoBulk y.1 := by
  rcases open_ints Try.underlying36 Try.underlying5 (by kernel_rfl) h with ⟨hcs, rfl⟩ | ⟨a, len, cap, zs, hcs, _, hl, hm, hz, rfl, hcell, hwz⟩
  · have hv : v = .slice none 0 0 := by simpa using hcs
    subst hv
    exact ⟨SB.nil _ _, by simp [readBytes, Rows.uptoBulk]⟩
  · have hv : v = .slice (some a) len cap := by simpa using hcs
    subst hv
    have hzl : len ≤ zs.length := by rw [hz]; split <;> omega
    have hrl : (readBytes w (.slice (some a) len cap)).length = len := by simp [readBytes]
    refine ⟨⟨some a, len, cap, rfl, hl, hm, hrl.symm, by rw [bvs_len, hrl, Nat.mul_one], fun hn => ?_⟩, ?_⟩
    · have ha := cell_bt (hcell 0 (by omega))
      refine ⟨a.block, a.off, by rw [← ha], trivial, fun j u hj => ?_⟩
      have hj' : j < len := by have := (List.getElem?_eq_some_iff.1 hj).1; rw [bvs_len, hrl] at this; exact this
      have hc := hcell j (by omega)
      have hz1 := hwz (zs.getD j 0) (by rw [List.getD_eq_getElem?_getD, List.getElem?_eq_getElem (by omega)]; exact List.getElem_mem (by omega))
      have hz2 : 0 ≤ zs.getD j 0 ∧ zs.getD j 0 ≤ 255 := by simpa [Lit.wf, IntKind.min, IntKind.max, IntKind.signed, IntKind.bits] using hz1
      simp only [bvs, readBytes, List.map_map, List.getElem?_map, List.getElem?_range hj', Option.map_some, Function.comp, hc] at hj
      injection hj with hj
      subst hj
      rw [ha, add_eq] at hc
      rw [hc]
      unfold bv
      congr 2
      rw [UInt8.toNat_ofNat']
      omega
    · rw [hrl]
      have h1 := bulk_slice (lits (H := H) IntKind.u8 (zs.take len)) (lits IntKind.u8 (zs.drop len))
      have h2 := bulk_len (lits (H := H) IntKind.u8 (zs.take len))
      have h3 : (lits (H := H) IntKind.u8 (zs.take len)).length = len := by simp [lits]; omega
      show len + 1 ≤ Rows.uptoBulk (.slice (lits IntKind.u8 (zs.take len)) (lits IntKind.u8 (zs.drop len)))
      omega
theorem open_slice_fields {P : Program} {t e : TypeId} {fs : Array Field} {fuel : Nat} {cs : List Value} {x : DataW H × List MemPlace} (ht : P.underlying t = some (.slice e)) (he : P.underlying e = some (.struct fs))
    (hone : oneCellFields P fs = true) (hC : P.cellsOf e = fs.size) (h : DataW.trod enc P w base spare held fuel t cs = some x) :
    (cs = [.slice none 0 0] ∧ x = (.nil, [])) ∨
    ∃ (a : Addr) (len cap m : Nat) (D : Nat → DataW H) (Pl : Nat → List MemPlace), cs = [.slice (some a) len cap] ∧ base ≤ a.block ∧ len ≤ cap ∧ cap ≤ maxLen ∧ m = (if spare a.block then cap else len) ∧
      x = (.slice ((List.range len).map D) ((List.range (m - len)).map fun j => D (len + j)), MemPlace.row a (m * fs.size) ++ (List.range m).flatMap Pl) ∧
      ∀ i, i < m → ∃ (ys : List (DataW H × List MemPlace)) (n : Nat), D i = .agg (ys.map (·.1)) ∧ Pl i = ys.flatMap (·.2) ∧ ys.length = fs.size ∧
        ∀ (j : Nat) (f : Field), fs[j]? = some f → ∃ (v : Value) (y : DataW H × List MemPlace), w.cell? (a.add (i * fs.size + j)) = some v ∧ ys[j]? = some y ∧ DataW.trod enc P w base spare held n f.type [v] = some y := by
  rcases open_slice ht h with h0 | ⟨a, len, cap, m, n, D, Pl, hcs, hb, hl, hm, hmm, hx, hi⟩
  · exact .inl h0
  · refine .inr ⟨a, len, cap, m, D, Pl, hcs, hb, hl, hm, hmm, by rw [hC] at hx; exact hx, fun i him => ?_⟩
    obtain ⟨cs', hc, ht'⟩ := hi i him
    rw [hC] at hc
    obtain ⟨ys, n', hn', hy, hlen, hyl, hf⟩ := DataW.trod_struct he ht'
    obtain ⟨_, hcl, hat⟩ := World.cells?_some hc
    simp only [Prod.mk.injEq] at hy
    refine ⟨ys, n', hy.1, hy.2, hyl, fun j f hj => ?_⟩
    obtain ⟨ho, hk⟩ := hone_of hone j f hj
    have hjl : j < fs.size := (Array.getElem?_eq_some_iff.1 hj).1
    have hcell := hat j hjl
    have hv : cs'[j]? = some (cs'[j]'(by omega)) := List.getElem?_eq_getElem (by omega)
    have h1 := hf j f hj
    rw [ho, hk] at h1
    have hone' : (cs'.drop j).take 1 = [cs'[j]'(by omega)] := by
      rw [List.drop_eq_getElem_cons (by omega)]
      rfl
    rw [hone'] at h1
    have hys : ys[j]? = some (ys[j]'(by omega)) := List.getElem?_eq_getElem (by omega)
    refine ⟨_, _, ?_, hys, h1.trans hys⟩
    rw [← Go.Deep.add_add, hcell, hv]

/-- the entry whose two slices lie at a place -/
def readEnt (w : World) (a : Addr) : Ent := (readBytes w ((w.cell? a).getD undef), readBytes w ((w.cell? (a.add 1)).getD undef))
theorem ents_of_trod {fuel : Nat} {A : Option Addr} {n c : Nat} {x : DataW H × List MemPlace} (h : DataW.trod enc Try.prog w base (fun _ => true) held fuel 27 [.slice A n c] = some x) (hb : Rows.uptoBulk x.1 ≤ 1048576) :
    ∃ l : List Ent, Ents w (fun _ => True) A n l ∧ n ≤ c ∧ c ≤ maxLen ∧ n ≤ 1048576 ∧ ∀ e ∈ l, e.1.length ≤ 1048576 ∧ e.2.length ≤ 1048576 := by
  rcases open_slice_fields Try.underlying27 Try.underlying38 (by kernel_rfl) (by kernel_rfl) h with ⟨hcs, rfl⟩ | ⟨a, len, cap, m, D, Pl, hcs, _, hl, hm, hmm, rfl, hel⟩
  · simp only [List.cons.injEq, Value.slice.injEq, and_true] at hcs
    obtain ⟨rfl, rfl, rfl⟩ := hcs
    exact ⟨[], Ents.nil _ _ _, Nat.le_refl _, by simp [maxLen], by omega, by simp⟩
  · simp only [List.cons.injEq, Value.slice.injEq, and_true] at hcs
    obtain ⟨rfl, rfl, rfl⟩ := hcs
    have hmn : n ≤ m := by rw [hmm]; split <;> omega
    have hb : Rows.uptoBulk (.slice ((List.range n).map D) ((List.range (m - n)).map fun j => D (n + j))) ≤ 1048576 := hb
    have hbs := bulk_slice ((List.range n).map D) ((List.range (m - n)).map fun j => D (n + j))
    have hlen := bulk_len ((List.range n).map D)
    rw [List.length_map, List.length_range] at hlen
    have hn : n ≤ 1048576 := by omega
    have hone : ∀ i, i < n → ∃ v0 v1, w.cell? (a.add (i * 2)) = some v0 ∧ w.cell? (a.add (i * 2 + 1)) = some v1 ∧ SB w (fun _ => True) v0 (readBytes w v0) ∧ SB w (fun _ => True) v1 (readBytes w v1) ∧ (readBytes w v0).length ≤ 1048576 ∧ (readBytes w v1).length ≤ 1048576 := by
      intro i hi
      obtain ⟨ys, k, hD, _, hyl, hf⟩ := hel i (by omega)
      obtain ⟨v0, y0, c0, e0, t0⟩ := hf 0 _ rfl
      obtain ⟨v1, y1, c1, e1, t1⟩ := hf 1 _ rfl
      obtain ⟨s0, b0⟩ := sb_of_trod t0
      obtain ⟨s1, b1⟩ := sb_of_trod t1
      have hDi : Rows.uptoBulk (D i) ≤ 1048576 := by
        have := bulk_part (d := D i) (l := (List.range n).map D) (List.mem_map.2 ⟨i, by simpa using hi, rfl⟩)
        omega
      rw [hD] at hDi
      simp only [Rows.uptoBulk] at hDi
      have p0 := bulk_part (d := y0.1) (l := ys.map (·.1)) (List.mem_map.2 ⟨y0, List.mem_of_getElem? e0, rfl⟩)
      have p1 := bulk_part (d := y1.1) (l := ys.map (·.1)) (List.mem_map.2 ⟨y1, List.mem_of_getElem? e1, rfl⟩)
      exact ⟨v0, v1, c0, c1, s0, s1, by omega, by omega⟩
    have hval : ∀ i, i < n → w.cell? (a.add (i * 2)) = some ((w.cell? (a.add (i * 2))).getD undef) ∧ w.cell? (a.add (i * 2 + 1)) = some ((w.cell? (a.add (i * 2 + 1))).getD undef) := by
      intro i hi
      obtain ⟨v0, v1, c0, c1, _⟩ := hone i hi
      rw [c0, c1]; exact ⟨rfl, rfl⟩
    let ve : Nat → Value := fun t => (w.cell? (a.add t)).getD undef
    have hve : ∀ i, i < n → SB w (fun _ => True) (ve (i * 2)) (readBytes w (ve (i * 2))) ∧ SB w (fun _ => True) (ve (i * 2 + 1)) (readBytes w (ve (i * 2 + 1))) ∧ (readBytes w (ve (i * 2))).length ≤ 1048576 ∧ (readBytes w (ve (i * 2 + 1))).length ≤ 1048576 := by
      intro i hi
      obtain ⟨v0, v1, c0, c1, s0, s1, b0, b1⟩ := hone i hi
      have e0 : ve (i * 2) = v0 := by show (w.cell? (a.add (i * 2))).getD undef = v0; rw [c0]; rfl
      have e1 : ve (i * 2 + 1) = v1 := by show (w.cell? (a.add (i * 2 + 1))).getD undef = v1; rw [c1]; rfl
      rw [e0, e1]; exact ⟨s0, s1, b0, b1⟩
    refine ⟨(List.range n).map fun i => (readBytes w (ve (i * 2)), readBytes w (ve (i * 2 + 1))), ⟨(by show n = _; simp), (List.range (n * 2)).map ve, ⟨by simp, fun h0 => ?_⟩, fun i e he => ?_⟩, hl, hm, hn, fun e he => ?_⟩
    · have ha := cell_bt (hval 0 h0).1
      refine ⟨a.block, a.off, by rw [← ha], trivial, fun j u hj => ?_⟩
      have hj2 : j < n * 2 := by have := (List.getElem?_eq_some_iff.1 hj).1; simpa using this
      rw [List.getElem?_map, List.getElem?_range hj2] at hj
      have hj : ve j = u := by simpa using hj
      have hc : w.cell? (a.add j) = some (ve j) := by
        rcases Nat.mod_two_eq_zero_or_one j with h2 | h2
        · have := (hval (j / 2) (by omega)).1
          rwa [show j / 2 * 2 = j by omega] at this
        · have := (hval (j / 2) (by omega)).2
          rwa [show j / 2 * 2 + 1 = j by omega] at this
      rw [ha, add_eq] at hc
      rw [hc, hj]
    · have hi : i < n := by have := (List.getElem?_eq_some_iff.1 he).1; simpa using this
      rw [List.getElem?_map, List.getElem?_range hi] at he
      have he : (readBytes w (ve (i * 2)), readBytes w (ve (i * 2 + 1))) = e := by simpa using he
      subst he
      obtain ⟨s0, s1, _⟩ := hve i hi
      refine ⟨_, _, ?_, ?_, s0, s1⟩
      · rw [List.getElem?_map, List.getElem?_range (by omega), show 2 * i = i * 2 by omega]; rfl
      · rw [List.getElem?_map, List.getElem?_range (by omega), show 2 * i + 1 = i * 2 + 1 by omega]; rfl
    · obtain ⟨i, hi, rfl⟩ := List.mem_map.1 he
      obtain ⟨_, _, b0, b1⟩ := hve i (by simpa using hi)
      exact ⟨b0, b1⟩
end
end Go.Proofs.Ytpbnngfiinihmaa
