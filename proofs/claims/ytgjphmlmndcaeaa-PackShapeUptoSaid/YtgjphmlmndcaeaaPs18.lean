/- Levels in memory: a row of chains. No program in sight. WALKS: all levels of a tree (shape.levels): the deferred closure where nothing has gone wrong; parts of a round. WALKS: a whole tree looked at (shape.Check): where all is right. WALKS: is a tree packed (shape.Packed): one level. -/
import Derived.Test.YtgjphmlmndcaeaaPs17
import Derived.Defers
import Derived.Recover
import Derived.Lib.SliceRun
set_option linter.unusedVariables false
set_option linter.unusedSimpArgs false
namespace Go.Proofs.Ytgjphmlmndcaeaa
open Go.RowKit
/-- chains in a row that is being made: j are there -/
structure AllR (w : World) (base : Nat) (out : Value) (j : Nat) (us : List Value) (g : Nat → List Lk) : Prop where
  own : w.ownsRow base 104 1 out j us
  at_ : ∀ t, t < j → ∃ A c, us[t]? = some (.slice A (g t).length c) ∧ Lks w (fun b => base ≤ b ∧ out.ownBlock ≠ some b) A (g t).length (g t)
/-- chains in a slice of n -/
def AllV (w : World) (D : Nat → Prop) (A : Option Addr) (n : Nat) (g : Nat → List Lk) : Prop :=
  ∃ us, Rd w D 1 A n us ∧ ∀ t, t < n → ∃ B c, us[t]? = some (.slice B (g t).length c) ∧ Lks w D B (g t).length (g t)
section
variable {S D D' : Nat → Prop} {w w' : World} {us : List Value} {A : Option Addr} {n base j : Nat} {out : Value} {g : Nat → List Lk}
theorem AllR.nil (w : World) (base : Nat) (g : Nat → List Lk) : AllR w base (.slice none 0 0) 0 [] g := ⟨World.ownsRow_nil _ _ _ _, fun t ht => absurd ht (by omega)⟩
theorem AllR.chg (h : AllR w base out j us g) (hc : Chg S w w') (hs : ∀ b, base ≤ b → ¬ S b) : AllR w' base out j us g :=
  ⟨own_chg h.own hc (fun b hb => hs b (own_lt h.own b hb).1), fun t ht => let ⟨A, c, a, b⟩ := h.at_ t ht; ⟨A, c, a, b.next hc (fun x _ hx => hs x hx.1) (fun _ _ hx => hx)⟩⟩
theorem AllR.below (h : AllR w base out j us g) (hb : Below w.heap.size w w') : AllR w' base out j us g :=
  ⟨own_below h.own hb, fun t ht => let ⟨A, c, a, b⟩ := h.at_ t ht; ⟨A, c, a, b.below hb⟩⟩
/-- one chain more -/
theorem AllR.push {v2 : Value} {B : Option Addr} {c : Nat} (h : AllR w base out j us g) (ho : w'.ownsRow base 104 1 v2 (j + 1) (us ++ [.slice B (g j).length c])) (hg : w.grownBy w' out.ownBlock) (hat : v2.ownBlock = out.ownBlock ∨ v2.ownBlock = some w.heap.size)
    (hx : Lks w (fun b => base ≤ b ∧ out.ownBlock ≠ some b) B (g j).length (g j)) : AllR w' base v2 (j + 1) (us ++ [.slice B (g j).length c]) g := by
  have hl : us.length = j := by have := h.own.1; omega
  have key : ∀ b, b < w.heap.size → (base ≤ b ∧ out.ownBlock ≠ some b) → (base ≤ b ∧ v2.ownBlock ≠ some b) := fun b hb hx => ⟨hx.1, fun e => by
    rcases hat with h | h
    · exact hx.2 (h ▸ e)
    · rw [h] at e; injection e with e; omega⟩
  refine ⟨ho, fun t ht => ?_⟩
  by_cases htj : t = j
  · subst htj
    exact ⟨B, c, by rw [List.getElem?_append_right (by omega), hl, Nat.sub_self]; rfl, hx.next (Chg.of_grown hg) (fun b _ hb e => hb.2 e) key⟩
  · obtain ⟨A, c', a, b⟩ := h.at_ t (by omega)
    exact ⟨A, c', by rw [List.getElem?_append_left (by omega)]; exact a, b.next (Chg.of_grown hg) (fun b _ hb e => hb.2 e) key⟩
theorem AllR.all {c : Nat} (h : AllR w base (.slice A n c) n us g) : AllV w (From base) A n g :=
  ⟨us, Rd.of_own h.own, fun t ht => let ⟨B, c, a, b⟩ := h.at_ t ht; ⟨B, c, a, b.weak (fun _ hb => hb.1)⟩⟩
theorem AllV.next (h : AllV w D A n g) (hc : Chg S w w') (hs : ∀ b, b < w.heap.size → D b → ¬ S b) (hD : ∀ b, b < w.heap.size → D b → D' b) : AllV w' D' A n g :=
  let ⟨us, h2, h3⟩ := h; ⟨us, ((h2.lt (by omega)).chg hc (fun b hb => hs b hb.2 hb.1)).weak (fun b hb => hD b hb.2 hb.1), fun t ht => let ⟨B, c, a, b⟩ := h3 t ht; ⟨B, c, a, b.next hc hs hD⟩⟩
theorem AllV.weak (h : AllV w D A n g) (hD : ∀ b, D b → D' b) : AllV w D' A n g := h.next (Chg.refl Nil w) (fun _ _ _ h => h) (fun b _ hb => hD b hb)
theorem AllV.below (h : AllV w D A n g) (hb : Below w.heap.size w w') : AllV w' D A n g := h.next (Chg.of_below (S := Nil) hb) (fun _ _ _ h => h) (fun _ _ hb => hb)
theorem AllV.at_ {t : Nat} (h : AllV w D A n g) (ht : t < n) : ∃ b o B c, A = some ⟨b, o, none⟩ ∧ D b ∧ w.cell? ⟨b, o + t, none⟩ = some (.slice B (g t).length c) ∧ Lks w D B (g t).length (g t) := by
  obtain ⟨us, h2, h3⟩ := h
  obtain ⟨b, o, u, hA, hD, e, c1⟩ := h2.at_ ht
  obtain ⟨B, c, e2, hl⟩ := h3 t ht
  rw [e] at e2
  injection e2 with e2
  subst e2
  exact ⟨b, o, B, c, hA, hD, c1, hl⟩
end
/-- a tree whose levels are right: level k has N k nodes behind d k slots -/
structure TreeOk (sl : List Slt) (root nd lf : Int) (inn L : Nat) (N d : Nat → Nat) (X : Nat → Nat → Nd) : Prop where
  root : root = (d L : Int) + 1
  top : N L = 1
  deep : L ≤ 31
  pos : ∀ k, 1 ≤ N k
  base : d 0 = 0
  step : ∀ k, d (k + 1) = d k + N k
  lv : ∀ k, k ≤ L → LvOk sl nd lf inn k (d k) (N k) (X k)
  kids : ∀ k, k < L → KidsOk (N (k + 1)) (N k) (d k) (X (k + 1)) (X k)
  kid0 : ∀ k, k < L → (X (k + 1) 0).kids[0]? = some ((d k : Int) + 1)
  klen : ∀ k i, k ≤ L → i < N k → (X k i).kids.length ≤ 1000
  even : ∀ s ∈ sl, 0 ≤ s.1 ∧ s.1 ≤ 4611686018427387904 ∧ s.1 % 2 = 0
/-- the links of level k -/
def lksOf (N d : Nat → Nat) (X : Nat → Nat → Nd) (k : Nat) : List Lk := (List.range (N k)).map (lkAt (d k) (X k))
theorem lksOf_len (N d : Nat → Nat) (X : Nat → Nat → Nd) (k : Nat) : (lksOf N d X k).length = N k := by simp [lksOf]
theorem TreeOk.mono {sl : List Slt} {root nd lf : Int} {inn L : Nat} {N d : Nat → Nat} {X : Nat → Nat → Nd} (h : TreeOk sl root nd lf inn L N d X) {j k : Nat} (hjk : j ≤ k) : d j ≤ d k := by
  induction k with
  | zero => have : j = 0 := by omega
            subst this; exact Nat.le_refl _
  | succ k ih =>
    rcases Nat.lt_or_ge k j with h2 | h2
    · have : j = k + 1 := by omega
      subst this; exact Nat.le_refl _
    · exact Nat.le_trans (ih h2) (by rw [h.step]; omega)
theorem TreeOk.fit {sl : List Slt} {root nd lf : Int} {inn L : Nat} {N d : Nat → Nat} {X : Nat → Nat → Nd} (h : TreeOk sl root nd lf inn L N d X) {k : Nat} (hk : k ≤ L) : d k + N k ≤ sl.length := by
  have hp := h.pos k
  obtain ⟨s, hs, _⟩ := (h.lv k hk).at_ (N k - 1) (by omega)
  have := (List.getElem?_eq_some_iff.1 hs).1
  omega
end Go.Proofs.Ytgjphmlmndcaeaa

namespace Go.Proofs.Ytgjphmlmndcaeaa
open Go.RowKit Go.Maps
theorem levels_idle (p q : Addr) (w : World) :
    CallsD Try.prog 74 #[.pointer (some p), .pointer (some q)] .returning w fun e u' w' => e = .returned (.tuple #[]) ∧ u' = .returning ∧ w' = w := by
  refine callsD_of_wpS Try.func74 rfl fun c₀ cs hu => ?_
  apply wpS_seq
  apply wpS_region
  simp [wpOpsS, go_sem, recoverD, hu, Try.ntmps74, Exit.thenS]
  apply wpS_seq
  apply wpS_region
  simp [wpOpsS, go_sem, Exit.thenS]
  refine wpS_cond (t := false) (by simp [Act.eval, Array.replicate]) ?_
  simp only [Bool.false_eq_true, if_false]
  refine wpS_of_wp (wp_skip ?_)
  cases c₀
  simp_all [bodyPostS, results, Try.results74]
theorem links_info : (Try.prog.info? 104).map (fun i => (i.zero, i.size, i.bytes)) = some (some (.slice none 0 0), 1, 24) := by kernel_rfl
noncomputable def lvAppC : Code := codeOr (Try.f47.body.bind (regionAt 19))
set_option maxRecDepth 100000 in
theorem lv_app (base q j m c : Nat) (B : Option Addr) (out : Value) (us : List Value) (g : Nat → List Lk) (w : World) (ds : List _) {u0 u1 u2 u3 u5 u6 u7 u8 u9 u10 u11 u12 u13 u15 u16 u17 u18 u19 u20 u21 u22 u23 u24 u25 u26 u27 u28 u29 u30 u31 u32 u33 u34 u35 u36 u37 u38 u39 u40 u41 u42 u43 u44 u45 u46 u47 u48 u49 u50 u51 u52 u53 u54 u55 u56 u57 u58 u59 u60 u61 u62 u63 u64 u65 u66 u67 u68 u69 u70 u71 u72 u73 u74 u75 u76 u77 u78 u79 u80 u81 u82 u83 u84 : Value} (Q : Exit → Act → World → Prop)
    (HK : Hid (Blk w q 99 #[out])) (HA : Hid (AllR w base out j us g)) (HL : Hid (Lks w (fun b => base ≤ b ∧ out.ownBlock ≠ some b) B m (g j))) (hm : m = (g j).length) (hj : j ≤ 1000) (hbase : base ≤ w.heap.size) (hq : q < base)
    (hexit : ∀ (out2 : Value) (v69 v70 v71 v72 : Value) (w' : World), Blk w' q 99 #[out2] → AllR w' base out2 (j + 1) (us ++ [.slice B m c]) g → Chg (fun b => b = q ∨ base ≤ b) w w' → Q .normal ⟨(u0 :: u1 :: u2 :: u3 :: .pointer (some ⟨q, 0, none⟩) :: u5 :: u6 :: u7 :: u8 :: u9 :: u10 :: u11 :: u12 :: u13 :: .slice B m c :: u15 :: u16 :: u17 :: u18 :: u19 :: u20 :: u21 :: u22 :: u23 :: u24 :: u25 :: u26 :: u27 :: u28 :: u29 :: u30 :: u31 :: u32 :: u33 :: u34 :: u35 :: u36 :: u37 :: u38 :: u39 :: u40 :: u41 :: u42 :: u43 :: u44 :: u45 :: u46 :: u47 :: u48 :: u49 :: u50 :: u51 :: u52 :: u53 :: u54 :: u55 :: u56 :: u57 :: u58 :: u59 :: u60 :: u61 :: u62 :: u63 :: u64 :: u65 :: u66 :: u67 :: u68 :: v69 :: v70 :: v71 :: v72 :: u73 :: u74 :: u75 :: u76 :: u77 :: u78 :: u79 :: u80 :: u81 :: u82 :: u83 :: u84 :: []).toArray, ds⟩ w') :
    Code.wp Try.prog lvAppC Q ⟨(u0 :: u1 :: u2 :: u3 :: .pointer (some ⟨q, 0, none⟩) :: u5 :: u6 :: u7 :: u8 :: u9 :: u10 :: u11 :: u12 :: u13 :: .slice B m c :: u15 :: u16 :: u17 :: u18 :: u19 :: u20 :: u21 :: u22 :: u23 :: u24 :: u25 :: u26 :: u27 :: u28 :: u29 :: u30 :: u31 :: u32 :: u33 :: u34 :: u35 :: u36 :: u37 :: u38 :: u39 :: u40 :: u41 :: u42 :: u43 :: u44 :: u45 :: u46 :: u47 :: u48 :: u49 :: u50 :: u51 :: u52 :: u53 :: u54 :: u55 :: u56 :: u57 :: u58 :: u59 :: u60 :: u61 :: u62 :: u63 :: u64 :: u65 :: u66 :: u67 :: u68 :: u69 :: u70 :: u71 :: u72 :: u73 :: u74 :: u75 :: u76 :: u77 :: u78 :: u79 :: u80 :: u81 :: u82 :: u83 :: u84 :: []).toArray, ds⟩ w := by
  have HEX := Lib.hid hexit
  have z0 : w.cell? ⟨q, 0, none⟩ = some out := HK.out.cell 0
  obtain ⟨i0, hi0, iz0, iz1, iz2⟩ := info_parts links_info
  have HMM := Lib.hid hm
  clear hexit hm
  conv => arg 2; whnf
  go_wp2_with (at_builtin; go_loud (refine wpList_append_any _ rfl (.tmp 69) (.tmp 71) _ rfl base 104 i0 _ 1 24 Try.underlying99 hi0 iz0 iz1 iz2 rfl (by omega) out j us rfl (own_below HA.out.own ((Below.refl _ _).alloc (Nat.le_refl _) _)) (From w.heap.size) (some ⟨w.heap.size, 0, none⟩) 1 1 [.slice B m c] rfl (Rd.one w (.slice B m c) 104) (by simp [Value.oneCell']) (by simp only [maxLen]; omega) (by omega) (by simp; omega) ?_); intro v6 w6 hown6 hg6 hat6; obtain ⟨g6, gc6, hv6, _, _⟩ := hown6.form (by omega); subst hv6; have HO6 := Lib.hid hown6; have HG6 := Lib.hid hg6; have HA6 := Lib.hid hat6; have K6 := Lib.hid ((HK.out.alloc (.cells #[.slice B m c] 104)).chg (Chg.of_grown hg6) (fun e => by have := (own_lt HA.out.own q e).1; omega)); have y0 : w6.cell? ⟨q, 0, none⟩ = some out := K6.out.cell 0; have yf := K6.out.frozen; clear hown6 hg6 hat6)
  obtain ⟨wa, hwa⟩ : ∃ W, W = w.alloc (.cells #[.slice B m c] 104) := ⟨_, rfl⟩
  rw [← hwa] at HG6 HA6
  have hba : Below w.heap.size w wa := by rw [hwa]; exact (Below.refl _ _).alloc (Nat.le_refl _) _
  have hown : Chg (fun b => out.ownBlock = some b) wa w6 := Chg.of_grown HG6.out
  have hob : ∀ g, out.ownBlock = some g → base ≤ g := fun g hg => (own_lt HA.out.own g hg).1
  subst hwa
  have hm := HMM.out
  subst hm
  have hpush := (HA.out.below hba).push (c := c) (B := B) HO6.out HG6.out HA6.out (HL.out.below hba)
  have hset : Chg (fun b => b = q ∨ base ≤ b) w6 (w6.setCell ⟨q, 0, none⟩ (.slice (some ⟨g6, 0, none⟩) (j + 1) gc6)) := (Chg.refl _ _).setCell (p := ⟨q, 0, none⟩) (fun _ => .inl rfl) _
  have hall : Chg (fun b => b = q ∨ base ≤ b) w (w6.setCell ⟨q, 0, none⟩ (.slice (some ⟨g6, 0, none⟩) (j + 1) gc6)) := ((Chg.of_below (S := fun b => b = q ∨ base ≤ b) hba).trans hown (fun b _ hb => .inr (hob b hb))).trans hset (fun b _ hb => hb)
  exact HEX.out _ _ _ _ _ _ (K6.out.set_ 0 _) (hpush.chg (Chg.set1 w6 q 0 _) (fun b hb h => by have h : b = q := h; omega)) hall
set_option maxRecDepth 100000 in
set_option maxHeartbeats 4000000 in
theorem levels_any (F : Nat → Prop) (p : Nat) (nodes root : Int) (sl : List Slt) (nd lf fl bl : Int) (inn L : Nat) (N d : Nat → Nat) (X : Nat → Nat → Nd) (w : World) (hx : ArX w F p nodes sl root) (hn : sl.length ≤ 65536) (hF : ∀ b, F b → b < w.heap.size) (hc' : cfgOk nd lf inn fl bl)
    (ht : TreeOk sl root nd lf inn L N d X) :
    Calls Try.prog 47 #[.pointer (some ⟨p, 0, none⟩), .agg #[.int .i64 nd, .int .i64 lf, .int .i64 inn, .int .i64 fl, .int .i64 bl]] w fun e w' => ∃ A c, e = .returned (.tuple #[.slice A (L + 1) c, .agg #[.int .i64 0, .int .i64 0]]) ∧ L + 1 ≤ c ∧ c ≤ maxLen ∧
      AllV w' (From w.heap.size) A (L + 1) (fun t => lksOf N d X (L - t)) ∧ Below w.heap.size w w' := by
  have HX := Lib.hid hx
  have HT := Lib.hid ht
  have HC := Lib.hid hc'
  have HNS := Lib.hid hn
  have HF := Lib.hid hF
  have hmf : ∀ (fn : Fn) (first cap : Array Value) (w : World), (Instr.makeFunc fn first cap).run Try.prog w = .ok (.func fn first cap) w := fun _ _ _ _ => rfl
  have hmm := @run_makeMap Try.prog
  have hdL : d L + 1 ≤ 65536 := by have := ht.fit (Nat.le_refl L); have := ht.top; omega
  have HR := Lib.hid ht.root
  have hdeep := ht.deep
  clear hx hn hF hc' ht
  go_enter_defers Try.func47, Try.ntmps47
  go_upto_region 3 with (go_at_call 75; refine (need_true _ _ _).mono ?_; rintro e w' ⟨rfl, rfl⟩)
  obtain ⟨w3, hw3⟩ : ∃ W, W = (((w.alloc (.cells #[.int .i64 nd, .int .i64 lf, .int .i64 inn, .int .i64 fl, .int .i64 bl] 23)).alloc (.cells #[.slice none 0 0] 99)).alloc (.cells #[.int .i64 0, .int .i64 0] 101)) := ⟨_, rfl⟩
  rw [← hw3]
  obtain ⟨k0, k1, k2, hb3⟩ := three_blk' w 23 99 101 #[.int .i64 nd, .int .i64 lf, .int .i64 inn, .int .i64 fl, .int .i64 bl] #[.slice none 0 0] #[.int .i64 0, .int .i64 0]
  rw [← hw3] at k0 k1 k2 hb3
  have HB3 := Lib.hid hb3
  have HK3 := Lib.hid (And.intro k0 (And.intro k1 k2))
  obtain ⟨y0, y1, y2, y3, y4⟩ := cf_of k0
  clear hw3 k0 k1 k2 hb3
  have HAT : Hid (∃ s, sl[((d L : Int) + 1).toNat - 1]? = some s ∧ s.2 = X L 0 ∧ Small s.2) := Lib.hid (by
    have h0 := (HT.out.lv L (Nat.le_refl L)).at_ 0 (by have := HT.out.top; omega)
    rw [show ((d L : Int) + 1).toNat - 1 = d L + 0 by omega]
    exact h0)
  have hlv0 : (X L 0).lev = (L : Int) := (HT.out.lv L (Nat.le_refl L)).lev 0 (by have := HT.out.top; omega)
  obtain ⟨x, hxx⟩ : ∃ Y, Y = X L 0 := ⟨_, rfl⟩
  rw [← hxx] at HAT hlv0
  have HLV0 := Lib.hid hlv0
  clear hxx hlv0
  have hce := cfgE_ok HC.out
  go_upto_region 6 with (first | (go_at_call 75; refine (need_true _ _ _).mono ?_; rintro e w' ⟨rfl, rfl⟩) | (go_at_call 30; refine (config_any nd lf inn fl bl _).mono ?_; rintro e w4 ⟨rfl, hb4⟩; rw [hce]; have HB4 := Lib.hid hb4; clear hb4) | (go_at_call 29; go_loud (refine (held_any F p nodes root sl _ (HX.out.below (HB3.out.trans (HB4.out.mono HB3.out.size))) HNS.out (fun s hs => ⟨(HT.out.even s hs).1, (HT.out.even s hs).2.1⟩)).mono ?_); rw [heldTo_even (fun s hs => (HT.out.even s hs).2.2) _]; rintro e w5 ⟨A5, n5, c5, rfl, hi5, _, hb5⟩; have hn5 : n5 = 0 := hi5.len; subst hn5; have HB5 := Lib.hid hb5; clear hi5 hb5))
  have HB5' : Hid (Below w.heap.size w w5) := Lib.hid ((HB3.out.trans (HB4.out.mono HB3.out.size)).trans (HB5.out.mono (Nat.le_trans HB3.out.size HB4.out.size)))
  have hb35 : Below w3.heap.size w3 w5 := HB4.out.trans (HB5.out.mono HB4.out.size)
  have HK5 := Lib.hid (And.intro (HK3.out.1.below hb35) (And.intro (HK3.out.2.1.below hb35) (HK3.out.2.2.below hb35)))
  clear hb35 y0 y1 y2 y3 y4 HB3 HB4 HB5 HK3
  go_loopg [28] 0 (fun g' iv wr => iv = .int .i64 0 ∧ wr = w5)
  case atStart => exact ⟨rfl, rfl⟩
  case round =>
    obtain ⟨rfl, rfl⟩ := hrel
    rename World => w5
    obtain ⟨mb, hmb⟩ : ∃ Y, Y = w5.heap.size := ⟨_, rfl⟩
    have hbm : Below w5.heap.size w5 (w5.alloc (.map #[] 0)) := (Below.refl _ _).alloc (Nat.le_refl _) _
    have HBM := Lib.hid hbm
    have HBM' : Hid (Below w.heap.size w (w5.alloc (.map #[] 0))) := Lib.hid (HB5'.out.trans (hbm.mono HB5'.out.size))
    clear hbm
    go_wp2_with (first | (go_at_call 48; refine (root_any F p nodes root sl _ (HX.out.below HBM'.out)).mono ?_; rintro e w' ⟨rfl, rfl⟩; rw [HR.out]) | (go_at_call 49; go_loud (refine (read_at F p nodes root sl ((d L : Int) + 1) x _ (HX.out.below HBM'.out) (by omega) HNS.out HAT.out).mono ?_); rintro e w6 ⟨hA, hn', hc, kA, kn, kc, vA, vn, vc, dA, dn, dc, rfl, hv6, hb6⟩; have HB6 := Lib.hid hb6; clear hv6 hb6) | (go_at_call 75; refine (need_true _ _ _).mono ?_; rintro e w' ⟨rfl, rfl⟩))
    rw [HLV0.out]
    obtain ⟨w7, hw7⟩ : ∃ W, W = w6.alloc (.cells #[.int .i64 (L : Int), .slice hA hn' hc, .int .i64 x.right, .slice kA kn kc, .slice vA vn vc, .slice dA dn dc] 93) := ⟨_, rfl⟩
    rw [← hw7, ← hmb]
    have hb57 : Below w5.heap.size w5 w7 := by rw [hw7]; exact (HBM.out.trans (HB6.out.mono HBM.out.size)).alloc (Nat.le_trans HBM.out.size HB6.out.size) _
    have HB7 : Hid (Below w.heap.size w w7) := Lib.hid (HB5'.out.trans (hb57.mono HB5'.out.size))
    have HK7 := Lib.hid (And.intro (HK5.out.1.below hb57) (And.intro (HK5.out.2.1.below hb57) (HK5.out.2.2.below hb57)))
    have HM7 : Hid (MapII w7 mb 0 (fun _ => 0)) := Lib.hid (by
      have h1 := (MapII.made w5).below (HB6.out.alloc HB6.out.size (.cells #[.int .i64 (L : Int), .slice hA hn' hc, .int .i64 x.right, .slice kA kn kc, .slice vA vn vc, .slice dA dn dc] 93))
      rw [hw7, hmb]; exact h1)
    have hmb7 : mb < w7.heap.size := HM7.out.lt
    have hmbw : w.heap.size + 1 + 1 < mb := by have := HK5.out.2.2.lt; omega
    have HFM : Hid (∀ b, F b → b < w.heap.size) := HF
    obtain ⟨B, hB⟩ : ∃ Y, Y = w7.heap.size := ⟨_, rfl⟩
    rw [← hB] at hmb7
    clear hw7 hb57 HBM HBM' HB6 HB5' HK5 HAT HLV0 hmb hce
    have HBSZ : Hid (B = w7.heap.size) := Lib.hid hB
    clear hB
    go_loopg [10, 13] (L + 1) (fun g' fv lv wr => ∃ (k : Nat) (out : Value) (us : List Value), g' = k + 1 ∧ k ≤ L ∧ fv = .int .i64 ((d k : Int) + 1) ∧ lv = .int .i64 (k : Int) ∧ (Blk wr w.heap.size 23 #[.int .i64 nd, .int .i64 lf, .int .i64 inn, .int .i64 fl, .int .i64 bl] ∧ Blk wr (w.heap.size + 1) 99 #[out] ∧ Blk wr (w.heap.size + 1 + 1) 101 #[.int .i64 0, .int .i64 0]) ∧
      AllR wr B out (L - k) us (fun t => lksOf N d X (L - t)) ∧ MapII wr mb (d (L + 1) - d (k + 1)) (fun y => if (d (k + 1) : Int) + 1 ≤ y ∧ y ≤ (d (L + 1) : Int) then 1 else 0) ∧ B ≤ wr.heap.size ∧ Below w.heap.size w wr)
    case atStart =>
      have e : (fun y => if (d (L + 1) : Int) + 1 ≤ y ∧ y ≤ (d (L + 1) : Int) then (1 : Int) else 0) = fun _ => 0 := by funext y; rw [if_neg (by omega)]
      refine ⟨L, _, [], rfl, Nat.le_refl _, rfl, rfl, HK7.out, ?_, ?_, by have := HBSZ.out; omega, HB7.out⟩
      · rw [Nat.sub_self]; exact AllR.nil _ _ _
      · rw [e]; exact HM7.out.mono (Nat.zero_le _)
    case round =>
      obtain ⟨k, out, us, hg, hk, rfl, rfl, hks, hall, hmap, hsz, hb⟩ := hrel
      have HG := Lib.hid hg
      have HKS := Lib.hid hks
      have HALL := Lib.hid hall
      have HMP := Lib.hid hmap
      have HB := Lib.hid hb
      rename World => wr
      clear hg hks hall hmap hb HK7 HM7 HB7 HBSZ
      obtain ⟨n, hnn⟩ : ∃ Y, Y = L - k := ⟨_, rfl⟩
      rw [← hnn] at HALL
      obtain ⟨Ao, co, rfl, _, _⟩ := own_val HALL.out.own
      have hdk := HT.out.step k
      have hdl : d (L + 1) = d L + 1 := by rw [HT.out.step, HT.out.top]
      have hdm : d (k + 1) ≤ d (L + 1) := HT.out.mono (by omega)
      have hnk : L - n = k := by omega
      have hnL : n ≤ L := by omega
      have HNN := Lib.hid hnn
      have hNk := HT.out.fit hk
      have hNk2 : N k ≤ 65536 := by have := HNS.out; omega
      have hn0 : k < L → 0 < n := by omega
      have hn1 : ¬ k < L → n = 0 := by omega
      have hkn : k < L → L - (n - 1) = k + 1 := by omega
      clear hnn
      obtain ⟨y0, y1, y2, y3, y4⟩ := cf_of HKS.out.1
      go_upto_region 17 with (go_at_call 76; go_loud (refine (chain_any F p mb (d (L + 1) - d (k + 1)) nodes root sl nd lf fl bl inn k (d k) (N k) (X k) _ wr (HX.out.below HB.out) HNS.out (fun h => by have := HF.out mb h; omega) HC.out (HT.out.lv k hk) (HT.out.pos k) (by omega) HMP.out (by omega) (fun j hj => by rw [if_neg (by omega)])).mono ?_); rintro e w1 ⟨A, c, rfl, q1, q2, hl1, hm1, hc1⟩; have HL1 := Lib.hid hl1; have HM1 := Lib.hid hm1; have HC1 := Lib.hid hc1; clear hl1 hm1 hc1)
      have HK1 := Lib.hid (And.intro (HKS.out.1.chg HC1.out (fun h => by have h : w.heap.size = mb := h; omega)) (And.intro (HKS.out.2.1.chg HC1.out (fun h => by have h : w.heap.size + 1 = mb := h; omega)) (HKS.out.2.2.chg HC1.out (fun h => by have h : w.heap.size + 1 + 1 = mb := h; omega))))
      have HALL1 := Lib.hid (HALL.out.chg HC1.out (fun b hb h => by have h : b = mb := h; omega))
      have HB1 : Hid (Below w.heap.size w w1) := Lib.hid (HB.out.trans (HC1.out.below_of HB.out.size (fun b hb h => by have h : b = mb := h; omega)))
      have hs1 : wr.heap.size ≤ w1.heap.size := HC1.out.size
      have HLK1 : Hid (Lks w1 (fun b => B ≤ b ∧ (Value.slice Ao n co).ownBlock ≠ some b) A (N k) (lksOf N d X k)) := Lib.hid (HL1.out.weak (fun b hb => ⟨Nat.le_trans hsz hb, fun e => by have h1 := (own_lt HALL.out.own b e).2; have hb : wr.heap.size ≤ b := hb; omega⟩))
      have HMQ : Hid (MapII w1 mb (d (L + 1) - d k) (fun y => if (d k : Int) + 1 ≤ y ∧ y ≤ (d (L + 1) : Int) then 1 else 0)) := Lib.hid (by
        have e : (fun y => if (d k : Int) + 1 ≤ y ∧ y ≤ (d k : Int) + (N k : Int) then (1 : Int) else (if (d (k + 1) : Int) + 1 ≤ y ∧ y ≤ (d (L + 1) : Int) then 1 else 0)) = fun y => if (d k : Int) + 1 ≤ y ∧ y ≤ (d (L + 1) : Int) then 1 else 0 := by
          funext y
          by_cases h1 : (d k : Int) + 1 ≤ y ∧ y ≤ (d k : Int) + (N k : Int)
          · rw [if_pos h1, if_pos (by omega)]
          · rw [if_neg h1]
            by_cases h2 : (d (k + 1) : Int) + 1 ≤ y ∧ y ≤ (d (L + 1) : Int)
            · rw [if_pos h2, if_pos (by omega)]
            · rw [if_neg h2, if_neg (by omega)]
        rw [← e]
        exact HM1.out.mono (by omega))
      have x1 : w1.cell? ⟨w.heap.size + 1, 0, none⟩ = some (.slice Ao n co) := HK1.out.2.1.cell 0
      clear HL1 HM1 HC1 HALL HKS HMP HB y0 y1 y2 y3 y4
      by_cases hkL : k < L
      · have hp1 := hn0 hkL
        have eN := hkn hkL
        have hp0 : (0 : Int) < (n : Int) := by omega
        clear hn0 hn1 hkn
        have hi1 := IntWalk.i64_in ((n : Int) - 1) (by omega)
        have hi2 : 0 ≤ (n : Int) - 1 := by omega
        have hi3 : (n : Int) - 1 < (n : Int) := by omega
        have hi4 : ((n : Int) - 1).toNat = n - 1 := by omega
        obtain ⟨bo, oo, Bu, cu, hAo, _, cu1, hlu⟩ := HALL1.out.all.at_ (t := n - 1) (by omega)
        subst hAo
        rw [eN, lksOf_len] at cu1 hlu
        have HLU := Lib.hid hlu
        have hf1 := HT.out.fit (k := k + 1) (by omega)
        have hNk1 : N (k + 1) ≤ 65536 := by have := HNS.out; omega
        clear hlu
        go_upto_region 19 with (go_at_call 77; go_loud (refine (children_any _ _ Bu A (N (k + 1)) cu (N k) c (d (k + 1)) (d k) (X (k + 1)) (X k) _ HLU.out HLK1.out (HT.out.kids k hkL) (by omega) (by omega) (by omega) (fun i hi => HT.out.klen (k + 1) i (by omega) hi)).mono ?_); rintro e w2 ⟨rfl, hb2⟩; have HBC := Lib.hid hb2; clear hb2)
        have HK2 := Lib.hid (And.intro (HK1.out.1.below HBC.out) (And.intro (HK1.out.2.1.below HBC.out) (HK1.out.2.2.below HBC.out)))
        have HALL2 := Lib.hid (HALL1.out.below HBC.out)
        have HL2 := Lib.hid (HLK1.out.below HBC.out)
        have HM2 := Lib.hid (HMQ.out.below HBC.out)
        have HB2 := Lib.hid (HB1.out.trans (HBC.out.mono HB1.out.size))
        have hs2 : B ≤ w2.heap.size := by have := HBC.out.size; omega
        clear HK1 HALL1 HLK1 HMQ HB1 HBC HLU x1 cu1
        go_upto_region 19 with fail
        refine lv_app B (w.heap.size + 1) n (N k) c A (.slice (some ⟨bo, oo, none⟩) n co) us (fun t => lksOf N d X (L - t)) _ _ _ (Lib.hid HK2.out.2.1) HALL2 (by show Hid (Lks _ _ _ _ (lksOf N d X (L - n))); rw [hnk]; exact HL2) (by show N k = (lksOf N d X (L - n)).length; rw [hnk, lksOf_len]) (by omega) (by omega) (by omega) ?_
        intro out2 v69 v70 v71 v72 w4 hk4 hall4 hc4
        have HK4 : Hid (Blk w4 w.heap.size 23 #[.int .i64 nd, .int .i64 lf, .int .i64 inn, .int .i64 fl, .int .i64 bl] ∧ Blk w4 (w.heap.size + 1) 99 #[out2] ∧ Blk w4 (w.heap.size + 1 + 1) 101 #[.int .i64 0, .int .i64 0]) := Lib.hid ⟨HK2.out.1.chg hc4 (fun h => by omega), hk4, HK2.out.2.2.chg hc4 (fun h => by omega)⟩
        have HALL4 := Lib.hid hall4
        have HM4 := Lib.hid (HM2.out.chg hc4 (fun h => by omega))
        have HB4 : Hid (Below w.heap.size w w4) := Lib.hid (HB2.out.trans (hc4.below_of HB2.out.size (fun b hb h => by omega)))
        have hs4 : B ≤ w4.heap.size := Nat.le_trans hs2 hc4.size
        clear hk4 hall4 hc4
        obtain ⟨A4, c4, rfl, a41, a42⟩ := own_val HALL4.out.own
        by_cases hk0 : k = 0
        · subst hk0
          have z0 : w4.cell? ⟨w.heap.size + 1, 0, none⟩ = some (.slice A4 (n + 1) c4) := HK4.out.2.1.cell 0
          have zf := HK4.out.2.1.frozen
          have z1 : w4.cell? ⟨w.heap.size + 1 + 1, 0, none⟩ = some (.int .i64 0) := HK4.out.2.2.cell 0
          have z2 : w4.cell? ⟨w.heap.size + 1 + 1, 1, none⟩ = some (.int .i64 0) := HK4.out.2.2.cell 1
          have zg := HK4.out.2.2.frozen
          go_wp2_with fail
          refine leaves_cons (f := 74) (args := #[.pointer (some ⟨w.heap.size + 1, 0, none⟩), .pointer (some ⟨w.heap.size + 1 + 1, 0, none⟩)]) (by simp) (by simp [go_sem]) ?_
          refine (levels_idle _ _ _).mono ?_
          rintro e u' w'' ⟨rfl, rfl, rfl⟩
          obtain ⟨wf, hwf⟩ : ∃ W, W = (((w4.setCell ⟨w.heap.size + 1, 0, none⟩ (.slice A4 (n + 1) c4)).setCell ⟨w.heap.size + 1 + 1, 0, none⟩ (.int .i64 0)).setCell ⟨w.heap.size + 1 + 1, 1, none⟩ (.int .i64 0)) := ⟨_, rfl⟩
          rw [← hwf]
          have f1 : Blk wf (w.heap.size + 1) 99 #[.slice A4 (n + 1) c4] := by
            rw [hwf]; exact ((HK4.out.2.1.set_ 0 (.slice A4 (n + 1) c4)).far (by show w.heap.size + 1 ≠ w.heap.size + 1 + 1; omega) _).far (by show w.heap.size + 1 ≠ w.heap.size + 1 + 1; omega) _
          have f2 : Blk wf (w.heap.size + 1 + 1) 101 #[.int .i64 0, .int .i64 0] := by
            rw [hwf]; exact ((HK4.out.2.2.far (by show w.heap.size + 1 + 1 ≠ w.heap.size + 1; omega) _).set_ 0 (.int .i64 0)).set_ 1 (.int .i64 0)
          have hch : Chg (fun b => b = w.heap.size + 1 ∨ b = w.heap.size + 1 + 1) w4 wf := by
            rw [hwf]; exact (((Chg.refl _ _).setCell (p := ⟨w.heap.size + 1, 0, none⟩) (fun _ => .inl rfl) _).setCell (p := ⟨w.heap.size + 1 + 1, 0, none⟩) (fun _ => .inr rfl) _).setCell (p := ⟨w.heap.size + 1 + 1, 1, none⟩) (fun _ => .inr rfl) _
          have g0 : wf.cell? ⟨w.heap.size + 1, 0, none⟩ = some (.slice A4 (n + 1) c4) := f1.cell 0
          have g1 : wf.cell? ⟨w.heap.size + 1 + 1, 0, none⟩ = some (.int .i64 0) := f2.cell 0
          have g2 : wf.cell? ⟨w.heap.size + 1 + 1, 1, none⟩ = some (.int .i64 0) := f2.cell 1
          have hnLL : n = L := by omega
          have hav := (HALL4.out.all.next (D' := From w.heap.size) hch (fun b _ hb h => by have hb : B ≤ b := hb; omega) (fun b _ hb => by have hb : B ≤ b := hb; show w.heap.size ≤ b; omega))
          have hbf : Below w.heap.size w wf := HB4.out.trans (hch.below_of HB4.out.size (fun b hb h => by omega))
          rw [hnLL] at g0 hav a41
          rw [hnLL]
          clear f1 f2 hwf hch z0 zf z1 z2 zg
          refine ⟨.tuple #[.slice A4 (L + 1) c4, .agg #[.int .i64 0, .int .i64 0]], ?_, A4, c4, rfl, a41, a42, hav, hbf⟩
          simp [results, Try.results47, go_sem, g0, g1, g2]
        · have hk0' : ((k : Int) == 0) = false := by simp; exact hk0
          obtain ⟨B', c', e1, hl⟩ := HALL4.out.at_ n (by omega)
          have hul : us.length = n := by have := HALL2.out.own.1; omega
          rw [List.getElem?_append_right (by omega), hul, Nat.sub_self] at e1
          have e1 : Value.slice A (N k) c = .slice B' (lksOf N d X (L - n)).length c' := by injection e1
          injection e1 with e1 e2 e3
          subst e1
          rw [hnk, lksOf_len] at hl
          obtain ⟨b, o, lk, _, _, _, _, dA', _, _, _, _, _, _, _, _, dn', dc', hAo', _, hlk, _, _, _, _, _, _, _, c7, _, hnv⟩ := hl.at_ (j := 0) (HT.out.pos k)
          have hlk' : lk = lkAt (d k) (X k) 0 := by
            rw [show (lksOf N d X k)[0]? = some (lkAt (d k) (X k) 0) from lk_some (HT.out.pos k)] at hlk
            injection hlk with hlk; exact hlk.symm
          have hkid := HT.out.kid0 (k - 1) (by omega)
          rw [show k - 1 + 1 = k by omega] at hkid
          subst hlk'
          have hdl0 : 0 < dn' := by rw [hnv.d.len]; exact (List.getElem?_eq_some_iff.1 hkid).1
          obtain ⟨b2, o2, kid, hA2, _, he2, d1⟩ := hnv.d.at_ (k := 0) hdl0
          have hkk : kid = (d (k - 1) : Int) + 1 := by
            have he2 : (X k 0).kids[0]? = some kid := he2
            rw [hkid] at he2; injection he2 with he2; exact he2.symm
          subst hkk hAo' hA2
          rw [Nat.zero_mul, Nat.add_zero] at c7
          rw [Nat.add_zero] at d1
          have hp2 : (0 : Int) < (N k : Int) := by have := HT.out.pos k; omega
          have hp3 : (0 : Int) < (dn' : Int) := by omega
          have c7' : w4.cell? ⟨b, o + 2 + 3 + 2, none⟩ = some (.slice (some ⟨b2, o2, none⟩) dn' dc') := c7
          obtain ⟨us4, HALL5⟩ : ∃ us4, Hid (AllR w4 B (.slice A4 (n + 1) c4) (L - (k - 1)) us4 (fun t => lksOf N d X (L - t))) := by
            have e9 : L - (k - 1) = n + 1 := by omega
            rw [e9]; exact ⟨_, HALL4⟩
          have hi9 := IntWalk.i64_in ((k : Int) - 1) (by omega)
          clear e2 e3 hl hnv hlk hkid he2 hul
          go_wp2_with fail
          go_roundg k
          case measure => have := HG.out; omega
          case rel =>
            have e9 : d (k - 1 + 1) = d k := by rw [show k - 1 + 1 = k by omega]
            refine ⟨k - 1, .slice A4 (n + 1) c4, us4, by omega, by omega, rfl, ?_, HK4.out, HALL5.out, ?_, hs4, HB4.out⟩
            · exact congrArg (Value.int .i64) (by omega)
            · rw [e9]; exact HM4.out
      · have hn00 := hn1 hkL
        have hp0 : ¬ (0 : Int) < (n : Int) := by omega
        clear hn0 hn1 hkn hn00
        have HK2 := HK1
        have HALL2 := HALL1
        have HL2 := HLK1
        have HM2 := HMQ
        have HB2 := HB1
        have hs2 : B ≤ w1.heap.size := by omega
        clear HK1 HALL1 HLK1 HMQ HB1
        go_upto_region 19 with fail
        refine lv_app B (w.heap.size + 1) n (N k) c A (.slice Ao n co) us (fun t => lksOf N d X (L - t)) _ _ _ (Lib.hid HK2.out.2.1) HALL2 (by show Hid (Lks _ _ _ _ (lksOf N d X (L - n))); rw [hnk]; exact HL2) (by show N k = (lksOf N d X (L - n)).length; rw [hnk, lksOf_len]) (by omega) (by omega) (by omega) ?_
        intro out2 v69 v70 v71 v72 w4 hk4 hall4 hc4
        have HK4 : Hid (Blk w4 w.heap.size 23 #[.int .i64 nd, .int .i64 lf, .int .i64 inn, .int .i64 fl, .int .i64 bl] ∧ Blk w4 (w.heap.size + 1) 99 #[out2] ∧ Blk w4 (w.heap.size + 1 + 1) 101 #[.int .i64 0, .int .i64 0]) := Lib.hid ⟨HK2.out.1.chg hc4 (fun h => by omega), hk4, HK2.out.2.2.chg hc4 (fun h => by omega)⟩
        have HALL4 := Lib.hid hall4
        have HM4 := Lib.hid (HM2.out.chg hc4 (fun h => by omega))
        have HB4 : Hid (Below w.heap.size w w4) := Lib.hid (HB2.out.trans (hc4.below_of HB2.out.size (fun b hb h => by omega)))
        have hs4 : B ≤ w4.heap.size := Nat.le_trans hs2 hc4.size
        clear hk4 hall4 hc4
        obtain ⟨A4, c4, rfl, a41, a42⟩ := own_val HALL4.out.own
        by_cases hk0 : k = 0
        · subst hk0
          have z0 : w4.cell? ⟨w.heap.size + 1, 0, none⟩ = some (.slice A4 (n + 1) c4) := HK4.out.2.1.cell 0
          have zf := HK4.out.2.1.frozen
          have z1 : w4.cell? ⟨w.heap.size + 1 + 1, 0, none⟩ = some (.int .i64 0) := HK4.out.2.2.cell 0
          have z2 : w4.cell? ⟨w.heap.size + 1 + 1, 1, none⟩ = some (.int .i64 0) := HK4.out.2.2.cell 1
          have zg := HK4.out.2.2.frozen
          go_wp2_with fail
          refine leaves_cons (f := 74) (args := #[.pointer (some ⟨w.heap.size + 1, 0, none⟩), .pointer (some ⟨w.heap.size + 1 + 1, 0, none⟩)]) (by simp) (by simp [go_sem]) ?_
          refine (levels_idle _ _ _).mono ?_
          rintro e u' w'' ⟨rfl, rfl, rfl⟩
          obtain ⟨wf, hwf⟩ : ∃ W, W = (((w4.setCell ⟨w.heap.size + 1, 0, none⟩ (.slice A4 (n + 1) c4)).setCell ⟨w.heap.size + 1 + 1, 0, none⟩ (.int .i64 0)).setCell ⟨w.heap.size + 1 + 1, 1, none⟩ (.int .i64 0)) := ⟨_, rfl⟩
          rw [← hwf]
          have f1 : Blk wf (w.heap.size + 1) 99 #[.slice A4 (n + 1) c4] := by
            rw [hwf]; exact ((HK4.out.2.1.set_ 0 (.slice A4 (n + 1) c4)).far (by show w.heap.size + 1 ≠ w.heap.size + 1 + 1; omega) _).far (by show w.heap.size + 1 ≠ w.heap.size + 1 + 1; omega) _
          have f2 : Blk wf (w.heap.size + 1 + 1) 101 #[.int .i64 0, .int .i64 0] := by
            rw [hwf]; exact ((HK4.out.2.2.far (by show w.heap.size + 1 + 1 ≠ w.heap.size + 1; omega) _).set_ 0 (.int .i64 0)).set_ 1 (.int .i64 0)
          have hch : Chg (fun b => b = w.heap.size + 1 ∨ b = w.heap.size + 1 + 1) w4 wf := by
            rw [hwf]; exact (((Chg.refl _ _).setCell (p := ⟨w.heap.size + 1, 0, none⟩) (fun _ => .inl rfl) _).setCell (p := ⟨w.heap.size + 1 + 1, 0, none⟩) (fun _ => .inr rfl) _).setCell (p := ⟨w.heap.size + 1 + 1, 1, none⟩) (fun _ => .inr rfl) _
          have g0 : wf.cell? ⟨w.heap.size + 1, 0, none⟩ = some (.slice A4 (n + 1) c4) := f1.cell 0
          have g1 : wf.cell? ⟨w.heap.size + 1 + 1, 0, none⟩ = some (.int .i64 0) := f2.cell 0
          have g2 : wf.cell? ⟨w.heap.size + 1 + 1, 1, none⟩ = some (.int .i64 0) := f2.cell 1
          have hnLL : n = L := by omega
          have hav := (HALL4.out.all.next (D' := From w.heap.size) hch (fun b _ hb h => by have hb : B ≤ b := hb; omega) (fun b _ hb => by have hb : B ≤ b := hb; show w.heap.size ≤ b; omega))
          have hbf : Below w.heap.size w wf := HB4.out.trans (hch.below_of HB4.out.size (fun b hb h => by omega))
          rw [hnLL] at g0 hav a41
          rw [hnLL]
          clear f1 f2 hwf hch z0 zf z1 z2 zg
          refine ⟨.tuple #[.slice A4 (L + 1) c4, .agg #[.int .i64 0, .int .i64 0]], ?_, A4, c4, rfl, a41, a42, hav, hbf⟩
          simp [results, Try.results47, go_sem, g0, g1, g2]
        · have hk0' : ((k : Int) == 0) = false := by simp; exact hk0
          obtain ⟨B', c', e1, hl⟩ := HALL4.out.at_ n (by omega)
          have hul : us.length = n := by have := HALL2.out.own.1; omega
          rw [List.getElem?_append_right (by omega), hul, Nat.sub_self] at e1
          have e1 : Value.slice A (N k) c = .slice B' (lksOf N d X (L - n)).length c' := by injection e1
          injection e1 with e1 e2 e3
          subst e1
          rw [hnk, lksOf_len] at hl
          obtain ⟨b, o, lk, _, _, _, _, dA', _, _, _, _, _, _, _, _, dn', dc', hAo', _, hlk, _, _, _, _, _, _, _, c7, _, hnv⟩ := hl.at_ (j := 0) (HT.out.pos k)
          have hlk' : lk = lkAt (d k) (X k) 0 := by
            rw [show (lksOf N d X k)[0]? = some (lkAt (d k) (X k) 0) from lk_some (HT.out.pos k)] at hlk
            injection hlk with hlk; exact hlk.symm
          have hkid := HT.out.kid0 (k - 1) (by omega)
          rw [show k - 1 + 1 = k by omega] at hkid
          subst hlk'
          have hdl0 : 0 < dn' := by rw [hnv.d.len]; exact (List.getElem?_eq_some_iff.1 hkid).1
          obtain ⟨b2, o2, kid, hA2, _, he2, d1⟩ := hnv.d.at_ (k := 0) hdl0
          have hkk : kid = (d (k - 1) : Int) + 1 := by
            have he2 : (X k 0).kids[0]? = some kid := he2
            rw [hkid] at he2; injection he2 with he2; exact he2.symm
          subst hkk hAo' hA2
          rw [Nat.zero_mul, Nat.add_zero] at c7
          rw [Nat.add_zero] at d1
          have hp2 : (0 : Int) < (N k : Int) := by have := HT.out.pos k; omega
          have hp3 : (0 : Int) < (dn' : Int) := by omega
          have c7' : w4.cell? ⟨b, o + 2 + 3 + 2, none⟩ = some (.slice (some ⟨b2, o2, none⟩) dn' dc') := c7
          obtain ⟨us4, HALL5⟩ : ∃ us4, Hid (AllR w4 B (.slice A4 (n + 1) c4) (L - (k - 1)) us4 (fun t => lksOf N d X (L - t))) := by
            have e9 : L - (k - 1) = n + 1 := by omega
            rw [e9]; exact ⟨_, HALL4⟩
          have hi9 := IntWalk.i64_in ((k : Int) - 1) (by omega)
          clear e2 e3 hl hnv hlk hkid he2 hul
          go_wp2_with fail
          go_roundg k
          case measure => have := HG.out; omega
          case rel =>
            have e9 : d (k - 1 + 1) = d k := by rw [show k - 1 + 1 = k by omega]
            refine ⟨k - 1, .slice A4 (n + 1) c4, us4, by omega, by omega, rfl, ?_, HK4.out, HALL5.out, ?_, hs4, HB4.out⟩
            · exact congrArg (Value.int .i64) (by omega)
            · rw [e9]; exact HM4.out
end Go.Proofs.Ytgjphmlmndcaeaa

namespace Go.Proofs.Ytgjphmlmndcaeaa
open Go.RowKit Go.Maps
theorem AllV.lt {w : World} {D : Nat → Prop} {A : Option Addr} {n : Nat} {g : Nat → List Lk} (h : AllV w D A n g) : AllV w (fun b => b < w.heap.size) A n g := h.next (Chg.refl Nil w) (fun _ _ _ h => h) (fun _ hb _ => hb)
theorem AllV.chg {S D : Nat → Prop} {w w' : World} {A : Option Addr} {n : Nat} {g : Nat → List Lk} (h : AllV w D A n g) (hc : Chg S w w') (hs : ∀ b, D b → ¬ S b) : AllV w' D A n g := h.next hc (fun b _ hb => hs b hb) (fun _ _ hb => hb)
theorem eql_links_nil (w : World) (a : Addr) (n c : Nat) : (binOp .eql 99 (.slice (some a) n c) (.slice none 0 0)).run Try.prog w = .ok (.bool false) w := by
  exact Lib.run_eql_slice_nil w 99 104 (some a) n c 0 0 Try.underlying99
set_option maxRecDepth 100000 in
set_option maxHeartbeats 4000000 in
theorem shcheck_any (F : Nat → Prop) (p : Nat) (nodes root : Int) (sl : List Slt) (nd lf fl bl : Int) (inn L : Nat) (N d : Nat → Nat) (X : Nat → Nat → Nd) (E : Nat → Nat) (w : World) (hx : ArX w F p nodes sl root) (hn : sl.length ≤ 65536) (hF : ∀ b, F b → b < w.heap.size) (hc' : cfgOk nd lf inn fl bl)
    (ht : TreeOk sl root nd lf inn L N d X) (hE0 : E 0 = 0) (hE : ∀ i, i < N 0 → E (i + 1) = E i + (X 0 i).keys.length) (hEb : ∀ i, i ≤ N 0 → E i ≤ 1000000000) :
    Calls Try.prog 24 #[.pointer (some ⟨p, 0, none⟩), .agg #[.int .i64 nd, .int .i64 lf, .int .i64 inn, .int .i64 fl, .int .i64 bl]] w fun e w' => e = .returned (.agg #[.bool true, .int .i64 0, .int .i64 0, .int .i64 ((L : Int) + 1), .int .i64 (d (L + 1)), .int .i64 (E (N 0))]) ∧ Below w.heap.size w w' := by
  have HX := Lib.hid hx
  have HT := Lib.hid ht
  have HC := Lib.hid hc'
  have HF := Lib.hid hF
  have HE0 := Lib.hid hE0
  have HE := Lib.hid hE
  have HEB := Lib.hid hEb
  have hdeep := ht.deep
  have hdL : d (L + 1) ≤ 65536 := by have := ht.fit (Nat.le_refl L); rw [ht.step]; omega
  have hN0 : N 0 ≤ 65536 := by have := ht.fit (Nat.zero_le L); omega
  have HB0 : Hid (Below w.heap.size w ((w.alloc (.cells #[.int .i64 nd, .int .i64 lf, .int .i64 inn, .int .i64 fl, .int .i64 bl] 23)).alloc (.cells #[.bool false, .int .i64 0, .int .i64 0, .int .i64 0, .int .i64 0, .int .i64 0] 64))) := Lib.hid (((Below.refl _ _).alloc (Nat.le_refl _) _).alloc (by simp) _)
  have HK0 : Hid (Blk ((w.alloc (.cells #[.int .i64 nd, .int .i64 lf, .int .i64 inn, .int .i64 fl, .int .i64 bl] 23)).alloc (.cells #[.bool false, .int .i64 0, .int .i64 0, .int .i64 0, .int .i64 0, .int .i64 0] 64)) (w.heap.size + 1) 64 #[.bool false, .int .i64 0, .int .i64 0, .int .i64 0, .int .i64 0, .int .i64 0]) := Lib.hid (by
    have := Blk.new (w.alloc (.cells #[.int .i64 nd, .int .i64 lf, .int .i64 inn, .int .i64 fl, .int .i64 bl] 23)) 64 #[.bool false, .int .i64 0, .int .i64 0, .int .i64 0, .int .i64 0, .int .i64 0]
    simpa using this)
  clear hx hF hc' ht hE0 hE hEb
  go_enter Try.func24, Try.ntmps24
  go_upto_region 2 with (go_at_call 47; go_loud (refine (levels_any F p nodes root sl nd lf fl bl inn L N d X _ (HX.out.below HB0.out) hn (fun b hb => by have := HF.out b hb; simp; omega) HC.out HT.out).mono ?_); rintro e w1 ⟨A, c, rfl, q1, q2, ha1, hb1⟩; have HA1 := Lib.hid ha1.lt; have HB1 := Lib.hid (HB0.out.trans (hb1.mono HB0.out.size)); have HK1 := Lib.hid (HK0.out.below hb1); clear ha1 hb1)
  obtain ⟨b0, o0, _, _, hA0, _, _, _⟩ := HA1.out.at_ (t := 0) (by omega)
  subst hA0
  have hw1 := IntWalk.i64_in ((L : Int) + 1) (by omega)
  have hnil := fun (w : World) => eql_links_nil w ⟨b0, o0, none⟩ (L + 1) c
  go_wp2_with fail
  obtain ⟨w3, hw3⟩ : ∃ W, W = ((w1.alloc (.cells #[.int .i64 0, .int .i64 0] 101)).alloc (.cells #[.bool true, .int .i64 0, .int .i64 0, .int .i64 ((L : Int) + 1), .int .i64 0, .int .i64 0] 64)) := ⟨_, rfl⟩
  rw [← hw3]
  obtain ⟨q, hq⟩ : ∃ Y, Y = w1.heap.size + 1 := ⟨_, rfl⟩
  rw [← hq]
  have hb13 : Below w1.heap.size w1 w3 := by rw [hw3]; exact ((Below.refl _ _).alloc (Nat.le_refl _) _).alloc (by simp) _
  have HK3 : Hid (Blk w3 q 64 #[.bool true, .int .i64 0, .int .i64 0, .int .i64 ((L : Int) + 1), .int .i64 0, .int .i64 0]) := Lib.hid (by
    have := Blk.new (w1.alloc (.cells #[.int .i64 0, .int .i64 0] 101)) 64 #[.bool true, .int .i64 0, .int .i64 0, .int .i64 ((L : Int) + 1), .int .i64 0, .int .i64 0]
    rw [hw3, hq]; simpa using this)
  have HA3 := Lib.hid (HA1.out.below hb13)
  have HB3 := Lib.hid (HB1.out.trans (hb13.mono HB1.out.size))
  have HR3 := Lib.hid (HK1.out.below hb13)
  have hqs : w1.heap.size < q := by omega
  have hwq : w.heap.size + 1 < w1.heap.size := HK1.out.lt
  clear hw3 hq hb13 HK0 HB0 HA1 HB1 HK1
  go_loopg [30] (L + 1) (fun g' iv wr => ∃ j : Nat, g' = L + 1 - j ∧ j ≤ L + 1 ∧ iv = .int .i64 j ∧ Blk wr q 64 #[.bool true, .int .i64 0, .int .i64 0, .int .i64 ((L : Int) + 1), .int .i64 ((d (L + 1) : Int) - (d (L + 1 - j) : Int)), .int .i64 0] ∧ AllV wr (fun b => b < w1.heap.size) (some ⟨b0, o0, none⟩) (L + 1) (fun t => lksOf N d X (L - t)) ∧ Blk wr (w.heap.size + 1) 64 #[.bool false, .int .i64 0, .int .i64 0, .int .i64 0, .int .i64 0, .int .i64 0] ∧ Below w.heap.size w wr)
  case atStart => exact ⟨0, by omega, by omega, rfl, by simpa using HK3.out, HA3.out, HR3.out, HB3.out⟩
  case round =>
    obtain ⟨j, hg, hj, rfl, hk, ha, hr, hb⟩ := hrel
    have HG := Lib.hid hg
    have HK := Lib.hid hk
    have HA := Lib.hid ha
    have HR := Lib.hid hr
    have HB := Lib.hid hb
    rename World => wr
    clear hg hk ha hr hb HK3 HA3 HB3 HR3
    by_cases hlt : j < L + 1
    · have hlt' : (j : Int) < (L : Int) + 1 := by omega
      obtain ⟨b, o, B, cB, hbo, _, c1, hl⟩ := HA.out.at_ (t := j) hlt
      rw [lksOf_len] at c1
      injection hbo with hbo
      injection hbo with hb1 hb2
      subst hb1 hb2
      have x4 : wr.cell? ⟨q, 4, none⟩ = some (.int .i64 ((d (L + 1) : Int) - (d (L + 1 - j) : Int))) := HK.out.cell 4
      have xf := HK.out.frozen
      have hst := HT.out.step (L - j)
      have hm1 : d (L - j + 1) ≤ d (L + 1) := HT.out.mono (by omega)
      have hst' : d (L + 1 - j) = d (L - j) + N (L - j) := by rw [show L + 1 - j = L - j + 1 by omega]; exact hst
      have hw2 := IntWalk.i64_in ((d (L + 1) : Int) - (d (L + 1 - j) : Int) + (N (L - j) : Int)) (by omega)
      have HST := Lib.hid hst'
      clear hst hm1 hst' hl
      go_wp2_with fail
      go_roundg (L + 1 - (j + 1))
      case measure => have := HG.out; omega
      case rel =>
        have hs := Chg.set1 wr q 4 (.int .i64 ((d (L + 1) : Int) - (d (L + 1 - j) : Int) + (N (L - j) : Int)))
        have e : (d (L + 1) : Int) - (d (L + 1 - j) : Int) + (N (L - j) : Int) = (d (L + 1) : Int) - (d (L + 1 - (j + 1)) : Int) := by
          have := HST.out
          rw [show L + 1 - (j + 1) = L - j by omega]; omega
        refine ⟨j + 1, rfl, by omega, by go_num, ?_, HA.out.chg hs (fun b hb h => by have h : b = q := h; omega), HR.out.chg hs (fun h => by have h : w.heap.size + 1 = q := h; omega), HB.out.trans (hs.below_of HB.out.size (fun b hb h => by have h : b = q := h; omega))⟩
        have := HK.out.set_ 4 (.int .i64 ((d (L + 1) : Int) - (d (L + 1 - j) : Int) + (N (L - j) : Int)))
        rw [← e]; exact this
    · have hlt' : ¬ (j : Int) < (L : Int) + 1 := by omega
      obtain rfl : j = L + 1 := by omega
      obtain ⟨b, o, B, cB, hbo, _, c1, hl⟩ := HA.out.at_ (t := L) (by omega)
      rw [Nat.sub_self] at c1 hl
      rw [lksOf_len] at c1 hl
      injection hbo with hbo
      injection hbo with hb1 hb2
      subst hb1 hb2
      have HL := Lib.hid hl
      have hd0 : (d (L + 1) : Int) - (d (L + 1 - (L + 1)) : Int) = (d (L + 1) : Int) := by rw [Nat.sub_self, HT.out.base]; omega
      have HK2 : Hid (Blk wr q 64 #[.bool true, .int .i64 0, .int .i64 0, .int .i64 ((L : Int) + 1), .int .i64 (d (L + 1)), .int .i64 0]) := Lib.hid (by have := HK.out; rw [hd0] at this; exact this)
      have hi1 := IntWalk.i64_in ((L : Int) + 1 - 1) (by omega)
      have hi2 := IntWalk.i64_in (L : Int) (by omega)
      have hi3 : (L : Int) < (L : Int) + 1 := by omega
      clear hl hd0 HK
      go_wp2_with fail
      go_loopg [48] (N 0) (fun g' iv wz => ∃ i : Nat, g' = N 0 - i ∧ i ≤ N 0 ∧ iv = .int .i64 i ∧ Blk wz q 64 #[.bool true, .int .i64 0, .int .i64 0, .int .i64 ((L : Int) + 1), .int .i64 (d (L + 1)), .int .i64 (E i)] ∧ Chg (One q) wr wz)
      case atStart => exact ⟨0, by omega, by omega, rfl, by have := HE0.out; rw [this]; exact HK2.out, Chg.refl _ _⟩
      case round =>
        obtain ⟨i, hg2, hi, rfl, hk2, hcz⟩ := hrel
        have HG2 := Lib.hid hg2
        have HKZ := Lib.hid hk2
        have HCZ := Lib.hid hcz
        rename World => wz
        clear hg2 hk2 hcz HK2
        by_cases hil : i < N 0
        · have hil' : (i : Int) < (N 0 : Int) := by omega
          obtain ⟨b2, o2, ⟨id, low0, x⟩, lB, hA, kA, vA, dA, lm, ld, hn', hc, kn, kc, vn, vc, dn, dc, hB2, _, hk', e0, e1, e2, e3, e4, e5, e6, e7, _, hv⟩ := (HL.out.next (D' := fun _ => True) HCZ.out (fun b _ hb h => by have h : b = q := h; omega) (fun _ _ _ => trivial)).at_ (j := i) hil
          have hkk : (id, low0, x) = lkAt (d 0) (X 0) i := by
            rw [show (lksOf N d X 0)[i]? = some (lkAt (d 0) (X 0) i) from lk_some hil] at hk'
            injection hk' with hk'; exact hk'.symm
          dsimp only at e0 e2 e4 hv
          have hxx : x = X 0 i := congrArg (fun k : Lk => k.2.2) hkk
          have hkn : E i + kn = E (i + 1) := by rw [HE.out i hil, hv.k.len, hxx]
          have hEi := HEB.out (i + 1) (by omega)
          have hkn2 : (E i : Int) + (kn : Int) = (E (i + 1) : Int) := by omega
          have hi5 := IntWalk.i64_in ((E i : Int) + (kn : Int)) (by omega)
          have HKN := Lib.hid hkn2
          subst hB2
          obtain ⟨wx, hwx⟩ : ∃ W, W = wz.alloc (.cells #[.int .i64 id, .slice lB lm ld, .int .i64 x.lev, .slice hA hn' hc, .int .i64 x.right, .slice kA kn kc, .slice vA vn vc, .slice dA dn dc] 106) := ⟨_, rfl⟩
          have HBX : Hid (Below wz.heap.size wz wx) := Lib.hid (by rw [hwx]; exact (Below.refl _ _).alloc (Nat.le_refl _) _)
          have HQX : Hid (Blk wx wz.heap.size 106 #[.int .i64 id, .slice lB lm ld, .int .i64 x.lev, .slice hA hn' hc, .int .i64 x.right, .slice kA kn kc, .slice vA vn vc, .slice dA dn dc]) := Lib.hid (by rw [hwx]; exact Blk.new _ _ _)
          clear hk' hkk hxx hv hkn hkn2
          go_upto_region 13 with fail
          rw [← hwx]
          clear hwx e0 e1 e2 e3 e4 e5 e6 e7
          have x5 : wx.cell? ⟨wz.heap.size, 5, none⟩ = some (.slice kA kn kc) := HQX.out.cell 5
          have HKX := Lib.hid (HKZ.out.below HBX.out)
          have y5 : wx.cell? ⟨q, 5, none⟩ = some (.int .i64 (E i)) := HKX.out.cell 5
          have yf := HKX.out.frozen
          go_wp2_with fail
          go_roundg (N 0 - (i + 1))
          case measure => have := HG2.out; omega
          case rel =>
            refine ⟨i + 1, rfl, by omega, by go_num, ?_, (HCZ.out.then HBX.out).setCell (p := ⟨q, 5, none⟩) (fun _ => rfl) _⟩
            have := HKX.out.set_ 5 (.int .i64 ((E i : Int) + (kn : Int)))
            rw [← HKN.out]; exact this
        · have hil' : ¬ (i : Int) < (N 0 : Int) := by omega
          obtain rfl : i = N 0 := by omega
          have HRZ := Lib.hid (HR.out.chg HCZ.out (fun h => by have h : w.heap.size + 1 = q := h; omega))
          have x0 : wz.cell? ⟨q, 0, none⟩ = some (.bool true) := HKZ.out.cell 0
          have x1 : wz.cell? ⟨q, 1, none⟩ = some (.int .i64 0) := HKZ.out.cell 1
          have x2 : wz.cell? ⟨q, 2, none⟩ = some (.int .i64 0) := HKZ.out.cell 2
          have x3 : wz.cell? ⟨q, 3, none⟩ = some (.int .i64 ((L : Int) + 1)) := HKZ.out.cell 3
          have x4 : wz.cell? ⟨q, 4, none⟩ = some (.int .i64 (d (L + 1))) := HKZ.out.cell 4
          have x5 : wz.cell? ⟨q, 5, none⟩ = some (.int .i64 (E (N 0))) := HKZ.out.cell 5
          have y0 : wz.cell? ⟨w.heap.size + 1, 0, none⟩ = some (.bool false) := HRZ.out.cell 0
          have y1 : wz.cell? ⟨w.heap.size + 1, 1, none⟩ = some (.int .i64 0) := HRZ.out.cell 1
          have y2 : wz.cell? ⟨w.heap.size + 1, 2, none⟩ = some (.int .i64 0) := HRZ.out.cell 2
          have y3 : wz.cell? ⟨w.heap.size + 1, 3, none⟩ = some (.int .i64 0) := HRZ.out.cell 3
          have y4 : wz.cell? ⟨w.heap.size + 1, 4, none⟩ = some (.int .i64 0) := HRZ.out.cell 4
          have y5 : wz.cell? ⟨w.heap.size + 1, 5, none⟩ = some (.int .i64 0) := HRZ.out.cell 5
          have yf := HRZ.out.frozen
          go_wp2_with fail
          refine bodyPost_ret (v := .agg #[.bool true, .int .i64 0, .int .i64 0, .int .i64 ((L : Int) + 1), .int .i64 (d (L + 1)), .int .i64 (E (N 0))]) (by simp [results, Try.results24, go_sem, *]) rfl ?_
          have hch := chg6 (b := w.heap.size + 1) (w := wz) (.bool true) (.int .i64 0) (.int .i64 0) (.int .i64 ((L : Int) + 1)) (.int .i64 (d (L + 1))) (.int .i64 (E (N 0)))
          have hbz : Below w.heap.size w wz := HB.out.trans (HCZ.out.below_of HB.out.size (fun b hb h => by have h : b = q := h; omega))
          exact ⟨rfl, hbz.trans (hch.below_of hbz.size (fun b hb h => by have h : b = w.heap.size + 1 := h; omega))⟩
end Go.Proofs.Ytgjphmlmndcaeaa

namespace Go.Proofs.Ytgjphmlmndcaeaa
open Go.RowKit Go.Maps
/-- how many kids the first m nodes have -/
def ksum (X : Nat → Nd) (m : Nat) : Nat := ((List.range m).map fun i => (X i).kids.length).sum
theorem ksum_zero (X : Nat → Nd) : ksum X 0 = 0 := rfl
theorem ksum_succ (X : Nat → Nd) (m : Nat) : ksum X (m + 1) = ksum X m + (X m).kids.length := by
  unfold ksum; rw [List.range_succ, List.map_append, List.sum_append]; simp
theorem ksum_le (X : Nat → Nd) {m b : Nat} (h : ∀ i, i < m → (X i).kids.length ≤ b) : ksum X m ≤ m * b := by
  induction m with
  | zero => simp [ksum]
  | succ m ih =>
    rw [ksum_succ, Nat.add_mul, Nat.one_mul]
    exact Nat.add_le_add (ih (fun i hi => h i (by omega))) (h m (by omega))
/-- what Packed asks of a level's nodes -/
def PkOk (fill inn lev M : Nat) (X : Nat → Nd) : Prop := ∀ i, i < M → (lev = 0 → (X i).keys.length ≤ fill ∧ (i + 1 < M → (X i).keys.length = fill) ∧ (1 < M → 1 ≤ (X i).keys.length)) ∧ (lev ≠ 0 → i + 1 < M → (X i).kids.length = inn)
noncomputable def pkCondC : Code := codeOr (Try.f26.body.bind (regionAt 14))
set_option maxRecDepth 100000 in
theorem pk_cond (qc q i M kn dn lev fill inn : Nat) (nd lf bl id rt : Int) (l0 h0 k0 v0 : Value) (dA : Option Addr) (dc : Nat) (w : World) {u0 u1 u2 u4 u5 u6 u7 u8 u9 u14 u15 u16 u17 u18 u19 u20 u21 u22 u23 u24 u25 u26 u27 u28 u29 u30 u31 u32 u33 u34 u35 u36 u37 u38 u39 u40 u41 u42 u43 u44 u45 u46 u47 u48 u49 u50 u51 u52 u53 u54 u55 u56 u57 u58 u59 u60 u61 u62 u63 u64 u65 u66 u67 u68 u69 u70 u71 u72 u73 u74 u75 u76 u77 u78 u79 u80 u81 u82 u83 u84 u85 u86 u87 u88 u89 u90 u91 u92 u93 u94 u95 u96 u97 u98 u99 u100 u101 u102 u103 u104 u105 u106 u107 u108 u109 u110 u111 u112 u113 u114 u115 u116 u117 u118 u119 u120 u121 u122 u123 u124 u125 u126 u127 u128 u129 u130 u131 u132 u133 u134 u135 u136 u137 u138 u139 u140 u141 u142 u143 u144 u145 u146 : Value} (Q : Exit → Act → World → Prop)
    (HC : Hid (Blk w qc 23 #[.int .i64 nd, .int .i64 lf, .int .i64 inn, .int .i64 fill, .int .i64 bl])) (HK : Hid (Blk w q 106 #[.int .i64 id, l0, .int .i64 lev, h0, .int .i64 rt, k0, v0, .slice dA dn dc]))
    (hi : i < M) (h1 : lev = 0 → kn ≤ fill ∧ (i + 1 < M → kn = fill) ∧ (1 < M → 1 ≤ kn)) (h2 : lev ≠ 0 → i + 1 < M → dn = inn)
    (hexit : ∀ (v75 v76 v77 v78 v79 v80 v81 v82 v83 v84 v85 v86 v87 v88 v89 v90 v91 v92 v93 v94 v95 v96 v97 v98 v99 v100 v101 v102 v103 v104 v105 v106 v107 v108 v109 v110 v111 v112 v113 v114 v115 v116 v117 v118 v119 v120 v121 v122 v123 v124 v125 : Value), Q .normal ⟨(u0 :: u1 :: u2 :: .pointer (some ⟨qc, 0, none⟩) :: u4 :: u5 :: u6 :: u7 :: u8 :: u9 :: .int .i64 ((M : Int) - 1) :: .int .i64 i :: .pointer (some ⟨q, 0, none⟩) :: .int .i64 kn :: u14 :: u15 :: u16 :: u17 :: u18 :: u19 :: u20 :: u21 :: u22 :: u23 :: u24 :: u25 :: u26 :: u27 :: u28 :: u29 :: u30 :: u31 :: u32 :: u33 :: u34 :: u35 :: u36 :: u37 :: u38 :: u39 :: u40 :: u41 :: u42 :: u43 :: u44 :: u45 :: u46 :: u47 :: u48 :: u49 :: u50 :: u51 :: u52 :: u53 :: u54 :: u55 :: u56 :: u57 :: u58 :: u59 :: u60 :: u61 :: u62 :: u63 :: u64 :: u65 :: u66 :: u67 :: u68 :: u69 :: u70 :: u71 :: u72 :: u73 :: u74 :: v75 :: v76 :: v77 :: v78 :: v79 :: v80 :: v81 :: v82 :: v83 :: v84 :: v85 :: v86 :: v87 :: v88 :: v89 :: v90 :: v91 :: v92 :: v93 :: v94 :: v95 :: v96 :: v97 :: v98 :: v99 :: v100 :: v101 :: v102 :: v103 :: v104 :: v105 :: v106 :: v107 :: v108 :: v109 :: v110 :: v111 :: v112 :: v113 :: v114 :: v115 :: v116 :: v117 :: v118 :: v119 :: v120 :: v121 :: v122 :: v123 :: v124 :: v125 :: .bool false :: u127 :: u128 :: u129 :: u130 :: u131 :: u132 :: u133 :: u134 :: u135 :: u136 :: u137 :: u138 :: u139 :: u140 :: u141 :: u142 :: u143 :: u144 :: u145 :: u146 :: []).toArray, []⟩ w) :
    Code.wp Try.prog pkCondC Q ⟨(u0 :: u1 :: u2 :: .pointer (some ⟨qc, 0, none⟩) :: u4 :: u5 :: u6 :: u7 :: u8 :: u9 :: .int .i64 ((M : Int) - 1) :: .int .i64 i :: .pointer (some ⟨q, 0, none⟩) :: .int .i64 kn :: u14 :: u15 :: u16 :: u17 :: u18 :: u19 :: u20 :: u21 :: u22 :: u23 :: u24 :: u25 :: u26 :: u27 :: u28 :: u29 :: u30 :: u31 :: u32 :: u33 :: u34 :: u35 :: u36 :: u37 :: u38 :: u39 :: u40 :: u41 :: u42 :: u43 :: u44 :: u45 :: u46 :: u47 :: u48 :: u49 :: u50 :: u51 :: u52 :: u53 :: u54 :: u55 :: u56 :: u57 :: u58 :: u59 :: u60 :: u61 :: u62 :: u63 :: u64 :: u65 :: u66 :: u67 :: u68 :: u69 :: u70 :: u71 :: u72 :: u73 :: u74 :: u75 :: u76 :: u77 :: u78 :: u79 :: u80 :: u81 :: u82 :: u83 :: u84 :: u85 :: u86 :: u87 :: u88 :: u89 :: u90 :: u91 :: u92 :: u93 :: u94 :: u95 :: u96 :: u97 :: u98 :: u99 :: u100 :: u101 :: u102 :: u103 :: u104 :: u105 :: u106 :: u107 :: u108 :: u109 :: u110 :: u111 :: u112 :: u113 :: u114 :: u115 :: u116 :: u117 :: u118 :: u119 :: u120 :: u121 :: u122 :: u123 :: u124 :: u125 :: u126 :: u127 :: u128 :: u129 :: u130 :: u131 :: u132 :: u133 :: u134 :: u135 :: u136 :: u137 :: u138 :: u139 :: u140 :: u141 :: u142 :: u143 :: u144 :: u145 :: u146 :: []).toArray, []⟩ w := by
  have HEX := Lib.hid hexit
  obtain ⟨y0, y1, y2, y3, y4⟩ : w.cell? ⟨qc, 0, none⟩ = some (.int .i64 nd) ∧ w.cell? ⟨qc, 1, none⟩ = some (.int .i64 lf) ∧ w.cell? ⟨qc, 2, none⟩ = some (.int .i64 inn) ∧ w.cell? ⟨qc, 3, none⟩ = some (.int .i64 fill) ∧ w.cell? ⟨qc, 4, none⟩ = some (.int .i64 bl) := ⟨HC.out.cell 0, HC.out.cell 1, HC.out.cell 2, HC.out.cell 3, HC.out.cell 4⟩
  have x2 : w.cell? ⟨q, 2, none⟩ = some (.int .i64 lev) := HK.out.cell 2
  have x7 : w.cell? ⟨q, 7, none⟩ = some (.slice dA dn dc) := HK.out.cell 7
  clear hexit
  conv => arg 2; whnf
  by_cases hl : lev = 0
  · obtain ⟨a1, a2, a3⟩ := h1 hl
    have e1 : ((lev : Int) == 0) = true := by rw [hl]; rfl
    have e2 : ¬ (0 : Int) < (lev : Int) := by omega
    have e3 : ¬ (fill : Int) < (kn : Int) := by omega
    clear h1 h2 hl
    by_cases hm : i + 1 < M
    · have e4 := a2 hm
      have e5 := a3 (by omega)
      have e6 : ¬ (kn : Int) < (fill : Int) := by omega
      have e7 : ((kn : Int) == 0) = false := by simp; omega
      have e8 : (i : Int) < (M : Int) - 1 := by omega
      clear a1 a2 a3 e4 e5
      go_wp2_with fail
      exact HEX.out _ _ _ _ _ _ _ _ _ _ _ _ _ _ _ _ _ _ _ _ _ _ _ _ _ _ _ _ _ _ _ _ _ _ _ _ _ _ _ _ _ _ _ _ _ _ _ _ _ _ _
    · have e8 : ¬ (i : Int) < (M : Int) - 1 := by omega
      by_cases hz : kn = 0
      · have hM : ¬ 1 < M := fun h => by have := a3 h; omega
        have e9 : ¬ (1 : Int) < (M : Int) := by omega
        have e10 : decide ((1 : Int) < (M : Int)) = false := decide_eq_false e9
        have e7 : ((kn : Int) == 0) = true := by rw [hz]; rfl
        clear a1 a2 a3 hz
        go_wp2_with fail
        exact HEX.out _ _ _ _ _ _ _ _ _ _ _ _ _ _ _ _ _ _ _ _ _ _ _ _ _ _ _ _ _ _ _ _ _ _ _ _ _ _ _ _ _ _ _ _ _ _ _ _ _ _ _
      · have e7 : ((kn : Int) == 0) = false := by simp; exact hz
        clear a1 a2 a3
        go_wp2_with fail
        exact HEX.out _ _ _ _ _ _ _ _ _ _ _ _ _ _ _ _ _ _ _ _ _ _ _ _ _ _ _ _ _ _ _ _ _ _ _ _ _ _ _ _ _ _ _ _ _ _ _ _ _ _ _
  · have e1 : ((lev : Int) == 0) = false := by simp; exact hl
    have e2 : (0 : Int) < (lev : Int) := by omega
    by_cases hm : i + 1 < M
    · have e4 := h2 hl hm
      have e5 : ((dn : Int) != (inn : Int)) = false := by rw [e4]; simp
      have e8 : (i : Int) < (M : Int) - 1 := by omega
      clear h1 h2 e4
      go_wp2_with fail
      exact HEX.out _ _ _ _ _ _ _ _ _ _ _ _ _ _ _ _ _ _ _ _ _ _ _ _ _ _ _ _ _ _ _ _ _ _ _ _ _ _ _ _ _ _ _ _ _ _ _ _ _ _ _
    · have e8 : ¬ (i : Int) < (M : Int) - 1 := by omega
      clear h1 h2
      go_wp2_with fail
      exact HEX.out _ _ _ _ _ _ _ _ _ _ _ _ _ _ _ _ _ _ _ _ _ _ _ _ _ _ _ _ _ _ _ _ _ _ _ _ _ _ _ _ _ _ _ _ _ _ _ _ _ _ _
end Go.Proofs.Ytgjphmlmndcaeaa
