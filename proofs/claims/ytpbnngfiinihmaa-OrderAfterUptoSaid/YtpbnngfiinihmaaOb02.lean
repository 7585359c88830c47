/- Small lemmas, copied as the guide's page extra-small tells: quiet regions, results, make, pointers, the row's last step. append onto a row of the call's own, from whatever slice (after a block of the guide's page extra-words, turned to this claim's words). Over any program. A stable sort by merging in place: the plain law of one merge. Numbers are ordered by a key, and by themselves where keys are the same. No program in sight. Numbers at the places of a row; two of them changed; a stretch changed with another one. No program in sight. -/
import Derived.Deep.QuietTactic
import Derived.Tactics
import Derived.Laws.MakeOwn
import Derived.Laws.Entries
import Derived.LaidEqlPtr
import Derived.Below
import Derived.ChangeSame
import Derived.Test.YtpbnngfiinihmaaOb01
import Derived.Maps.AppendAt
import Derived.Deep.AppendLies
import Derived.RegionTactic
import Derived.OwnWalk
import Derived.RowKit
set_option linter.unusedVariables false
set_option linter.unusedSimpArgs false
namespace Go.Proofs.Ytpbnngfiinihmaa
open Go.RowKit Go.WideShapes Go.ChangeShapes
theorem quiet_add {P : Program} {f : FuncId} {args : Array Value} {w : World} {a n : Nat} {v : Value}
    (h : Calls P f args (w.drewN (a + n)) fun e w' => e = .returned v ∧ ∃ m, w' = (w.drewN (a + n)).drewN m) :
    Calls P f args (w.drewN (a + n)) fun e w'' => e = .returned v ∧ ∃ m, w'' = w.drewN (a + m) :=
  h.mono fun _ _ ⟨he, m, hm⟩ => ⟨he, n + m, by rw [hm, World.drewN_drewN, Nat.add_assoc]⟩
theorem quiet_add_same {P : Program} {f : FuncId} {args : Array Value} {w : World} {a n : Nat} {v : Value}
    (h : Calls P f args (w.drewN (a + n)) fun e w' => e = .returned v ∧ w' = w.drewN (a + n)) :
    Calls P f args (w.drewN (a + n)) fun e w'' => e = .returned v ∧ ∃ m, w'' = w.drewN (a + m) :=
  h.mono fun _ _ ⟨he, hm⟩ => ⟨he, n, hm⟩
theorem quiet_add_left {P : Program} {f : FuncId} {args : Array Value} {w : World} {a n : Nat} {v : Value}
    (h : Calls P f args (w.drewN (a + n)) fun e w' => e = .returned v ∧ w.drewN (a + n) = w') :
    Calls P f args (w.drewN (a + n)) fun e w'' => e = .returned v ∧ ∃ m, w'' = w.drewN (a + m) :=
  h.mono fun _ _ ⟨he, hm⟩ => ⟨he, n, hm.symm⟩
theorem quiet_left {P : Program} {f : FuncId} {args : Array Value} {w : World} {n : Nat} {v : Value}
    (h : Calls P f args (w.drewN n) fun e w' => e = .returned v ∧ w.drewN n = w') : Calls P f args (w.drewN n) fun e w'' => e = .returned v ∧ ∃ m, w'' = w.drewN m :=
  h.mono fun _ _ ⟨he, hm⟩ => ⟨he, n, hm.symm⟩

theorem results_tmp4 {fn : Func} {t u v x : Tmp} (h : fn.results = #[.tmp t, .tmp u, .tmp v, .tmp x]) (tmps : Array Value) (P : Program) (w : World) :
    (results fn tmps).run P w = .ok (.tuple #[tmps.getD t undef, tmps.getD u undef, tmps.getD v undef, tmps.getD x undef]) w := by simp [results, h]
theorem results_tmp5 {fn : Func} {t u v x y : Tmp} (h : fn.results = #[.tmp t, .tmp u, .tmp v, .tmp x, .tmp y]) (tmps : Array Value) (P : Program) (w : World) :
    (results fn tmps).run P w = .ok (.tuple #[tmps.getD t undef, tmps.getD u undef, tmps.getD v undef, tmps.getD x undef, tmps.getD y undef]) w := by simp [results, h]

theorem run_make_rowN {P : Program} (t e : TypeId) (i : TypeInfo) (z : Value) (ht : P.underlying t = some (.slice e)) (hi : P.info? e = some i) (hz : i.zero = some z)
    (kl kc : IntKind) (n c : Nat) (hnc : n ≤ c) (hbytes : i.bytes * c ≤ 281474976710656) (h63 : c ≤ 9223372036854775807) (w : World) :
    (Instr.makeSlice t (.int kl (n : Int)) (.int kc (c : Int))).run P w = .ok (.slice (some ⟨w.heap.size, 0, none⟩) n c) (w.alloc (.cells (madeCells z.cells (c * i.size)) e)) := by
  have hb : (i.bytes : Int) * (c : Int) ≤ 281474976710656 := by
    have h : ((i.bytes * c : Nat) : Int) ≤ 281474976710656 := by omega
    rwa [Int.natCast_mul] at h
  have hr := run_make (P := P) w t e i z ht hi hz kl kc n c (by omega) (by omega) hb (by omega)
  simp only [Int.toNat_natCast] at hr
  exact hr
theorem run_makeMap_hint {P : Program} (t k e : TypeId) (kd : IntKind) (n : Int) (ht : P.underlying t = some (.map k e)) (w : World) :
    (Instr.makeMap t (some (.int kd n))).run P w = .ok (.map (some w.heap.size)) (w.alloc (.map #[] 0)) := by
  simp [Instr.makeMap, run_underlying ht]; rfl

theorem run_neq_ptr_other {P : Program} (w : World) {tp te : TypeId} {j : TypeInfo} {a b : Addr} {ca cb : Array Value} {ta tb : TypeId} (hp : P.underlying tp = some (.pointer te)) (hte : P.info? te = some j) (hsz : j.size ≠ 0)
    (hne : a ≠ b) (ha : w.heap[a.block]? = some (.cells ca ta (0, 0))) (hb : w.heap[b.block]? = some (.cells cb tb (0, 0))) :
    (binOp .neq tp (.pointer (some a)) (.pointer (some b))).run P w = .ok (.bool true) w := by
  have h : ∀ d : Nat, (Op.equalIn (d + 1) tp (.pointer (some a)) (.pointer (some b))).run P w = .ok false w := fun d => by
    simp [Op.equalIn, run_underlying hp, sizeOf, typeInfo, hte, hsz, run_sameAddr_other w hne ha hb]
  simp only [binOp]
  simp [Op.equal, Op.maxDepth, h 9999]

section
variable {H : Type} {enc : TypeId × Value → H} {P : Program}
theorem post_of_below {f : Func} {s : ChangeSpec} {apart fresh handsOn again : Bool} {W W' : World} {args : Array Value} {v : Value} {ds gs : List (DataW H)} {before pa pv : List MemPlace}
    (hW : DataW.Whole enc P f.params.toList s.vars apart W args.toList ds gs before)
    (hres : ∀ (b : Nat) (sp : Nat → Bool) (hd : Bool), DataW.TrodAll enc P W' b sp hd f.resultTypes.toList (v.resultList f.resultTypes.size) (s.fn H (ds ++ gs)).results [])
    (hargs : ∀ sp : Nat → Bool, (∀ p ∈ before, sp p.block = true) → DataW.TrodAll enc P W' 0 sp true f.params.toList args.toList (s.fn H (ds ++ gs)).args pa)
    (hvars : ∀ sp : Nat → Bool, (∀ p ∈ before, sp p.block = true) → DataW.TrodVars enc P W' sp s.vars (s.fn H (ds ++ gs)).vars pv)
    (hps : before = pa ++ pv) (hb : Below W.heap.size W W')
    (hok : ∀ (j : Nat) (t : TypeId) (r : Value), f.resultTypes[j]? = some t → (v.resultList f.resultTypes.size)[j]? = some r → Value.okWide P W' .any 0 t r) :
    s.post enc P f apart fresh handsOn again W args v W' := by
  have hlt : ∀ p ∈ before, p.block < W.heap.size := fun p hp => hW.lt p hp
  have hold : ∀ p ∈ before, (fun b => decide (b < W.heap.size)) p.block = true := fun p hp => by simpa using hlt p hp
  refine ⟨ds, gs, before, [], pa, pv, hW, hres _ _ _, hargs _ hold, hvars _ hold, World.keptBut_mono (fun p hp => ⟨hp, ?_⟩) (hb.frame (· ∈ before)), fun _ => ?_⟩
  · rw [hps, List.mem_append] at hp
    exact Or.inr hp
  · obtain ⟨_, _, _, _, _, hz, hn⟩ := hW
    refine ⟨hok, _, _, ([] ++ pa) ++ pv, ⟨[] ++ pa, pv, trodAll_append (hargs _ (fun _ _ => rfl)) (hres _ _ _), hvars _ (fun _ _ => rfl), rfl, ?_, ?_⟩, ?_⟩
    · intro b off hp
      have hin : MemPlace.cell b off ∈ before := by rw [hps]; simpa using hp
      rw [hb.frozen (hlt _ hin)]
      exact hz b off hin
    · intro ha
      have := hn ha
      rw [hps] at this
      simpa using this
    · intro p hp _
      rw [hps]
      simpa using hp
end
end Go.Proofs.Ytpbnngfiinihmaa

namespace Go.Proofs.Ytpbnngfiinihmaa
open Go.RowKit
section
variable {P : Program} (w : World)

theorem run_append_of_nil (base : Nat) (t ty e : TypeId) (i : TypeInfo) (size : Nat) (ht : P.underlying t = some (.slice e)) (hi : P.info? e = some i)
    (v : Value) (n : Nat) (xs : List Value) (hown : w.ownsRow base e size v n xs) (c : Nat) : (Builtin.append_ #[t, t] ty #[v, .slice none 0 c]).run P w = .ok v w := by
  rcases hown.2 with ⟨rfl, rfl⟩ | ⟨g, cap, cur, rfl, _, _, hnc, _⟩
  · simp [Builtin.append_, run_underlying ht, sizeOf, typeInfo, hi, Builtin.lenOf, Builtin.firstCells]
  · simp [Builtin.append_, run_underlying ht, sizeOf, typeInfo, hi, Builtin.lenOf, Builtin.firstCells, hnc, storeCells]

theorem run_append_any (base : Nat) (t ty e : TypeId) (i : TypeInfo) (z : Value) (size bytes : Nat) (ht : P.underlying t = some (.slice e)) (hi : P.info? e = some i) (hz : i.zero = some z)
    (hsize : i.size = size) (hby : i.bytes = bytes) (hzs : z.cells.size = size) (hsz : 0 < size)
    (v : Value) (n : Nat) (xs : List Value) (hown : w.ownsRow base e size v n xs)
    (F : Nat → Prop) (A : Option Addr) (m c : Nat) (news : List Value) (hr : Rd w F size A m news) (h1 : ∀ u ∈ news, u.oneCell' = true)
    (h63 : n + m ≤ maxLen) (hbytes : (n + m) * bytes ≤ 140737488355328) (hbase : base ≤ w.heap.size) :
    ∃ v' w', (Builtin.append_ #[t, t] ty #[v, .slice A m c]).run P w = .ok v' w' ∧ w'.ownsRow base e size v' (n + m) (xs ++ news) ∧ w.grownBy w' v.ownBlock ∧
      (v'.ownBlock = v.ownBlock ∨ v'.ownBlock = some w.heap.size) := by
  rcases A with _ | ad
  · have hm : m = 0 := by
      rcases Nat.eq_zero_or_pos m with h0 | h0
      · exact h0
      · obtain ⟨_, _, h, _⟩ := hr.2 h0
        cases h
    subst hm
    have hn : news = [] := List.eq_nil_of_length_eq_zero (by simpa using hr.1)
    subst hn
    exact ⟨v, w, run_append_of_nil w base t ty e i size ht hi v n xs hown c, by simpa using hown, World.grownBy.refl w _, .inl rfl⟩
  · have hcells : ∀ j u, news[j]? = some u → w.cell? (ad.add j) = some u := by
      intro j u hu
      rcases Nat.eq_zero_or_pos m with h0 | h0
      · subst h0
        have hn : news = [] := List.eq_nil_of_length_eq_zero (by simpa using hr.1)
        subst hn
        simp at hu
      · obtain ⟨b, o, h, _, hc⟩ := hr.2 h0
        injection h with h
        subst h
        rw [add_eq]
        exact hc j u hu
    obtain ⟨v', w', hrun, h2, h3, _, h5⟩ := run_append_own_at (P := P) w base t ty e i z size bytes ht hi hz hsize hby hzs hsz v n xs hown ad m c news hr.1 hcells h1 h63 hbytes hbase
    exact ⟨v', w', hrun, h2, h3, h5⟩

theorem wp_append_any {o : Oper} {a : Act} {K : Act → World → Prop} {Q : Exit → Act → World → Prop} (s x : Operand) (t : TypeId)
    (ho : o.op = .call { callee := .builtin .append, args := #[s, x], argTypes := #[t, t] })
    (base : Nat) (e : TypeId) (i : TypeInfo) (z : Value) (size bytes : Nat) (ht : P.underlying t = some (.slice e)) (hi : P.info? e = some i) (hz : i.zero = some z)
    (hsize : i.size = size) (hby : i.bytes = bytes) (hzs : z.cells.size = size) (hsz : 0 < size)
    (v : Value) (n : Nat) (xs : List Value) (hs : a.eval s = v) (hown : w.ownsRow base e size v n xs)
    (F : Nat → Prop) (A : Option Addr) (m c : Nat) (news : List Value) (hx : a.eval x = .slice A m c) (hr : Rd w F size A m news) (h1 : ∀ u ∈ news, u.oneCell' = true)
    (h63 : n + m ≤ maxLen) (hbytes : (n + m) * bytes ≤ 140737488355328) (hbase : base ≤ w.heap.size)
    (h : ∀ v' w', w'.ownsRow base e size v' (n + m) (xs ++ news) → w.grownBy w' v.ownBlock → (v'.ownBlock = v.ownBlock ∨ v'.ownBlock = some w.heap.size) → K (a.put o.dst v') w') : o.wp P a w K Q := by
  obtain ⟨v', w', hrun, h2, h3, h4⟩ := run_append_any (P := P) w base t o.type e i z size bytes ht hi hz hsize hby hzs hsz v n xs hown F A m c news hr h1 h63 hbytes hbase
  unfold Oper.wp execOp
  simp only [ho, resolve, invoke, builtin, Sem.run_bind, Sem.run_pure, Result.andThen_ok, List.map_toArray, List.map_cons, List.map_nil, hs, hx, hrun]
  exact h v' w' h2 h3 h4

theorem wpList_append_any {ops : Array Oper} {rest : List Oper} {o : Oper} {a : Act} {Q : Exit → Act → World → Prop} (hgd : o.guard = none) (s x : Operand) (t : TypeId)
    (ho : o.op = .call { callee := .builtin .append, args := #[s, x], argTypes := #[t, t] })
    (base : Nat) (e : TypeId) (i : TypeInfo) (z : Value) (size bytes : Nat) (ht : P.underlying t = some (.slice e)) (hi : P.info? e = some i) (hz : i.zero = some z)
    (hsize : i.size = size) (hby : i.bytes = bytes) (hzs : z.cells.size = size) (hsz : 0 < size)
    (v : Value) (n : Nat) (xs : List Value) (hs : a.eval s = v) (hown : w.ownsRow base e size v n xs)
    (F : Nat → Prop) (A : Option Addr) (m c : Nat) (news : List Value) (hx : a.eval x = .slice A m c) (hr : Rd w F size A m news) (h1 : ∀ u ∈ news, u.oneCell' = true)
    (h63 : n + m ≤ maxLen) (hbytes : (n + m) * bytes ≤ 140737488355328) (hbase : base ≤ w.heap.size)
    (h : ∀ v' w', w'.ownsRow base e size v' (n + m) (xs ++ news) → w.grownBy w' v.ownBlock → (v'.ownBlock = v.ownBlock ∨ v'.ownBlock = some w.heap.size) → wpList P ops Q rest (a.put o.dst v') w') : wpList P ops Q (o :: rest) a w :=
  wpList_plain hgd fun _ hK => wp_append_any w s x t ho base e i z size bytes ht hi hz hsize hby hzs hsz v n xs hs hown F A m c news hx hr h1 h63 hbytes hbase fun v' w' h2 h3 h4 => hK _ _ (h v' w' h2 h3 h4)

theorem step_append_any {ops : Array Oper} {o : Oper} {a : Act} {K : Act → World → Prop} {Q : Exit → Act → World → Prop} {E : Prop} (hgd : o.guard = none) (s x : Operand) (t : TypeId)
    (ho : o.op = .call { callee := .builtin .append, args := #[s, x], argTypes := #[t, t] })
    (base : Nat) (e : TypeId) (i : TypeInfo) (z : Value) (size bytes : Nat) (ht : P.underlying t = some (.slice e)) (hi : P.info? e = some i) (hz : i.zero = some z)
    (hsize : i.size = size) (hby : i.bytes = bytes) (hzs : z.cells.size = size) (hsz : 0 < size)
    (v : Value) (n : Nat) (xs : List Value) (hs : a.eval s = v) (hown : w.ownsRow base e size v n xs)
    (F : Nat → Prop) (A : Option Addr) (m c : Nat) (news : List Value) (hx : a.eval x = .slice A m c) (hr : Rd w F size A m news) (h1 : ∀ u ∈ news, u.oneCell' = true)
    (h63 : n + m ≤ maxLen) (hbytes : (n + m) * bytes ≤ 140737488355328) (hbase : base ≤ w.heap.size)
    (h : ∀ v' w', w'.ownsRow base e size v' (n + m) (xs ++ news) → w.grownBy w' v.ownBlock → (v'.ownBlock = v.ownBlock ∨ v'.ownBlock = some w.heap.size) → K (a.put o.dst v') w') :
    if Region.wanted o (yielded ops a.tmps) = true then Oper.wp P o a w K Q else E := by
  have hw : Region.wanted o (yielded ops a.tmps) = true := by simp [Region.wanted, hgd]
  rw [if_pos hw]
  exact wp_append_any w s x t ho base e i z size bytes ht hi hz hsize hby hzs hsz v n xs hs hown F A m c news hx hr h1 h63 hbytes hbase h
end

/-- an empty row that the call has just made -/
theorem own_made (w : World) (e : TypeId) (size : Nat) : (w.alloc (.cells #[] e)).ownsRow w.heap.size e size (.slice (some ⟨w.heap.size, 0, none⟩) 0 0) 0 [] :=
  ⟨by simp, .inr ⟨w.heap.size, 0, #[], rfl, Nat.le_refl _, heap_alloc_new w _, Nat.le_refl _, by simp [maxLen], by simp, by simp⟩⟩
/-- the value of a row that is owned -/
theorem own_val {w : World} {base : Nat} {e : TypeId} {size n : Nat} {v : Value} {xs : List Value} (h : w.ownsRow base e size v n xs) : ∃ A c, v = .slice A n c ∧ n ≤ c ∧ c ≤ maxLen := by
  rcases h.2 with ⟨rfl, rfl⟩ | ⟨g, cap, cur, rfl, _, _, h1, h2, _⟩
  · exact ⟨none, 0, rfl, Nat.le_refl _, by simp [maxLen]⟩
  · exact ⟨_, cap, rfl, h1, h2⟩
theorem own_mono {w : World} {base base' : Nat} {e : TypeId} {size n : Nat} {v : Value} {xs : List Value} (h : w.ownsRow base e size v n xs) (hb : base' ≤ base) : w.ownsRow base' e size v n xs := by
  refine ⟨h.1, ?_⟩
  rcases h.2 with h2 | ⟨g, cap, cur, hv, hg, r⟩
  · exact .inl h2
  · exact .inr ⟨g, cap, cur, hv, Nat.le_trans hb hg, r⟩
theorem own_SB {w : World} {base : Nat} {e : TypeId} {n : Nat} {v : Value} {bs : List UInt8} (h : w.ownsRow base e 1 v n (bvs bs)) : SB w (From base) v bs := by
  obtain ⟨A, c, rfl, h1, h2⟩ := own_val h
  exact ⟨A, n, c, rfl, h1, h2, by have := h.1; simpa [bvs] using this.symm, Rd.of_own h⟩
theorem own_chg {S : Nat → Prop} {w w' : World} {base : Nat} {e : TypeId} {size n : Nat} {v : Value} {xs : List Value} (h : w.ownsRow base e size v n xs) (hc : Chg S w w') (hs : ∀ g, v.ownBlock = some g → ¬ S g) : w'.ownsRow base e size v n xs := by
  refine ⟨h.1, ?_⟩
  rcases h.2 with h2 | ⟨g, cap, cur, rfl, hg, hh, r⟩
  · exact .inl h2
  · refine .inr ⟨g, cap, cur, rfl, hg, ?_, r⟩
    have hlt : g < w.heap.size := by
      rcases Nat.lt_or_ge g w.heap.size with h1 | h1
      · exact h1
      · rw [Array.getElem?_eq_none h1] at hh; cases hh
    rw [hc.block g hlt (hs g (by simp [Value.ownBlock]))]; exact hh
theorem own_below {w w' : World} {base : Nat} {e : TypeId} {size n : Nat} {v : Value} {xs : List Value} (h : w.ownsRow base e size v n xs) (hb : Below w.heap.size w w') : w'.ownsRow base e size v n xs :=
  own_chg h (Chg.of_below (S := Nil) hb) (fun _ _ hf => hf)
theorem own_lt {w : World} {base : Nat} {e : TypeId} {size n : Nat} {v : Value} {xs : List Value} (h : w.ownsRow base e size v n xs) : ∀ g, v.ownBlock = some g → base ≤ g ∧ g < w.heap.size := h.lt
end Go.Proofs.Ytpbnngfiinihmaa

namespace Go.Proofs.Ytpbnngfiinihmaa

/-- by key, then by number -/
def LL (κ : Int → Int) (x y : Int) : Prop := κ x < κ y ∨ (κ x = κ y ∧ x < y)
section
variable {κ : Int → Int} {x y z : Int}
theorem LL.trans (h : LL κ x y) (k : LL κ y z) : LL κ x z := by unfold LL at *; omega
theorem LL.irrefl (h : LL κ x x) : False := by unfold LL at h; omega
theorem LL.asymm (h : LL κ x y) (k : LL κ y x) : False := (h.trans k).irrefl
theorem LL.total (h : x ≠ y) : LL κ x y ∨ LL κ y x := by unfold LL; omega
/-- of two numbers in their own order the key alone decides -/
theorem LL.key (h : x < y) : LL κ y x ↔ κ y < κ x := by unfold LL; omega
theorem LL.key' (h : x < y) : LL κ x y ↔ ¬ κ y < κ x := by unfold LL; omega
end

/-- rising, from place a up to place b -/
def Srt (κ : Int → Int) (a b : Nat) (xs : Nat → Int) : Prop := ∀ i j, a ≤ i → i < j → j < b → LL κ (xs i) (xs j)
/-- the same numbers at the places from a up to b -/
def SameS (a b : Nat) (xs ys : Nat → Int) : Prop := ∀ v, (∃ i, a ≤ i ∧ i < b ∧ xs i = v) ↔ (∃ i, a ≤ i ∧ i < b ∧ ys i = v)
/-- all else is as it was -/
def Out (a b : Nat) (xs ys : Nat → Int) : Prop := ∀ i, ¬ (a ≤ i ∧ i < b) → ys i = xs i
section
variable {κ : Int → Int} {a b c m : Nat} {xs ys zs : Nat → Int}
theorem SameS.refl (a b : Nat) (xs : Nat → Int) : SameS a b xs xs := fun _ => Iff.rfl
theorem SameS.of_eq (he : ∀ i, a ≤ i → i < b → ys i = xs i) : SameS a b xs ys := fun v =>
  ⟨fun ⟨i, i1, i2, e⟩ => ⟨i, i1, i2, by rw [he i i1 i2]; exact e⟩, fun ⟨i, i1, i2, e⟩ => ⟨i, i1, i2, by rw [← he i i1 i2]; exact e⟩⟩
theorem SameS.trans (h : SameS a b xs ys) (k : SameS a b ys zs) : SameS a b xs zs := fun v => (h v).trans (k v)
theorem SameS.symm (h : SameS a b xs ys) : SameS a b ys xs := fun v => (h v).symm
theorem Out.refl (a b : Nat) (xs : Nat → Int) : Out a b xs xs := fun _ _ => rfl
theorem Out.trans (h : Out a b xs ys) (k : Out a b ys zs) : Out a b xs zs := fun i hi => (k i hi).trans (h i hi)
theorem Out.mono {a' b' : Nat} (h : Out a b xs ys) (h1 : a' ≤ a) (h2 : b ≤ b') : Out a' b' xs ys := fun i hi => h i (fun hx => hi ⟨by omega, by omega⟩)
/-- the same numbers in two parts -/
theorem SameS.join (h1 : a ≤ m) (h2 : m ≤ b) (h : SameS a m xs ys) (k : SameS m b xs ys) : SameS a b xs ys := by
  intro v
  constructor
  · rintro ⟨i, i1, i2, e⟩
    rcases Nat.lt_or_ge i m with hi | hi
    · obtain ⟨j, j1, j2, e'⟩ := (h v).1 ⟨i, i1, hi, e⟩; exact ⟨j, j1, by omega, e'⟩
    · obtain ⟨j, j1, j2, e'⟩ := (k v).1 ⟨i, hi, i2, e⟩; exact ⟨j, by omega, j2, e'⟩
  · rintro ⟨i, i1, i2, e⟩
    rcases Nat.lt_or_ge i m with hi | hi
    · obtain ⟨j, j1, j2, e'⟩ := (h v).2 ⟨i, i1, hi, e⟩; exact ⟨j, j1, by omega, e'⟩
    · obtain ⟨j, j1, j2, e'⟩ := (k v).2 ⟨i, hi, i2, e⟩; exact ⟨j, by omega, j2, e'⟩
theorem Srt.sub {a' b' : Nat} (h : Srt κ a b xs) (h1 : a ≤ a') (h2 : b' ≤ b) : Srt κ a' b' xs := fun i j hi hij hj => h i j (by omega) hij (by omega)
theorem Srt.one (h : b ≤ a + 1) : Srt κ a b xs := fun i j hi hij hj => by omega
theorem Srt.congr (h : Srt κ a b xs) (he : ∀ i, a ≤ i → i < b → ys i = xs i) : Srt κ a b ys := fun i j hi hij hj => by rw [he i hi (by omega), he j (by omega) hj]; exact h i j hi hij hj
/-- two parts that rise, the one ahead of the other -/
theorem Srt.join (h : Srt κ a m xs) (k : Srt κ m b xs) (hx : ∀ i j, a ≤ i → i < m → m ≤ j → j < b → LL κ (xs i) (xs j)) : Srt κ a b xs := fun i j hi hij hj => by
  rcases Nat.lt_or_ge j m with h1 | h1
  · exact h i j hi hij h1
  · rcases Nat.lt_or_ge i m with h2 | h2
    · exact hx i j hi h2 h1 hj
    · exact k i j h2 hij hj
/-- what rises, and holds the same numbers, is the same -/
theorem Srt.unique : ∀ (n a b : Nat), b = a + n → ∀ {xs ys : Nat → Int}, Srt κ a b xs → Srt κ a b ys → SameS a b xs ys → ∀ i, a ≤ i → i < b → xs i = ys i := by
  intro n
  induction n with
  | zero => intro a b hb xs ys _ _ _ i h1 h2; omega
  | succ n ih =>
    intro a b hb xs ys hx hy hs
    -- the first ones are the same
    have h0 : xs a = ys a := by
      obtain ⟨i, i1, i2, e1⟩ := (hs (xs a)).1 ⟨a, Nat.le_refl _, by omega, rfl⟩
      obtain ⟨j, j1, j2, e2⟩ := (hs (ys a)).2 ⟨a, Nat.le_refl _, by omega, rfl⟩
      rcases Nat.eq_or_lt_of_le i1 with hi | hi
      · rw [← e1, ← hi]
      · rcases Nat.eq_or_lt_of_le j1 with hj | hj
        · rw [← e2, ← hj]
        · have q1 := hy a i (Nat.le_refl _) hi i2
          have q2 := hx a j (Nat.le_refl _) hj j2
          rw [e1] at q1; rw [e2] at q2
          exact (q1.asymm q2).elim
    have hs' : SameS (a + 1) b xs ys := by
      intro v
      constructor
      · rintro ⟨i, i1, i2, e⟩
        obtain ⟨j, j1, j2, e'⟩ := (hs v).1 ⟨i, by omega, i2, e⟩
        rcases Nat.eq_or_lt_of_le j1 with hj | hj
        · have q := hx a i (Nat.le_refl _) (by omega) i2
          rw [e, ← e', ← hj, ← h0] at q
          exact q.irrefl.elim
        · exact ⟨j, hj, j2, e'⟩
      · rintro ⟨i, i1, i2, e⟩
        obtain ⟨j, j1, j2, e'⟩ := (hs v).2 ⟨i, by omega, i2, e⟩
        rcases Nat.eq_or_lt_of_le j1 with hj | hj
        · have q := hy a i (Nat.le_refl _) (by omega) i2
          rw [e, ← e', ← hj, h0] at q
          exact q.irrefl.elim
        · exact ⟨j, hj, j2, e'⟩
    intro i h1 h2
    rcases Nat.eq_or_lt_of_le h1 with hi | hi
    · rw [← hi]; exact h0
    · exact ih (a + 1) b (by omega) (hx.sub (by omega) (Nat.le_refl _)) (hy.sub (by omega) (Nat.le_refl _)) hs' i hi h2
end

/-- places [s, m) and [m, e) have changed places -/
def Rot (s m e : Nat) (xs ys : Nat → Int) : Prop := (∀ t, t < e - m → ys (s + t) = xs (m + t)) ∧ (∀ t, t < m - s → ys (s + (e - m) + t) = xs (s + t)) ∧ Out s e xs ys
theorem Rot.same {s m e : Nat} {xs ys : Nat → Int} (h : Rot s m e xs ys) (h1 : s ≤ m) (h2 : m ≤ e) : SameS s e xs ys := by
  intro v
  constructor
  · rintro ⟨i, i1, i2, rfl⟩
    rcases Nat.lt_or_ge i m with hi | hi
    · exact ⟨s + (e - m) + (i - s), by omega, by omega, by rw [h.2.1 (i - s) (by omega), show s + (i - s) = i by omega]⟩
    · exact ⟨s + (i - m), by omega, by omega, by rw [h.1 (i - m) (by omega), show m + (i - m) = i by omega]⟩
  · rintro ⟨i, i1, i2, rfl⟩
    rcases Nat.lt_or_ge i (s + (e - m)) with hi | hi
    · exact ⟨m + (i - s), by omega, by omega, by rw [← h.1 (i - s) (by omega), show s + (i - s) = i by omega]⟩
    · exact ⟨s + (i - (s + (e - m))), by omega, by omega, by rw [← h.2.1 (i - (s + (e - m))) (by omega), show s + (e - m) + (i - (s + (e - m))) = i by omega]⟩

/-- what a merge is given -/
structure Mrg (κ : Int → Int) (a m b : Nat) (xs : Nat → Int) : Prop where
  am : a ≤ m
  mb : m ≤ b
  left : Srt κ a m xs
  right : Srt κ m b xs
  cross : ∀ i j, a ≤ i → i < m → m ≤ j → j < b → xs i < xs j
/-- what a merge makes -/
structure Mrgd (κ : Int → Int) (a b : Nat) (xs ys : Nat → Int) : Prop where
  srt : Srt κ a b ys
  same : SameS a b xs ys
  out : Out a b xs ys
theorem Mrgd.id {κ : Int → Int} {a b : Nat} {xs : Nat → Int} (h : Srt κ a b xs) : Mrgd κ a b xs xs := ⟨h, SameS.refl _ _ _, Out.refl _ _ _⟩

/-- the two halves: start is found where the loop says; [start, m) and [m, e) are turned; both halves are merged -/
theorem merge_join {κ : Int → Int} {a m b mid s e : Nat} {xs ys zs us : Nat → Int} (h : Mrg κ a m b xs) (hmid : mid = (a + b) / 2) (hs1 : a ≤ s) (hs2 : s ≤ m) (he1 : m ≤ e) (he2 : e ≤ b) (hse : s + e = mid + m)
    (hlo : a < s → e < b → LL κ (xs (s - 1)) (xs e)) (hhi : s < m → m < e → LL κ (xs (e - 1)) (xs s))
    (hr : Rot s m e xs ys) (h1 : Mrgd κ a mid ys zs) (h2 : Mrgd κ mid b zs us) : Mrgd κ a b xs us := by
  have hm1 : a ≤ mid := by omega
  have hm2 : mid ≤ b := by omega
  -- where the numbers of the halves come from
  have lowS : ∀ i, a ≤ i → i < mid → (∃ j, a ≤ j ∧ j < s ∧ us i = xs j) ∨ (∃ j, m ≤ j ∧ j < e ∧ us i = xs j) := by
    intro i hi1 hi2
    have e1 : us i = zs i := h2.out i (by omega)
    obtain ⟨j, j1, j2, e2⟩ := (h1.same (zs i)).2 ⟨i, hi1, hi2, rfl⟩
    rcases Nat.lt_or_ge j s with hj | hj
    · exact .inl ⟨j, j1, hj, by rw [e1, ← e2]; exact hr.2.2 j (by omega)⟩
    · exact .inr ⟨m + (j - s), by omega, by omega, by rw [e1, ← e2, ← hr.1 (j - s) (by omega), show s + (j - s) = j by omega]⟩
  have highS : ∀ i, mid ≤ i → i < b → (∃ j, s ≤ j ∧ j < m ∧ us i = xs j) ∨ (∃ j, e ≤ j ∧ j < b ∧ us i = xs j) := by
    intro i hi1 hi2
    obtain ⟨j, j1, j2, e2⟩ := (h2.same (us i)).2 ⟨i, hi1, hi2, rfl⟩
    have e3 : zs j = ys j := h1.out j (by omega)
    rcases Nat.lt_or_ge j e with hj | hj
    · exact .inl ⟨s + (j - mid), by omega, by omega, by rw [← e2, e3, ← hr.2.1 (j - mid) (by omega), show s + (e - m) + (j - mid) = j by omega]⟩
    · exact .inr ⟨j, hj, j2, by rw [← e2, e3]; exact hr.2.2 j (by omega)⟩
  have cut : ∀ i j, a ≤ i → i < mid → mid ≤ j → j < b → LL κ (us i) (us j) := by
    intro i j i1 i2 j1 j2
    rcases lowS i i1 i2 with ⟨p, p1, p2, ep⟩ | ⟨p, p1, p2, ep⟩ <;> rcases highS j j1 j2 with ⟨q, q1, q2, eq⟩ | ⟨q, q1, q2, eq⟩ <;> rw [ep, eq]
    · exact h.left p q (by omega) (by omega) (by omega)
    · have c := hlo (by omega) (by omega)
      have d1 : xs p = xs (s - 1) ∨ LL κ (xs p) (xs (s - 1)) := by
        rcases Nat.eq_or_lt_of_le (show p ≤ s - 1 by omega) with e' | e'
        · rw [e']; exact .inl rfl
        · exact .inr (h.left p (s - 1) p1 e' (by omega))
      have d2 : xs e = xs q ∨ LL κ (xs e) (xs q) := by
        rcases Nat.eq_or_lt_of_le q1 with e' | e'
        · rw [e']; exact .inl rfl
        · exact .inr (h.right e q he1 e' q2)
      rcases d1 with d1 | d1 <;> rcases d2 with d2 | d2
      · rw [d1, ← d2]; exact c
      · rw [d1]; exact c.trans d2
      · rw [← d2]; exact d1.trans c
      · exact (d1.trans c).trans d2
    · have c := hhi (by omega) (by omega)
      have d1 : xs p = xs (e - 1) ∨ LL κ (xs p) (xs (e - 1)) := by
        rcases Nat.eq_or_lt_of_le (show p ≤ e - 1 by omega) with e' | e'
        · rw [e']; exact .inl rfl
        · exact .inr (h.right p (e - 1) p1 e' (by omega))
      have d2 : xs s = xs q ∨ LL κ (xs s) (xs q) := by
        rcases Nat.eq_or_lt_of_le q1 with e' | e'
        · rw [e']; exact .inl rfl
        · exact .inr (h.left s q hs1 e' q2)
      rcases d1 with d1 | d1 <;> rcases d2 with d2 | d2
      · rw [d1, ← d2]; exact c
      · rw [d1]; exact c.trans d2
      · rw [← d2]; exact d1.trans c
      · exact (d1.trans c).trans d2
    · exact h.right p q p1 (by omega) q2
  refine ⟨(h1.srt.congr fun i i1 i2 => h2.out i (by omega)).join h2.srt cut, ?_, ?_⟩
  · have r1 : SameS a b xs ys := SameS.join (m := s) hs1 (by omega) (SameS.of_eq fun i i1 i2 => hr.2.2 i (by omega)) (SameS.join (m := e) (by omega) he2 (hr.same hs2 he1) (SameS.of_eq fun i i1 i2 => hr.2.2 i (by omega)))
    have r2 : SameS a b ys zs := SameS.join (m := mid) hm1 hm2 h1.same (SameS.of_eq fun i i1 i2 => h1.out i (by omega))
    have r3 : SameS a b zs us := SameS.join (m := mid) hm1 hm2 (SameS.of_eq fun i i1 i2 => h2.out i (by omega)) h2.same
    exact (r1.trans r2).trans r3
  · exact ((Out.mono hr.2.2 hs1 he2).trans (h1.out.mono (Nat.le_refl _) hm2)).trans (h2.out.mono hm1 (Nat.le_refl _))
/-- the first half is given what a merge is given -/
theorem merge_first {κ : Int → Int} {a m b mid s e : Nat} {xs ys : Nat → Int} (h : Mrg κ a m b xs) (hs1 : a ≤ s) (hs2 : s ≤ m) (he1 : m ≤ e) (he2 : e ≤ b) (hse : s + e = mid + m) (hr : Rot s m e xs ys) : Mrg κ a s mid ys := by
  have lo : ∀ i, i < s → ys i = xs i := fun i hi => hr.2.2 i (by omega)
  have hi : ∀ i, s ≤ i → i < mid → ys i = xs (m + (i - s)) := fun i h1 h2 => by rw [← hr.1 (i - s) (by omega), show s + (i - s) = i by omega]
  refine ⟨hs1, by omega, (h.left.sub (Nat.le_refl _) hs2).congr (fun i _ h2 => lo i h2), fun i j h1 h2 h3 => ?_, fun i j h1 h2 h3 h4 => ?_⟩
  · rw [hi i h1 (by omega), hi j (by omega) h3]; exact h.right _ _ (by omega) (by omega) (by omega)
  · rw [lo i h2, hi j h3 h4]; exact h.cross _ _ h1 (by omega) (by omega) (by omega)
/-- .. and the second one -/
theorem merge_second {κ : Int → Int} {a m b mid s e : Nat} {xs ys zs : Nat → Int} (h : Mrg κ a m b xs) (hs1 : a ≤ s) (hs2 : s ≤ m) (he1 : m ≤ e) (he2 : e ≤ b) (hse : s + e = mid + m) (hr : Rot s m e xs ys) (ho : Out a mid ys zs) : Mrg κ mid e b zs := by
  have lo : ∀ i, mid ≤ i → i < e → zs i = xs (s + (i - mid)) := fun i h1 h2 => by rw [ho i (by omega), ← hr.2.1 (i - mid) (by omega), show s + (e - m) + (i - mid) = i by omega]
  have hi : ∀ i, e ≤ i → i < b → zs i = xs i := fun i h1 h2 => by rw [ho i (by omega), hr.2.2 i (by omega)]
  refine ⟨by omega, he2, fun i j h1 h2 h3 => ?_, fun i j h1 h2 h3 => ?_, fun i j h1 h2 h3 h4 => ?_⟩
  · rw [lo i h1 (by omega), lo j (by omega) h3]; exact h.left _ _ (by omega) (by omega) (by omega)
  · rw [hi i h1 (by omega), hi j (by omega) h3]; exact h.right _ _ (by omega) h2 h3
  · rw [lo i h1 h2, hi j h3 h4]; exact h.cross _ _ (by omega) (by omega) (by omega) h4
/-- the left part is one number: it goes to the place that the search has found -/
theorem merge_left1 {κ : Int → Int} {a m b i : Nat} {xs ys : Nat → Int} (h : Mrg κ a m b xs) (hm : m = a + 1) (hi1 : m ≤ i) (hi2 : i ≤ b) (hlo : m < i → LL κ (xs (i - 1)) (xs a)) (hhi : i < b → LL κ (xs a) (xs i)) (hr : Rot a m i xs ys) : Mrgd κ a b xs ys := by
  have r1 : ∀ t, a ≤ t → t + 1 < i → ys t = xs (t + 1) := fun t h1 h2 => by rw [show ys t = ys (a + (t - a)) by rw [show a + (t - a) = t by omega], hr.1 (t - a) (by omega), show m + (t - a) = t + 1 by omega]
  have r2 : ys (i - 1) = xs a := by
    have := hr.2.1 0 (by omega)
    rw [show a + (i - m) + 0 = i - 1 by omega, Nat.add_zero] at this
    exact this
  have r3 : ∀ t, i ≤ t → ys t = xs t := fun t h1 => hr.2.2 t (by omega)
  have all1 : ∀ t, m ≤ t → t < i → LL κ (xs t) (xs a) := fun t h1 h2 => by
    rcases Nat.eq_or_lt_of_le (show t ≤ i - 1 by omega) with e | e
    · rw [e]; exact hlo (by omega)
    · exact (h.right t (i - 1) h1 e (by omega)).trans (hlo (by omega))
  have all2 : ∀ t, i ≤ t → t < b → LL κ (xs a) (xs t) := fun t h1 h2 => by
    rcases Nat.eq_or_lt_of_le h1 with e | e
    · rw [← e]; exact hhi (by omega)
    · exact (hhi (by omega)).trans (h.right i t hi1 e h2)
  refine ⟨fun u v h1 h2 h3 => ?_, ?_, hr.2.2.mono (Nat.le_refl _) hi2⟩
  · rcases Nat.lt_or_ge (u + 1) i with hu | hu
    · rw [r1 u h1 hu]
      rcases Nat.lt_or_ge (v + 1) i with hv | hv
      · rw [r1 v (by omega) hv]; exact h.right _ _ (by omega) (by omega) (by omega)
      · rcases Nat.lt_or_ge v i with hv2 | hv2
        · rw [show v = i - 1 by omega, r2]; exact all1 _ (by omega) (by omega)
        · rw [r3 v hv2]; exact h.right _ _ (by omega) (by omega) h3
    · rcases Nat.lt_or_ge u i with hu2 | hu2
      · rw [show u = i - 1 by omega, r2, r3 v (by omega)]; exact all2 v (by omega) h3
      · rw [r3 u hu2, r3 v (by omega)]; exact h.right _ _ (by omega) h2 h3
  · exact SameS.join (m := i) (by omega) hi2 (hr.same (by omega) hi1) (SameS.of_eq fun t h1 _ => r3 t h1)
/-- the right part is one number -/
theorem merge_right1 {κ : Int → Int} {a m b i : Nat} {xs ys : Nat → Int} (h : Mrg κ a m b xs) (hm : b = m + 1) (hi1 : a ≤ i) (hi2 : i ≤ m) (hlo : a < i → LL κ (xs (i - 1)) (xs m)) (hhi : i < m → LL κ (xs m) (xs i)) (hr : Rot i m b xs ys) : Mrgd κ a b xs ys := by
  have r1 : ys i = xs m := by
    have := hr.1 0 (by omega)
    rwa [Nat.add_zero, Nat.add_zero] at this
  have r2 : ∀ t, i < t → t < b → ys t = xs (t - 1) := fun t h1 h2 => by
    have := hr.2.1 (t - 1 - i) (by omega)
    rw [show i + (b - m) + (t - 1 - i) = t by omega, show i + (t - 1 - i) = t - 1 by omega] at this
    exact this
  have r3 : ∀ t, t < i → ys t = xs t := fun t h1 => hr.2.2 t (by omega)
  have all1 : ∀ t, a ≤ t → t < i → LL κ (xs t) (xs m) := fun t h1 h2 => by
    rcases Nat.eq_or_lt_of_le (show t ≤ i - 1 by omega) with e | e
    · rw [e]; exact hlo (by omega)
    · exact (h.left t (i - 1) h1 e (by omega)).trans (hlo (by omega))
  have all2 : ∀ t, i ≤ t → t < m → LL κ (xs m) (xs t) := fun t h1 h2 => by
    rcases Nat.eq_or_lt_of_le h1 with e | e
    · rw [← e]; exact hhi (by omega)
    · exact (hhi (by omega)).trans (h.left i t hi1 e h2)
  refine ⟨fun u v h1 h2 h3 => ?_, ?_, hr.2.2.mono hi1 (Nat.le_refl _)⟩
  · rcases Nat.lt_or_ge u i with hu | hu
    · rw [r3 u hu]
      rcases Nat.lt_or_ge v i with hv | hv
      · rw [r3 v hv]; exact h.left _ _ h1 h2 (by omega)
      · rcases Nat.eq_or_lt_of_le hv with e | e
        · rw [← e, r1]; exact all1 u h1 hu
        · rw [r2 v e h3]; exact h.left _ _ h1 (by omega) (by omega)
    · rcases Nat.eq_or_lt_of_le hu with e | e
      · rw [← e, r1, r2 v (by omega) h3]; exact all2 _ (by omega) (by omega)
      · rw [r2 u e (by omega), r2 v (by omega) h3]; exact h.left _ _ (by omega) (by omega) (by omega)
  · exact SameS.join (m := i) hi1 (by omega) (SameS.of_eq fun t _ h2 => r3 t h2) (hr.same hi2 (by omega))
/-- the search's loop keeps this; where it ends the two parts may be turned -/
structure Fnd (κ : Int → Int) (m n lo hi : Nat) (xs : Nat → Int) (s r : Nat) : Prop where
  lo_ : lo ≤ s
  le : s ≤ r
  hi_ : r ≤ hi
  below : lo < s → LL κ (xs (s - 1)) (xs (n - s))
  above : r < hi → LL κ (xs (n - 1 - r)) (xs r)
end Go.Proofs.Ytpbnngfiinihmaa

namespace Go.Proofs.Ytpbnngfiinihmaa
open Go.RowKit
/-- the numbers xs at n places of block g, from o on -/
def RowI (w : World) (g o n : Nat) (xs : Nat → Int) : Prop := ∀ i, i < n → w.cell? ⟨g, o + i, none⟩ = some (.int .i64 (xs i)) ∧ w.frozen? ⟨g, o + i, none⟩ = false
/-- one number is another one -/
def put1 (k : Nat) (v : Int) (xs : Nat → Int) : Nat → Int := fun t => if t = k then v else xs t
/-- two numbers have changed places -/
def sw2 (i j : Nat) (xs : Nat → Int) : Nat → Int := fun t => if t = i then xs j else if t = j then xs i else xs t
/-- k numbers from a on have changed places with those from b on -/
def swp (a b k : Nat) (xs : Nat → Int) : Nat → Int := fun t => if a ≤ t ∧ t < a + k then xs (b + (t - a)) else if b ≤ t ∧ t < b + k then xs (a + (t - b)) else xs t
section
variable {w w' : World} {g o n : Nat} {xs ys : Nat → Int} {S : Nat → Prop}
theorem RowI.congr (h : RowI w g o n xs) (he : ∀ i, i < n → ys i = xs i) : RowI w g o n ys := fun i hi => by rw [he i hi]; exact h i hi
theorem RowI.put (h : RowI w g o n xs) {k : Nat} (hk : k < n) (v : Int) : RowI (w.setCell ⟨g, o + k, none⟩ (.int .i64 v)) g o n (put1 k v xs) := fun i hi => by
  refine ⟨?_, (World.frozen?_setCell _ _ _ _).trans (h i hi).2⟩
  unfold put1
  by_cases e : i = k
  · subst e; rw [if_pos rfl]; exact World.cell?_setCell_same _ _ _ (h i hi).1
  · rw [if_neg e, World.cell?_setCell_other _ _ _ _ (by intro e'; injection e' with _ e' _; exact e (by omega))]; exact (h i hi).1
theorem RowI.swap (h : RowI w g o n xs) {i j : Nat} (hi : i < n) (hj : j < n) : RowI ((w.setCell ⟨g, o + i, none⟩ (.int .i64 (xs j))).setCell ⟨g, o + j, none⟩ (.int .i64 (xs i))) g o n (sw2 i j xs) :=
  ((h.put hi (xs j)).put hj (xs i)).congr (fun t _ => by
    unfold sw2 put1
    by_cases e1 : t = i
    · by_cases e2 : t = j
      · rw [if_pos e1, if_pos e2, ← e1, ← e2]
      · rw [if_pos e1, if_neg e2, if_pos e1]
    · by_cases e2 : t = j
      · rw [if_neg e1, if_pos e2, if_pos e2]
      · rw [if_neg e1, if_neg e2, if_neg e2, if_neg e1])
theorem RowI.chg (h : RowI w g o n xs) (hc : Chg S w w') (hs : ¬ S g) : RowI w' g o n xs := fun i hi => by
  have hb := hc.block g (cell_lt (h i hi).1) hs
  have e1 : w'.cell? ⟨g, o + i, none⟩ = w.cell? ⟨g, o + i, none⟩ := by unfold World.cell?; rw [hb]
  have e2 : w'.frozen? ⟨g, o + i, none⟩ = w.frozen? ⟨g, o + i, none⟩ := by unfold World.frozen?; rw [hb]
  rw [e1, e2]; exact h i hi
theorem RowI.drew (h : RowI w g o n xs) : RowI w.drew g o n xs := h
end
theorem swp_zero (a b : Nat) (xs : Nat → Int) : swp a b 0 xs = xs := by funext t; unfold swp; rw [if_neg (by omega), if_neg (by omega)]
theorem swp_succ {a b k : Nat} {xs : Nat → Int} (h : a + k < b) : swp a b (k + 1) xs = sw2 (a + k) (b + k) (swp a b k xs) := by
  funext t
  unfold sw2
  by_cases e1 : t = a + k
  · subst e1
    rw [if_pos rfl]
    unfold swp
    rw [if_pos (by omega), if_neg (by omega), if_neg (by omega)]
    congr 1; omega
  · by_cases e2 : t = b + k
    · subst e2
      rw [if_neg e1, if_pos rfl]
      unfold swp
      rw [if_neg (by omega), if_pos (by omega), if_neg (by omega), if_neg (by omega)]
      congr 1; omega
    · rw [if_neg e1, if_neg e2]
      unfold swp
      by_cases c1 : a ≤ t ∧ t < a + k
      · rw [if_pos (by omega), if_pos c1]
      · rw [if_neg (by omega), if_neg c1]
        by_cases c2 : b ≤ t ∧ t < b + k
        · rw [if_pos (by omega), if_pos c2]
        · rw [if_neg (by omega), if_neg c2]
end Go.Proofs.Ytpbnngfiinihmaa
