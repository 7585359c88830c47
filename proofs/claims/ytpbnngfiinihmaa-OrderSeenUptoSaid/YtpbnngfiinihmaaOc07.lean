/- The plain law of a look: what both Seen functions decide. No program in sight. A table (order.table): a map from texts to slices of bytes that lie elsewhere; it reads as a rising list of entries. A map from texts to numbers of which the keys alone count. Rows of one cell each whose elements are read by a relation; rows of tables. -/
import Derived.Test.YtpbnngfiinihmaaOc03
import Derived.Test.YtpbnngfiinihmaaOc06
import Derived.Maps.OwnSet
import Derived.Maps.RangeWalk
import Derived.StringKeys
import Derived.WalkKit
import Derived.Laws.OwnMore
set_option linter.unusedVariables false
set_option linter.unusedSimpArgs false
namespace Go.Proofs.Ytpbnngfiinihmaa
open Go.RowKit
open Go.Lib (compareBytes)
/-- the keys that a look is asked about -/
def keysE (start l : List Ent) (cs : List CallD) : List (List UInt8) := l.map (·.1) ++ start.map (·.1) ++ (cs.filter (fun c => decide (c.kd = 2 ∨ c.kd = 3))).map (·.key)
/-- the maps that a look may have met -/
noncomputable def looksE (start : List Ent) (cs : List CallD) (a b : Int) (now : List CallD) : List (List Ent) := afterE start cs a :: (now.filter (fun c => decide (a ≤ c.pt ∧ c.pt < b))).map (fun c => afterE start cs (c.pt + 1))
/-- an entry of a look lies in the bounds, and behind the one before it -/
def okE (lo hi : List UInt8) (l : List Ent) (i : Nat) : Prop := ∀ e, l[i]? = some e → inE lo hi e.1 ∧ (0 < i → ∀ p, l[i - 1]? = some p → compareBytes p.1 e.1 < 0)
/-- a key reads in the look as in one of the maps -/
def fitE (looks : List (List Ent)) (l : List Ent) (k : List UInt8) : Prop := ∃ m ∈ looks, hasE m k = hasE l k
def seenE (start l : List Ent) (cs : List CallD) (lo hi : List UInt8) (a b : Int) : Prop :=
  a ≤ b ∧ (∀ i, i < l.length → okE lo hi l i) ∧ ∀ k ∈ keysE start l cs, inE lo hi k → fitE (looksE start cs a b cs) l k
theorem okE_up {lo hi : List UInt8} {l : List Ent} (h : ∀ i, i < l.length → okE lo hi l i) : Up l := by
  unfold Up
  rw [List.pairwise_iff_getElem]
  have key : ∀ d i j (hi : i < l.length) (hj : j < l.length), j = i + 1 + d → TLt l[i].1 l[j].1 := by
    intro d
    induction d with
    | zero =>
      intro i j hi hj e
      have e : j = i + 1 := by omega
      subst e
      exact (h (i + 1) hj l[i+1] (List.getElem?_eq_getElem hj)).2 (by omega) l[i] (by simp)
    | succ d ih =>
      intro i j hi hj e
      have hj' : j - 1 < l.length := by omega
      have h1 := ih i (j - 1) hi hj' (by omega)
      have h2 := (h j hj l[j] (List.getElem?_eq_getElem hj)).2 (by omega) l[j-1] (List.getElem?_eq_getElem hj')
      exact TLt.trans h1 h2
  intro i j hi hj hij
  exact key (j - i - 1) i j hi hj (by omega)
theorem putE_last : ∀ (m : List Ent) (x : Ent), (∀ e ∈ m, TLt e.1 x.1) → putE m x = m ++ [x]
  | [], x, _ => rfl
  | y :: r, x, h => by
    unfold putE
    have h1 : compareBytes y.1 x.1 < 0 := h y (List.mem_cons_self ..)
    rw [if_pos h1, putE_last r x (fun e he => h e (List.mem_cons_of_mem _ he))]
    rfl
theorem fold_rising : ∀ (l m : List Ent), Up (m ++ l) → l.foldl putE m = m ++ l
  | [], m, _ => by simp
  | x :: r, m, h => by
    have h' : Up ((m ++ [x]) ++ r) := by simpa using h
    have hx : ∀ e ∈ m, TLt e.1 x.1 := fun e he => (List.pairwise_append.1 h).2.2 e he x (List.mem_cons_self ..)
    rw [List.foldl_cons, putE_last m x hx, fold_rising r (m ++ [x]) h']
    simp
theorem mapE_rising {l : List Ent} (h : Up l) : mapE l = l := by have := fold_rising l [] (by simpa using h); simpa [mapE] using this
/-- two answers of a map are one just if both are there or none, and the texts are one -/
theorem opt_same {a b : Option (List UInt8)} : a = b ↔ (b.isSome = a.isSome ∧ a.getD [] = b.getD []) := by
  cases a <;> cases b <;> simp
theorem take_succ_keys {l : List Ent} {i : Nat} {e : Ent} (h : l[i]? = some e) : (l.take (i + 1)).map (·.1) = (l.take i).map (·.1) ++ [e.1] := by
  rw [List.take_add_one, h]; simp
theorem take_all {α : Type} {l : List α} {n : Nat} (h : n = l.length) : l.take n = l := List.take_of_length_le (by omega)
def keysC (cs : List CallD) (j : Nat) : List (List UInt8) := ((cs.take j).filter (fun c => decide (c.kd = 2 ∨ c.kd = 3))).map (·.key)
theorem keysC_yes {cs : List CallD} {j : Nat} {c : CallD} (h : cs[j]? = some c) (hk : c.kd = 2 ∨ c.kd = 3) : keysC cs (j + 1) = keysC cs j ++ [c.key] := by
  unfold keysC; rw [List.take_add_one, h]; simp [List.filter_append, hk]
theorem keysC_no {cs : List CallD} {j : Nat} {c : CallD} (h : cs[j]? = some c) (hk : ¬ (c.kd = 2 ∨ c.kd = 3)) : keysC cs (j + 1) = keysC cs j := by
  unfold keysC; rw [List.take_add_one, h]; simp [List.filter_append, hk]
theorem looks_yes {start : List Ent} {cs : List CallD} {a b : Int} {j : Nat} {c : CallD} (h : cs[j]? = some c) (hk : a ≤ c.pt ∧ c.pt < b) : looksE start cs a b (cs.take (j + 1)) = looksE start cs a b (cs.take j) ++ [afterE start cs (c.pt + 1)] := by
  unfold looksE; rw [List.take_add_one, h]; simp [List.filter_append, hk]
theorem looks_no {start : List Ent} {cs : List CallD} {a b : Int} {j : Nat} {c : CallD} (h : cs[j]? = some c) (hk : ¬ (a ≤ c.pt ∧ c.pt < b)) : looksE start cs a b (cs.take (j + 1)) = looksE start cs a b (cs.take j) := by
  unfold looksE; rw [List.take_add_one, h]
  rw [List.filter_append]
  simp only [Option.toList, List.filter_cons, List.filter_nil, hk, decide_false]
  simp
theorem keysE_eq (start l : List Ent) (cs : List CallD) : keysE start l cs = l.map (·.1) ++ start.map (·.1) ++ keysC cs cs.length := by
  unfold keysE keysC; rw [List.take_length]
end Go.Proofs.Ytpbnngfiinihmaa

namespace Go.Proofs.Ytpbnngfiinihmaa
open Go.RowKit Go.Maps
theorem strKeyed : Keyed Try.prog 9 := string_keyed Try.underlying9
theorem bsZero (w : World) : (zeroValue 36).run Try.prog w = .ok (.slice none 0 0) w := by kernel_rfl
/-- an element is read as it stands -/
def rawE (v : Value) : Option (DataW Value × List MemPlace) := some (.held v, [])
/-- the key of a text -/
def kl (k : List UInt8) : Lit := .string k
theorem kl_inj {a b : List UInt8} (h : kl a = kl b) : a = b := by injection h
theorem kl_key (k : List UInt8) : WideAt.IsKeyLit (kl k) := by simp [WideAt.IsKeyLit, kl]
theorem keyOf_sOf {k : List UInt8} (hk : k.length ≤ maxLen) : keyOf Try.prog 9 (.string (sOf k)) = some (kl k) := by
  have h := Go.WideMaps.keyOf_string_mk (P := Try.prog) (k := 9) Try.underlying9 (s := sOf k) (by simpa [sOf, ByteArray.size] using hk)
  rw [h]; simp [sOf, kl]
/-- block b is a table of at most n entries that reads as m; its texts lie in F -/
def TabM (w : World) (b n : Nat) (F : Nat → Prop) (m : List Ent) : Prop :=
  ∃ D : DataW Value, w.ownsMap Try.prog 9 rawE b n D ∧ IsMap D ∧ (∀ k, has D (kl k) = (hasE m k).isSome) ∧ ∀ k v, hasE m k = some v → ∃ u, (∀ z, D.atKey (kl k) z = .held u) ∧ SB w F u v
section
variable {w w' : World} {b n : Nat} {F G S : Nat → Prop} {m : List Ent}
theorem TabM.made (w : World) (F : Nat → Prop) : TabM (w.alloc (.map #[] 0)) w.heap.size 0 F [] := ⟨.map [], World.ownsMap_made _ _ _ _, isMap_empty, fun k => rfl, fun k v h => by cases h⟩
theorem TabM.lt (h : TabM w b n F m) : b < w.heap.size := by obtain ⟨D, h, _⟩ := h; exact h.lt
theorem TabM.weak (h : TabM w b n F m) (hF : ∀ b, F b → G b) : TabM w b n G m :=
  let ⟨D, a, i, c, d⟩ := h; ⟨D, a, i, c, fun k v hk => let ⟨u, e, s⟩ := d k v hk; ⟨u, e, s.weak hF⟩⟩
theorem TabM.chg (h : TabM w b n F m) (hc : Chg S w w') (hb : ¬ S b) (hs : ∀ b, F b → ¬ S b) : TabM w' b n F m := by
  have hlt := h.lt
  obtain ⟨D, ⟨es, clock, hm, r⟩, i, c, d⟩ := h
  exact ⟨D, ⟨es, clock, (hc.block b hlt hb).trans hm, r⟩, i, c, fun k v hk => let ⟨u, e, s⟩ := d k v hk; ⟨u, e, s.chg hc hs⟩⟩
theorem TabM.below (h : TabM w b n F m) (hb : Below w.heap.size w w') : TabM w' b n F m := h.chg (S := Nil) (Chg.of_below hb) (fun h => h) (fun _ _ h => h)
theorem TabM.mono {n' : Nat} (h : TabM w b n F m) (hn : n ≤ n') : TabM w b n' F m := let ⟨D, a, r⟩ := h; ⟨D, a.mono hn, r⟩
/-- the value at a key, or nil -/
theorem TabM.look (h : TabM w b n F m) {k : List UInt8} (hk : k.length ≤ maxLen) : ∃ A nn cc, (Instr.lookup 53 (.map (some b)) (.string (sOf k)) true).run Try.prog w = .ok (.tuple #[.slice A nn cc, .bool (hasE m k).isSome]) w ∧
    (Instr.lookup 53 (.map (some b)) (.string (sOf k)) false).run Try.prog w = .ok (.slice A nn cc) w ∧ SB w F (.slice A nn cc) ((hasE m k).getD []) := by
  obtain ⟨D, a, i, c, d⟩ := h
  have hzd : rawE (.slice none 0 0) = some (.held (.slice none 0 0), []) := rfl
  obtain ⟨v, ps, hrun, hv⟩ := a.look_ok strKeyed Try.underlying53 (bsZero w) hzd (keyOf_sOf hk)
  obtain ⟨v2, ps2, hrun2, hv2⟩ := a.lookup strKeyed Try.underlying53 (bsZero w) hzd (keyOf_sOf hk)
  rw [c k] at hrun
  unfold rawE at hv hv2
  simp only [Option.some.injEq, Prod.mk.injEq] at hv hv2
  have e : v2 = v := by
    have := hv2.1.trans hv.1.symm
    injection this
  subst e
  cases hh : hasE m k with
  | none =>
    rw [hh] at hrun
    have hno : has D (kl k) = false := by rw [c k, hh]; rfl
    rw [atKey_of_not_has hno] at hv
    have : v2 = .slice none 0 0 := by injection hv.1
    subst this
    exact ⟨none, 0, 0, hrun, hrun2, SB.nil _ _⟩
  | some x =>
    rw [hh] at hrun
    obtain ⟨u, hu, s⟩ := d k x hh
    rw [hu] at hv
    have : v2 = u := by injection hv.1
    subst this
    obtain ⟨A, nn, cc, rfl, s1, s2, s3, s4⟩ := s
    exact ⟨A, nn, cc, hrun, hrun2, SB.mk s1 s2 s3 s4⟩
end
section
variable {w : World} {b n : Nat} {F : Nat → Prop} {m : List Ent} {ops : Array Oper} {rest : List Oper} {o : Oper} {a : Act} {Q : Exit → Act → World → Prop}
/-- m[k] = v -/
theorem wpList_tab_put (hg : o.guard = none) (t x v : Operand) (hop : o.op = Op.mapUpdate 53 t x v) (hm : a.eval t = .map (some b)) (hT : TabM w b n F m) (hn : n < maxLen) (e : Ent) (hk : e.1.length ≤ maxLen) (u : Value) (hx : a.eval x = .string (sOf e.1)) (hv : a.eval v = u) (hs : SB w F u e.2) (hF : ¬ F b)
    (hK : ∀ w', TabM w' b (n + 1) F (putE m e) → Chg (One b) w w' → wpList Try.prog ops Q rest (a.put o.dst undef) w') :
    wpList Try.prog ops Q (o :: rest) a w := by
  obtain ⟨D, hD, hI, hc, hd⟩ := hT
  refine wpList_mapUpdate_own w hg t x v 53 hop 9 36 strKeyed Try.underlying53 _ b n D hm hD hn (.string (sOf e.1)) u (kl e.1) hx hv (keyOf_sOf hk) (.held u) [] rfl ?_
  intro w' hw' hg'
  have hchg : Chg (One b) w w' := (Chg.refl _ _).grown hg' (fun c hc _ => by injection hc with hc; exact hc.symm)
  have hfs : ∀ c, F c → ¬ One b c := fun c hc e => hF (by have e : c = b := e; rw [← e]; exact hc)
  refine hK w' ⟨_, hw', hI.put _ _, fun k => ?_, fun k y hky => ?_⟩ hchg
  · rw [hasE_put]
    by_cases hke : k = e.1
    · subst hke; rw [if_pos rfl, has_put_same hI (kl_key _)]; rfl
    · rw [if_neg hke, has_put_other (fun h => hke (kl_inj h)), hc k]
  · rw [hasE_put] at hky
    by_cases hke : k = e.1
    · subst hke
      rw [if_pos rfl] at hky
      injection hky with hky
      subst hky
      exact ⟨u, fun z => atKey_put_same hI (kl_key _) _ _, hs.chg hchg hfs⟩
    · rw [if_neg hke] at hky
      obtain ⟨u', h1, h2⟩ := hd k y hky
      exact ⟨u', fun z => by rw [atKey_put_other (fun h => hke (kl_inj h))]; exact h1 z, h2.chg hchg hfs⟩
/-- delete(m, k) -/
theorem wpList_tab_cut (hg : o.guard = none) (t x : Operand) (hop : o.op = Op.call { callee := Callee.builtin Builtin.delete, args := #[t, x], argTypes := #[53, 9] }) (hm : a.eval t = .map (some b)) (hT : TabM w b n F m) (k0 : List UInt8) (hk : k0.length ≤ maxLen) (hx : a.eval x = .string (sOf k0)) (hF : ¬ F b)
    (hK : ∀ w', TabM w' b n F (cutE m k0) → Chg (One b) w w' → wpList Try.prog ops Q rest (a.put o.dst (.tuple #[])) w') :
    wpList Try.prog ops Q (o :: rest) a w := by
  obtain ⟨D, hD, hI, hc, hd⟩ := hT
  refine wpList_delete_own w hg t x 53 9 hop 36 strKeyed Try.underlying53 _ b n D hm hD (.string (sOf k0)) (kl k0) hx (keyOf_sOf hk) ?_
  intro w' hw' hg'
  have hchg : Chg (One b) w w' := (Chg.refl _ _).grown hg'.grown (fun c hc _ => by injection hc with hc; exact hc.symm)
  have hfs : ∀ c, F c → ¬ One b c := fun c hc e => hF (by have e : c = b := e; rw [← e]; exact hc)
  refine hK w' ⟨_, hw', hI.del _, fun k => ?_, fun k y hky => ?_⟩ hchg
  · rw [hasE_cut]
    by_cases hke : k = k0
    · subst hke; rw [if_pos rfl, has_del_same]; rfl
    · rw [if_neg hke, has_del_other (fun h => hke (kl_inj h)), hc k]
  · rw [hasE_cut] at hky
    by_cases hke : k = k0
    · rw [if_pos hke] at hky; cases hky
    · rw [if_neg hke] at hky
      obtain ⟨u', h1, h2⟩ := hd k y hky
      exact ⟨u', fun z => by rw [atKey_del_other (fun h => hke (kl_inj h))]; exact h1 z, h2.chg hchg hfs⟩
end
end Go.Proofs.Ytpbnngfiinihmaa

namespace Go.Proofs.Ytpbnngfiinihmaa
open Go.RowKit Go.Maps
theorem intZero (w : World) : (zeroValue 3).run Try.prog w = .ok (.int .i64 0) w := by kernel_rfl
/-- block b is a map of at most n keys, ks; what stands at a key is a number up to n -/
def KeysM (w : World) (b n : Nat) (ks : List (List UInt8)) : Prop :=
  ∃ D : DataW Value, w.ownsMap Try.prog 9 rawE b n D ∧ IsMap D ∧ (∀ k, has D (kl k) = true ↔ k ∈ ks) ∧ ∀ k, k ∈ ks → ∃ c : Nat, c ≤ n ∧ ∀ z, D.atKey (kl k) z = .held (.int .i64 c)
section
variable {w w' : World} {b n : Nat} {S : Nat → Prop} {ks : List (List UInt8)}
theorem KeysM.made (w : World) : KeysM (w.alloc (.map #[] 0)) w.heap.size 0 [] := ⟨.map [], World.ownsMap_made _ _ _ _, isMap_empty, fun k => by simp [has, Maps.has], fun k h => by cases h⟩
theorem KeysM.lt (h : KeysM w b n ks) : b < w.heap.size := by obtain ⟨D, h, _⟩ := h; exact h.lt
theorem KeysM.chg (h : KeysM w b n ks) (hc : Chg S w w') (hb : ¬ S b) : KeysM w' b n ks := by
  have hlt := h.lt
  obtain ⟨D, ⟨es, clock, hm, r⟩, i⟩ := h
  exact ⟨D, ⟨es, clock, (hc.block b hlt hb).trans hm, r⟩, i⟩
theorem KeysM.below (h : KeysM w b n ks) (hb : Below w.heap.size w w') : KeysM w' b n ks := h.chg (S := Nil) (Chg.of_below hb) (fun h => h)
theorem KeysM.mono {n' : Nat} (h : KeysM w b n ks) (hn : n ≤ n') : KeysM w b n' ks := let ⟨D, a, i, c, d⟩ := h; ⟨D, a.mono hn, i, c, fun k hk => let ⟨z, h1, h2⟩ := d k hk; ⟨z, Nat.le_trans h1 hn, h2⟩⟩
/-- the number at a key, or 0 -/
theorem KeysM.look (h : KeysM w b n ks) {k : List UInt8} (hk : k.length ≤ maxLen) : ∃ c : Nat, c ≤ n ∧ (Instr.lookup 67 (.map (some b)) (.string (sOf k)) false).run Try.prog w = .ok (.int .i64 c) w := by
  obtain ⟨D, a, i, c, d⟩ := h
  have hzd : rawE (.int .i64 0) = some (.held (.int .i64 0), []) := rfl
  obtain ⟨v, ps, hrun, hv⟩ := a.lookup strKeyed Try.underlying67 (intZero w) hzd (keyOf_sOf hk)
  unfold rawE at hv
  simp only [Option.some.injEq, Prod.mk.injEq] at hv
  by_cases hm : k ∈ ks
  · obtain ⟨z, hz, hat⟩ := d k hm
    rw [hat] at hv
    have : v = .int .i64 z := by injection hv.1
    subst this
    exact ⟨z, hz, hrun⟩
  · have hno : has D (kl k) = false := by
      cases hh : has D (kl k) with
      | false => rfl
      | true => exact absurd ((c k).1 hh) hm
    rw [atKey_of_not_has hno] at hv
    have : v = .int .i64 0 := by injection hv.1
    subst this
    exact ⟨0, by omega, hrun⟩
end
section
variable {w : World} {b n : Nat} {ks : List (List UInt8)} {ops : Array Oper} {rest : List Oper} {o : Oper} {a : Act} {Q : Exit → Act → World → Prop}
/-- m[k] = c -/
theorem wpList_keys_put (hg : o.guard = none) (t x v : Operand) (hop : o.op = Op.mapUpdate 67 t x v) (hm : a.eval t = .map (some b)) (hT : KeysM w b n ks) (hn : n < maxLen) (k0 : List UInt8) (hk : k0.length ≤ maxLen) (z : Nat) (hz : z ≤ n + 1) (hx : a.eval x = .string (sOf k0)) (hv : a.eval v = .int .i64 z)
    (hK : ∀ w', KeysM w' b (n + 1) (ks ++ [k0]) → Chg (One b) w w' → wpList Try.prog ops Q rest (a.put o.dst undef) w') :
    wpList Try.prog ops Q (o :: rest) a w := by
  obtain ⟨D, hD, hI, hc, hd⟩ := hT
  refine wpList_mapUpdate_own w hg t x v 67 hop 9 3 strKeyed Try.underlying67 _ b n D hm hD hn (.string (sOf k0)) (.int .i64 z) (kl k0) hx hv (keyOf_sOf hk) (.held (.int .i64 z)) [] rfl ?_
  intro w' hw' hg'
  have hchg : Chg (One b) w w' := (Chg.refl _ _).grown hg' (fun c hc _ => by injection hc with hc; exact hc.symm)
  refine hK w' ⟨_, hw', hI.put _ _, fun k => ?_, fun k hk => ?_⟩ hchg
  · rw [List.mem_append, List.mem_singleton]
    by_cases hke : k = k0
    · subst hke; simp [has_put_same hI (kl_key _)]
    · rw [has_put_other (fun h => hke (kl_inj h)), hc k]; simp [hke]
  · by_cases hke : k = k0
    · subst hke
      exact ⟨z, hz, fun y => atKey_put_same hI (kl_key _) _ _⟩
    · rw [List.mem_append, List.mem_singleton] at hk
      obtain ⟨c, h1, h2⟩ := hd k (hk.resolve_right hke)
      exact ⟨c, by omega, fun y => by rw [atKey_put_other (fun h => hke (kl_inj h))]; exact h2 y⟩
end
/-- a loop over the map at b stands at r; of the keys that have come, G holds -/
def RangeM (w : World) (b r n : Nat) (ks : List (List UInt8)) (G : List UInt8 → Prop) (cnt : Nat) : Prop :=
  ∃ (D : DataW Value) (lf : Lit → Bool), w.ranges Try.prog 9 rawE b r n D lf cnt ∧ (∀ k, lf (kl k) = true → k ∈ ks) ∧ ∀ k, k ∈ ks → lf (kl k) = true ∨ G k
section
variable {w w' : World} {b r n cnt : Nat} {S : Nat → Prop} {ks : List (List UInt8)} {G G' : List UInt8 → Prop}
theorem RangeM.chg (h : RangeM w b r n ks G cnt) (hc : Chg S w w') (hb : ¬ S b) (hr : ¬ S r) : RangeM w' b r n ks G cnt := by
  obtain ⟨D, lf, h, i⟩ := h
  have h1 := h.owns.lt
  have h2 := h.lt
  obtain ⟨es, clock, since, seen, c0, hb', F, hs, hD, hr', rest⟩ := h
  exact ⟨D, lf, ⟨es, clock, since, seen, c0, (hc.block b h1 hb).trans hb', F, hs, hD, (hc.block r h2 hr).trans hr', rest⟩, i⟩
theorem RangeM.below (h : RangeM w b r n ks G cnt) (hb : Below w.heap.size w w') : RangeM w' b r n ks G cnt := h.chg (S := Nil) (Chg.of_below hb) (fun h => h) (fun h => h)
theorem RangeM.mono (h : RangeM w b r n ks G cnt) (hG : ∀ k, k ∈ ks → G k → G' k) : RangeM w b r n ks G' cnt := let ⟨D, lf, h, i, j⟩ := h; ⟨D, lf, h, i, fun k hk => (j k hk).imp (fun h => h) (hG k hk)⟩
theorem RangeM.left_eq (h : RangeM w b r n ks G cnt) : w.rangeLeft b r = cnt := let ⟨_, _, h, _⟩ := h; h.left_eq
theorem RangeM.lt (h : RangeM w b r n ks G cnt) : r < w.heap.size := let ⟨_, _, h, _⟩ := h; h.lt
end
section
variable {w : World} {b r n cnt : Nat} {ks : List (List UInt8)} {G : List UInt8 → Prop} {ops : Array Oper} {rest : List Oper} {o : Oper} {a : Act} {Q : Exit → Act → World → Prop}
/-- range m -/
theorem wpList_range_keys (hg : o.guard = none) (m : Operand) (hop : o.op = Op.range 67 m) (hm : a.eval m = .map (some b)) (hT : KeysM w b n ks) (G : List UInt8 → Prop)
    (hK : ∀ w' cnt, RangeM w' b w.heap.size n ks G cnt → Below w.heap.size w w' → wpList Try.prog ops Q rest (a.put o.dst (.pointer (some ⟨w.heap.size, 0, none⟩))) w') :
    wpList Try.prog ops Q (o :: rest) a w := by
  obtain ⟨D, hD, hI, hc, hd⟩ := hT
  refine wpList_range_own w hg m 67 hop 9 3 strKeyed Try.underlying67 rawE b n D hm hD ?_
  intro w' hr hgr hsz
  exact hK w' _ ⟨D, _, hr, fun k hk => (hc k).1 hk, fun k hk => .inl ((hc k).2 hk)⟩ ((Below.refl _ _).grown hgr (Nat.le_refl _) (fun c hc => by cases hc))
set_option maxRecDepth 100000 in
/-- the step of the loop -/
theorem wpList_next_keys (hg : o.guard = none) (it : Operand) (hop : o.op = Op.next it false) (hit : a.eval it = .pointer (some ⟨r, 0, none⟩)) (h : RangeM w b r n ks G cnt)
    (hDone : cnt = 0 → (∀ k, k ∈ ks → G k) → wpList Try.prog ops Q rest (a.put o.dst (.tuple #[.bool false])) w)
    (hMore : ∀ (k : List UInt8) (c : Value) (w' : World) (cnt' : Nat), k ∈ ks → RangeM w' b r n ks (fun x => G x ∨ x = k) cnt' → cnt' < cnt → Chg (One r) w w' → w'.heap.size = w.heap.size →
      (Instr.entry (.pointer (some ⟨r, 0, none⟩))).run Try.prog w' = .ok (.tuple #[.string (sOf k), c]) w' → wpList Try.prog ops Q rest (a.put o.dst (.tuple #[.bool true, .string (sOf k), c])) w') :
    wpList Try.prog ops Q (o :: rest) a w := by
  obtain ⟨D, lf, h, h1, h2⟩ := h
  refine wpList_next_ranges w hg it hop 9 strKeyed rawE (fun k : List UInt8 => .string (sOf k)) (fun v : Value => v) (fun key kl hkey => ?_) (fun v y _ => ⟨v, rfl⟩) b r n D lf cnt hit h ?_ ?_
  · obtain ⟨s, rfl, _⟩ := Go.WideMaps.string_of_keyOf Try.underlying9 hkey
    exact ⟨s.data.toList, by simp [sOf]⟩
  · intro h0 hl
    exact hDone h0 (fun k hk => (h2 k hk).resolve_left (by rw [hl]; simp))
  · intro x c kl' y w' cnt' hk hl hR hat hr hlt hgr hsz hen
    have e : kl' = kl x := by
      obtain ⟨s, h3, h4, _⟩ := Go.WideMaps.string_of_keyOf Try.underlying9 hk
      have h3 : Value.string (sOf x) = .string s := h3
      injection h3 with h3
      rw [h4, ← h3]; simp [sOf, kl]
    subst e
    refine hMore x c w' cnt' (h1 x hl) ⟨D, _, hr, fun k hk => h1 k (Bool.and_eq_true_iff (x := lf (kl k)) (y := !(kl k).sameKey (kl x)).1 hk).1, fun k hk => ?_⟩ hlt ((Chg.refl _ _).grown hgr (fun c hc _ => by injection hc with hc; exact hc.symm)) hsz hen
    rcases h2 k hk with h3 | h3
    · by_cases hkx : k = x
      · exact .inr (.inr hkx)
      · refine .inl ?_
        have : (kl k).sameKey (kl x) = false := Maps.sameKey_ne (fun h => hkx (kl_inj h))
        simp [h3, this]
    · exact .inr (.inl h3)
end
end Go.Proofs.Ytpbnngfiinihmaa

namespace Go.Proofs.Ytpbnngfiinihmaa
open Go.RowKit Go.Maps
/-- a row of a call's own whose elements read as xs -/
structure RowG {α : Type} (T : TypeId) (w : World) (base : Nat) (v : Value) (us : List Value) (P : Value → α → Prop) (xs : List α) : Prop where
  own : w.ownsRow base T 1 v xs.length us
  at_ : ∀ (i : Nat) (x : α), xs[i]? = some x → ∃ u, us[i]? = some u ∧ P u x
section
variable {α : Type} {T : TypeId} {S : Nat → Prop} {w w' : World} {base : Nat} {v v2 u : Value} {us : List Value} {P P' : Value → α → Prop} {xs : List α} {x : α}
theorem RowG.nil (T : TypeId) (w : World) (base : Nat) (P : Value → α → Prop) : RowG T w base (.slice none 0 0) [] P [] := ⟨World.ownsRow_nil _ _ _ _, fun i e h => by simp at h⟩
theorem RowG.chg (h : RowG T w base v us P xs) (hc : Chg S w w') (hs : ∀ g, v.ownBlock = some g → ¬ S g) (hP : ∀ u x, P u x → P' u x) : RowG T w' base v us P' xs :=
  ⟨own_chg h.own hc hs, fun i e he => let ⟨u, a, b⟩ := h.at_ i e he; ⟨u, a, hP _ _ b⟩⟩
theorem RowG.push (h : RowG T w base v us P xs) (ho : w'.ownsRow base T 1 v2 (xs.length + 1) (us ++ [u])) (hP : ∀ u x, P u x → P' u x) (hu : P' u x) : RowG T w' base v2 (us ++ [u]) P' (xs ++ [x]) := by
  have hl : us.length = xs.length * 1 := h.own.1
  refine ⟨by rw [List.length_append]; exact ho, fun i e he => ?_⟩
  rcases Nat.lt_or_ge i xs.length with h1 | h1
  · rw [List.getElem?_append_left h1] at he
    obtain ⟨y, a, b⟩ := h.at_ i e he
    exact ⟨y, by rw [List.getElem?_append_left (by omega)]; exact a, hP _ _ b⟩
  · rw [List.getElem?_append_right h1] at he
    have hi0 : i = xs.length := by have := (List.getElem?_eq_some_iff.1 he).1; simp at this; omega
    subst hi0
    simp at he
    subst he
    exact ⟨u, by rw [List.getElem?_append_right (by omega), show xs.length - us.length = 0 by omega]; rfl, hu⟩
theorem RowG.one (w : World) (hu : P u x) : RowG T (w.alloc (.cells #[u] T)) w.heap.size (.slice (some ⟨w.heap.size, 0, none⟩) 1 1) [u] P [x] := by
  refine ⟨World.ownsRow_lit (e := T) (size := 1) w #[u] 1 (Nat.le_refl _) (by simp [maxLen]) (by simp), fun i e he => ?_⟩
  match i, he with
  | 0, he => simp at he; subst he; exact ⟨u, rfl, hu⟩
/-- the element at a place -/
theorem RowG.get {A : Option Addr} {n c i : Nat} (h : RowG T w base (.slice A n c) us P xs) (hi : i < n) : ∃ b o u x, A = some ⟨b, o, none⟩ ∧ base ≤ b ∧ xs[i]? = some x ∧ P u x ∧ w.cell? ⟨b, o + i, none⟩ = some u := by
  obtain ⟨A', c', e, _, _⟩ := own_val h.own
  injection e with e1 e2 e3
  subst e1; subst e2; subst e3
  obtain ⟨b, o, u, e, hb, hu, hc⟩ := (Rd.of_own h.own).at_ hi
  obtain ⟨u2, h2, h3⟩ := h.at_ i xs[i] (List.getElem?_eq_getElem hi)
  rw [hu] at h2
  injection h2 with h2
  subst h2
  exact ⟨b, o, u, xs[i], e, hb, List.getElem?_eq_getElem hi, h3, hc⟩
end
theorem Chg.of_grown {w w2 : World} {v : Value} (hg : w.grownBy w2 v.ownBlock) : Chg (fun b => v.ownBlock = some b) w w2 := (Chg.refl _ _).grown hg (fun _ hk _ => hk)
theorem tab_info : (Try.prog.info? 53).map (fun i => (i.zero, i.size, i.bytes)) = some (some (.map none), 1, 8) := by kernel_rfl
/-- a table off a row -/
def IsTab (w : World) (base N : Nat) (v : Value) (F : Nat → Prop) (u : Value) (m : List Ent) : Prop := ∃ b, u = .map (some b) ∧ base ≤ b ∧ v.ownBlock ≠ some b ∧ TabM w b N F m
/-- a row of tables -/
def Lk (w : World) (base N : Nat) (F : Nat → Prop) (v : Value) (us : List Value) (ms : List (List Ent)) : Prop := RowG 53 w base v us (IsTab w base N v F) ms
section
variable {S : Nat → Prop} {w w' : World} {base N : Nat} {v v2 : Value} {us : List Value} {ms : List (List Ent)} {F : Nat → Prop}
theorem Lk.chg (h : Lk w base N F v us ms) (hc : Chg S w w') (hs : ∀ b, base ≤ b → b < w.heap.size → ¬ S b) (hF : ∀ b, F b → ¬ S b) : Lk w' base N F v us ms :=
  RowG.chg h hc (fun g hg => hs g (own_lt h.own g hg).1 (own_lt h.own g hg).2) (fun u m ⟨b, e, h1, h2, h3⟩ => ⟨b, e, h1, h2, h3.chg hc (hs b h1 h3.lt) hF⟩)
theorem Lk.below (h : Lk w base N F v us ms) (hb : Below w.heap.size w w') : Lk w' base N F v us ms := h.chg (S := Nil) (Chg.of_below hb) (fun _ _ _ h => h) (fun _ _ h => h)
theorem Lk.push {tb : Nat} {m : List Ent} (h : Lk w base N F v us ms) (ho : w'.ownsRow base 53 1 v2 (ms.length + 1) (us ++ [.map (some tb)])) (hg : w.grownBy w' v.ownBlock) (hat : v2.ownBlock = v.ownBlock ∨ v2.ownBlock = some w.heap.size)
    (hF : ∀ b, F b → b < base) (h1 : base ≤ tb) (h2 : v.ownBlock ≠ some tb) (h3 : TabM w tb N F m) : Lk w' base N F v2 (us ++ [.map (some tb)]) (ms ++ [m]) := by
  have hc : Chg (fun b => v.ownBlock = some b) w w' := Chg.of_grown hg
  have key : ∀ u m, IsTab w base N v F u m → IsTab w' base N v2 F u m := fun u m ⟨b, e, k1, k2, k3⟩ => ⟨b, e, k1, fun e2 => by
    rcases hat with h | h
    · exact k2 (h ▸ e2)
    · rw [h] at e2; injection e2 with e2; have := k3.lt; omega, k3.chg hc (fun e => k2 e) (fun b hb e => by have := (own_lt h.own b e).1; have := hF b hb; omega)⟩
  exact RowG.push h ho key (key _ _ ⟨tb, rfl, h1, h2, h3⟩)
end
end Go.Proofs.Ytpbnngfiinihmaa
