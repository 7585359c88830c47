/- A call that is said of abstract values, as the rows ask for it. -/
import Derived.Test.YtiallkiiofomgaaGreatVn
import Derived.Below
namespace Go.Proofs.YtiallkiiofomgaaGreat
open Go.RowKit
/-- all cells of a world, to be read only -/
def stoOf (w : World) : Sto := fun b o => match w.cell? ⟨b, o, none⟩ with
  | some x => if x.oneCell' then some x else none
  | none => none
theorem stoOf_cell {w : World} {b o : Nat} {x : Value} (h : w.cell? ⟨b, o, none⟩ = some x) (h1 : x.oneCell' = true) : stoOf w b o = some x := by unfold stoOf; rw [h]; simp [h1]
theorem stoOf_st (w : World) : St w (stoOf w) (fun _ => none) (fun _ => none) := ⟨(fun b o x h => by
    unfold stoOf at h
    split at h
    · rename_i y hy
      split at h
      · cases h; exact ⟨rfl, hy, by assumption⟩
      · cases h
    · cases h), (fun _ _ h => by cases h), (fun _ _ h => by cases h), (fun _ _ h => by cases h)⟩
theorem Ext.below {w w' : World} {s s' : Sto} {own' : Nat → Option Nat} {Wr : Nat → Prop} (h : Ext Wr w s (fun _ => none) w' s' own') : Below w.heap.size w w' := ⟨h.out.1, h.out.2.1, h.out.2.2, h.size, fun b hb => (h.keep b hb fun m e => by cases e).1⟩
theorem calls_of_ac {P : Program} {f : FuncId} {fn : Func} {c : Code} (hf : P.funcs[f]? = some fn) (hb : fn.body = some c) (hn : (fn.name == "runtime.NumGoroutine") = false) {xs : List AV} {vs : List Value} {w : World} (h : AC P f xs (fun _ => none) [] fun _ a _ => a = .v (.bool true)) (hr : Reps (stoOf w) xs vs) :
    Calls P f vs.toArray w fun e w' => e = .returned (.bool true) ∧ Below w.heap.size w w' := by
  have hrun : (callFunc f vs.toArray).run P w = .ok (.enter f vs.toArray) w := by
    unfold callFunc
    simp only [Sem.run_bind, run_program, Result.andThen_ok, hf, hn, hb]
    rfl
  rcases h w (stoOf w) (fun _ => none) vs (fun m => w.heap.size ≤ m) (stoOf_st w) hr (fun m hm => by cases hm) (fun m hm => hm) with ⟨_, hc⟩ | ⟨v, w', hv, _⟩
  · refine Calls.mono hc fun e w' ⟨v, a, s', own', H', h1, h2, _, h4, h5⟩ => ?_
    subst h5
    exact ⟨by rw [h1, h4.v_inv], h2.below⟩
  · rw [hrun] at hv; cases hv
/-- a row of numbers that came in -/
theorem ints_rep {w : World} {b o c : Nat} {zs : List Int} (hl : zs.length ≤ c) (hc : ∀ i, i < zs.length → w.cell? ⟨b, o + i, none⟩ = some (.int .i64 (zs.getD i 0))) : Rep (stoOf w) (.sl false (zs.map fun n => [.v (.int .i64 n)])) (.slice (some ⟨b, o, none⟩) zs.length c) := by
  have h := Rep.sl (s := stoOf w) false (zs.map fun n => [AV.v (.int .i64 n)]) b o 1 c (fun i _ => .int .i64 (zs.getD i 0)) (fun r hr => by
      obtain ⟨n, _, rfl⟩ := List.mem_map.1 hr; rfl) (fun i k r hi hk => by
      have hi : i < zs.length := by simpa using (List.getElem?_eq_some_iff.1 hi).1
      have hk : k = 0 := by omega
      subst hk
      exact stoOf_cell (by simpa using hc i hi) rfl) (fun i k r a hi hk => by
      have hlt : i < zs.length := by simpa using (List.getElem?_eq_some_iff.1 hi).1
      rw [List.getElem?_map, Option.map_eq_some_iff] at hi
      obtain ⟨n, hn, rfl⟩ := hi
      cases k with
      | zero =>
        simp at hk
        subst hk
        rw [List.getD_eq_getElem?_getD, hn]
        exact .v _
      | succ k => simp at hk) (by simpa using hl) (fun e => by cases e)
  simpa using h
end Go.Proofs.YtiallkiiofomgaaGreat
