/- The live question of layer 19 answers true: its run, reckoned out. -/
import Derived.Test.YtiallkiiofomgaaGreatYo
import Derived.Test.YtiallkiiofomgaaGreatProg
namespace Go.Proofs.YtiallkiiofomgaaGreat
def spT (f : FuncId) : Option (List AV → XH → Nat → Nat → XR) := match f with
  | 87 => some (spLoad .i64)
  | 107 => some (spLoad .u64)
  | 52 => some (spStore .i64)
  | 116 => some (spStore .u64)
  | 115 => some (spAdd .u64)
  | 109 => some (spCas .u64)
  | 117 => some (spCas .i64)
  | 110 => some spCmp
  | _ => none
theorem spT_sound : ∀ f g, spT f = some g → FS1 Tryz.prog f g := fun f g h => by
  unfold spT at h
  split at h
  · cases h
    exact spLoad_sound .i64 fun hc => run_call_load (P := Tryz.prog) Tryz.func87 (by kernel_rfl) (by kernel_rfl) (by kernel_rfl) .i64 (by kernel_rfl) hc
  · cases h
    exact spLoad_sound .u64 fun hc => run_call_load (P := Tryz.prog) Tryz.func107 (by kernel_rfl) (by kernel_rfl) (by kernel_rfl) .u64 (by kernel_rfl) hc
  · cases h
    exact spStore_sound .i64 fun hc hz => run_call_store (P := Tryz.prog) Tryz.func52 (by kernel_rfl) (by kernel_rfl) (by kernel_rfl) (by kernel_rfl) hc hz
  · cases h
    exact spStore_sound .u64 fun hc hz => run_call_store (P := Tryz.prog) Tryz.func116 (by kernel_rfl) (by kernel_rfl) (by kernel_rfl) (by kernel_rfl) hc hz
  · cases h
    exact spAdd_sound .u64 fun hc hz => run_call_add (P := Tryz.prog) Tryz.func115 (by kernel_rfl) (by kernel_rfl) (by kernel_rfl) .u64 (by kernel_rfl) hc hz rfl
  · cases h
    exact spCas_sound .u64 (fun hc hz => run_call_cas_hit (P := Tryz.prog) Tryz.func109 (by kernel_rfl) (by kernel_rfl) (by kernel_rfl) .u64 (by kernel_rfl) hc hz) fun hc hz hne => run_call_cas_miss (P := Tryz.prog) Tryz.func109 (by kernel_rfl) (by kernel_rfl) (by kernel_rfl) .u64 (by kernel_rfl) hc hz hne
  · cases h
    exact spCas_sound .i64 (fun hc hz => run_call_cas_hit (P := Tryz.prog) Tryz.func117 (by kernel_rfl) (by kernel_rfl) (by kernel_rfl) .i64 (by kernel_rfl) hc hz) fun hc hz hne => run_call_cas_miss (P := Tryz.prog) Tryz.func117 (by kernel_rfl) (by kernel_rfl) (by kernel_rfl) .i64 (by kernel_rfl) hc hz hne
  · cases h
    exact spCmp_sound fun {a b x y w} h1 h2 => by
      rw [run_callFunc_extern Tryz.func110 (by kernel_rfl) (by kernel_rfl) (by kernel_rfl) (e := Extern.BytealgCompare.compare) (by kernel_rfl)]
      have : (Extern.BytealgCompare.compare #[a, b]).run Tryz.prog w = .ok (.int .i64 (Lib.compareBytes x.toList y.toList)) w := by
        change Sem.run Tryz.prog (do pure (goInt (Extern.BytealgCompare.cmp (← Extern.Bytes.bytesOf a) (← Extern.Bytes.bytesOf b)))) w = _
        simp only [Sem.run_bind, h1, h2, Result.andThen_ok, Sem.run_pure]
        rw [Lib.cmp_eq]
        rfl
      rw [this]
      rfl
  · cases h
/-- functions that only read -/
def puT (f : FuncId) : Bool := [30, 84, 83, 62, 71, 44, 17, 53, 48, 72, 19, 43, 46, 22, 47, 69, 70, 78, 61, 39, 127].contains f
/-- a run without arguments that is reckoned out to 'true' -/
theorem ac_true {P : Program} (hp : P.follows .mixedOrders = true) {PU : FuncId → Bool} {S : FuncId → Option (List AV → XH → Nat → Nat → XR)} (hS : ∀ f g, S f = some g → FS1 P f g) {lim n : Nat} {f : FuncId} (h : (match xgo PU P S lim n f [] .e 0 0 with | some (.v (.bool b), _, _) => b | _ => false) = true) (H : Hp) : AC P f [] H [] fun _ a _ => a = .v (.bool true) := by
  split at h
  · rename_i b hp' nx' e
    subst h
    obtain ⟨_, h2⟩ := xgo_sound (PU := PU) (lim := lim) hp hS n _ _ _ _ _ _ _ _ e (Nat.le_refl 0)
    refine (h2 (fun _ => none) H [] [] RAs.nil ⟨by simp, (fun i O e => by cases e), (fun i j O O' p q e => by cases e), (fun i O p _ e => by cases e)⟩).mono fun N a H' hR => ?_
    obtain ⟨σ, _, h3, _⟩ := hR
    exact h3.bool_inv
  · cases h
theorem head_true (H : Hp) : AC Tryz.prog 5 [] H [] fun _ a _ => a = .v (.bool true) := ac_true (by kernel_rfl) spT_sound (PU := puT) (lim := 1000) (n := 60) (by kernel_rfl) H
end Go.Proofs.YtiallkiiofomgaaGreat
