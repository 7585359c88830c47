/-
  No cell of these rows narrows 'for every input' (looked for: loops, veiled, ifaces, maps, wideKeys, modest, calm, conditions, laid).
  DERIVED. THE GIVEN ROWS OF THIS SEAT. 2 by the template 'for every input the law returns true; each argument reads behind the call as it read before'; 0 by the template 'total and deterministic' (their statements: YtiallkiiofomgaaGreatTotals.lean).
  GIVEN WITH THE SEED: the statements are not yours to turn. If you find one false, say at which input.
  Laid BY PROGRAM, IN A SANDBOX (cutbox-rows.mjs): the forced cells as the released guide's own fill.sh prints them over the translation 8b013362351f6577… (all of the seat's roots in one cut). By AI agents, Wed Nov 11 2026. No macro, syntax, notation, axiom, sorry.
-/
import Derived.Test.YtiallkiiofomgaaGreatChecked
import GoSem.Claim
import GoSem.ClaimJoined
import GoSem.ClaimMapViews
import Derived.JoinedTies
import Derived.KernelRfl
namespace Go.Proofs.YtiallkiiofomgaaGreat
/- THE CELL 'sum', in the pinned program and in every row, IS THE sha256 OF THE DUMP (.gsa) THAT YtiallkiiofomgaaGreatProg.lean LOADS. Nothing in Lean hashes anything: it is a label: what it is worth is what the hold of that sum in a sandbox is worth. -/
noncomputable def Tryz.pinned : Pinned := { name := "ytiallkiiofomgaagreat", sum := "8b013362351f6577c30f3fd685ec7b7b5d099bff78cc7c93e832551e64154508", checked := Tryz.checked }
namespace Rows
def none {H : Type} : Left H := { results := [], args := [] }

/-- 'coppicelaw19.SchedBound': WHATEVER THE INPUT: true; the input reads as it did. -/
def schedBoundSpec : ChangeSpec := { name := "schedBound", fn := fun _ => fun
  | [d1, d2] => { results := [.lit (.bool true)], args := [d1, d2] }
  | _ => none }
def schedBoundRow : OpenClaim := { program := "ytiallkiiofomgaagreat", sum := "8b013362351f6577c30f3fd685ec7b7b5d099bff78cc7c93e832551e64154508", func := "coppice/coppicelaw19.SchedBound", spec := "schedBound", inPlace := ["sync/atomic.StoreInt64", "sync/atomic.LoadInt64", "sync/atomic.LoadUint64", "internal/bytealg.Compare", "sync/atomic.CompareAndSwapUint64", "slices.overlaps[[]byte]", "slices.overlaps[int]", "sync/atomic.AddUint64", "sync/atomic.StoreUint64", "sync/atomic.CompareAndSwapInt64"], unfollowed := true, recurses := true, apart := false }
def SchedBoundSaid : Prop := schedBoundRow.holds Tryz.pinned (OpenSpec.ofChange schedBoundSpec)

/-- ITS FALSE NEIGHBOUR: 'it returns false'. Refute it at one input. -/
def schedBoundWrong : ChangeSpec := { name := "schedBound", fn := fun _ => fun
  | [d1, d2] => { results := [.lit (.bool false)], args := [d1, d2] }
  | _ => none }
def SchedBoundWrongFalsely : Prop := schedBoundRow.holds Tryz.pinned (OpenSpec.ofChange schedBoundWrong)

/-- 'coppicelaw19.SchedFair': WHATEVER THE INPUT: true; the input reads as it did. -/
def schedFairSpec : ChangeSpec := { name := "schedFair", fn := fun _ => fun
  | [d1, d2, d3] => { results := [.lit (.bool true)], args := [d1, d2, d3] }
  | _ => none }
def schedFairRow : OpenClaim := { program := "ytiallkiiofomgaagreat", sum := "8b013362351f6577c30f3fd685ec7b7b5d099bff78cc7c93e832551e64154508", func := "coppice/coppicelaw19.SchedFair", spec := "schedFair", inPlace := ["sync/atomic.StoreInt64", "sync/atomic.LoadInt64", "sync/atomic.LoadUint64", "internal/bytealg.Compare", "sync/atomic.CompareAndSwapUint64", "slices.overlaps[[]byte]", "slices.overlaps[int]", "sync/atomic.AddUint64", "sync/atomic.StoreUint64", "sync/atomic.CompareAndSwapInt64"], unfollowed := true, recurses := true, apart := false }
def SchedFairSaid : Prop := schedFairRow.holds Tryz.pinned (OpenSpec.ofChange schedFairSpec)

/-- ITS FALSE NEIGHBOUR: 'it returns false'. Refute it at one input. -/
def schedFairWrong : ChangeSpec := { name := "schedFair", fn := fun _ => fun
  | [d1, d2, d3] => { results := [.lit (.bool false)], args := [d1, d2, d3] }
  | _ => none }
def SchedFairWrongFalsely : Prop := schedFairRow.holds Tryz.pinned (OpenSpec.ofChange schedFairWrong)

/- THE SECOND FORM. 'bulk': how many values and letters a reading holds, each counted each time it is reached (what is shared counts as often as it is met; a slice's spare places count too). A statement '..UptoSaid' is the law's where the arguments, and the package variables that the reading takes, are together of bulk at most 1048576: NARROWER than '..Said'. Prove '..Said' where nothing that the law and all that it calls make is longer than what came in: it says more and counts as full. Else prove '..UptoSaid'. A law counts once. -/
mutual
def uptoBulk {H : Type} : DataW H → Nat
  | .lit (.string bytes) => bytes.length + 1
  | .lit _ => 1
  | .nil => 1
  | .ptr d => uptoBulk d + 1
  | .slice elems spare => uptoBulkAll elems + uptoBulkAll spare + 1
  | .agg parts => uptoBulkAll parts + 1
  | .iface _ d => uptoBulk d + 1
  | .map entries => uptoBulkEntries entries + 1
  | .held _ => 1
def uptoBulkAll {H : Type} : List (DataW H) → Nat
  | [] => 0
  | d :: r => uptoBulk d + uptoBulkAll r
def uptoBulkEntries {H : Type} : List (Lit × DataW H) → Nat
  | [] => 0
  | x :: r => uptoBulkEntry x + uptoBulkEntries r
def uptoBulkEntry {H : Type} : Lit × DataW H → Nat
  | (.string bytes, d) => bytes.length + uptoBulk d + 1
  | (_, d) => uptoBulk d + 1
 end
def uptoSmall : (H : Type) → List (DataW H) → Bool := fun _ ds => decide (uptoBulkAll ds ≤ 1048576)
def OpenSpec.upto (s : _root_.Go.ChangeSpec) : _root_.Go.OpenSpec := { _root_.Go.OpenSpec.ofChange s with cond := some uptoSmall }

/-- 'coppicelaw19.SchedBound', WHERE WHAT IT READS IS OF BULK AT MOST 1048576: true; the input reads as it did. -/
def schedBoundUptoRow : OpenClaim := { program := "ytiallkiiofomgaagreat", sum := "8b013362351f6577c30f3fd685ec7b7b5d099bff78cc7c93e832551e64154508", func := "coppice/coppicelaw19.SchedBound", spec := "schedBound", inPlace := ["sync/atomic.StoreInt64", "sync/atomic.LoadInt64", "sync/atomic.LoadUint64", "internal/bytealg.Compare", "sync/atomic.CompareAndSwapUint64", "slices.overlaps[[]byte]", "slices.overlaps[int]", "sync/atomic.AddUint64", "sync/atomic.StoreUint64", "sync/atomic.CompareAndSwapInt64"], unfollowed := true, recurses := true, apart := false, narrowed := true }
def SchedBoundUptoSaid : Prop := schedBoundUptoRow.holds Tryz.pinned (OpenSpec.upto schedBoundSpec)

/-- 'coppicelaw19.SchedFair', WHERE WHAT IT READS IS OF BULK AT MOST 1048576: true; the input reads as it did. -/
def schedFairUptoRow : OpenClaim := { program := "ytiallkiiofomgaagreat", sum := "8b013362351f6577c30f3fd685ec7b7b5d099bff78cc7c93e832551e64154508", func := "coppice/coppicelaw19.SchedFair", spec := "schedFair", inPlace := ["sync/atomic.StoreInt64", "sync/atomic.LoadInt64", "sync/atomic.LoadUint64", "internal/bytealg.Compare", "sync/atomic.CompareAndSwapUint64", "slices.overlaps[[]byte]", "slices.overlaps[int]", "sync/atomic.AddUint64", "sync/atomic.StoreUint64", "sync/atomic.CompareAndSwapInt64"], unfollowed := true, recurses := true, apart := false, narrowed := true }
def SchedFairUptoSaid : Prop := schedFairUptoRow.holds Tryz.pinned (OpenSpec.upto schedFairSpec)

end Rows
end Go.Proofs.YtiallkiiofomgaaGreat
