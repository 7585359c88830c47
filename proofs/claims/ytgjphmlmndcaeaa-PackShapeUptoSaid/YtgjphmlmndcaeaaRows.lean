/-
  No cell of these rows narrows 'for every input' (looked for: loops, veiled, ifaces, maps, wideKeys, modest, calm, conditions, laid).
  DERIVED. THE GIVEN ROWS OF THIS SEAT. 4 by the template 'for every input the law returns true; each argument reads behind the call as it read before'; 0 by the template 'total and deterministic' (their statements: YtgjphmlmndcaeaaTotals.lean).
  GIVEN WITH THE SEED: the statements are not yours to turn. If you find one false, say at which input.
  Laid BY PROGRAM, IN A SANDBOX (cutbox-rows.mjs): the forced cells as the released guide's own fill.sh prints them over the translation 0ffa5b058e847f30… (all of the seat's roots in one cut). By AI agents, Wed Nov 11 2026. No macro, syntax, notation, axiom, sorry.
-/
import Derived.Test.YtgjphmlmndcaeaaChecked
import GoSem.Claim
import GoSem.ClaimJoined
import GoSem.ClaimMapViews
import Derived.JoinedTies
import Derived.KernelRfl
namespace Go.Proofs.Ytgjphmlmndcaeaa
/- THE CELL 'sum', in the pinned program and in every row, IS THE sha256 OF THE DUMP (.gsa) THAT YtgjphmlmndcaeaaProg.lean LOADS. Nothing in Lean hashes anything: it is a label: what it is worth is what the hold of that sum in a sandbox is worth. -/
noncomputable def Try.pinned : Pinned := { name := "ytgjphmlmndcaeaa", sum := "0ffa5b058e847f3012a72413063d8c5dfa159e081a73e3c552114c804d6017a9", checked := Try.checked }
namespace Rows
def none {H : Type} : Left H := { results := [], args := [] }

/-- 'coppicelaw21.PackNodes': WHATEVER THE INPUT: true; the input reads as it did. -/
def packNodesSpec : ChangeSpec := { name := "packNodes", fn := fun _ => fun
  | [d1, d2] => { results := [.lit (.bool true)], args := [d1, d2] }
  | _ => none }
def packNodesRow : OpenClaim := { program := "ytgjphmlmndcaeaa", sum := "0ffa5b058e847f3012a72413063d8c5dfa159e081a73e3c552114c804d6017a9", func := "coppice/coppicelaw21.PackNodes", spec := "packNodes", apart := false }
def PackNodesSaid : Prop := packNodesRow.holds Try.pinned (OpenSpec.ofChange packNodesSpec)

/-- ITS FALSE NEIGHBOUR: 'it returns false'. Refute it at one input. -/
def packNodesWrong : ChangeSpec := { name := "packNodes", fn := fun _ => fun
  | [d1, d2] => { results := [.lit (.bool false)], args := [d1, d2] }
  | _ => none }
def PackNodesWrongFalsely : Prop := packNodesRow.holds Try.pinned (OpenSpec.ofChange packNodesWrong)

/-- 'coppicelaw21.PackBuilders': WHATEVER THE INPUT: true; the input reads as it did. -/
def packBuildersSpec : ChangeSpec := { name := "packBuilders", fn := fun _ => fun
  | [d1, d2] => { results := [.lit (.bool true)], args := [d1, d2] }
  | _ => none }
def packBuildersRow : OpenClaim := { program := "ytgjphmlmndcaeaa", sum := "0ffa5b058e847f3012a72413063d8c5dfa159e081a73e3c552114c804d6017a9", func := "coppice/coppicelaw21.PackBuilders", spec := "packBuilders", inPlace := ["sync/atomic.StoreInt64", "internal/bytealg.Compare", "sync/atomic.CompareAndSwapUint64", "sync/atomic.StoreUint64", "sync/atomic.LoadUint64", "sync/atomic.AddUint64", "sync/atomic.CompareAndSwapInt64", "sync/atomic.LoadInt64"], apart := false }
def PackBuildersSaid : Prop := packBuildersRow.holds Try.pinned (OpenSpec.ofChange packBuildersSpec)

/-- ITS FALSE NEIGHBOUR: 'it returns false'. Refute it at one input. -/
def packBuildersWrong : ChangeSpec := { name := "packBuilders", fn := fun _ => fun
  | [d1, d2] => { results := [.lit (.bool false)], args := [d1, d2] }
  | _ => none }
def PackBuildersWrongFalsely : Prop := packBuildersRow.holds Try.pinned (OpenSpec.ofChange packBuildersWrong)

/-- 'coppicelaw21.PackBuilds': WHATEVER THE INPUT: true; the input reads as it did. -/
def packBuildsSpec : ChangeSpec := { name := "packBuilds", fn := fun _ => fun
  | [d1, d2] => { results := [.lit (.bool true)], args := [d1, d2] }
  | _ => none }
def packBuildsRow : OpenClaim := { program := "ytgjphmlmndcaeaa", sum := "0ffa5b058e847f3012a72413063d8c5dfa159e081a73e3c552114c804d6017a9", func := "coppice/coppicelaw21.PackBuilds", spec := "packBuilds", inPlace := ["internal/bytealg.Compare", "sync/atomic.StoreInt64", "sync/atomic.CompareAndSwapUint64", "sync/atomic.StoreUint64", "sync/atomic.LoadUint64", "sync/atomic.AddUint64", "sync/atomic.CompareAndSwapInt64", "sync/atomic.LoadInt64"], apart := false }
def PackBuildsSaid : Prop := packBuildsRow.holds Try.pinned (OpenSpec.ofChange packBuildsSpec)

/-- ITS FALSE NEIGHBOUR: 'it returns false'. Refute it at one input. -/
def packBuildsWrong : ChangeSpec := { name := "packBuilds", fn := fun _ => fun
  | [d1, d2] => { results := [.lit (.bool false)], args := [d1, d2] }
  | _ => none }
def PackBuildsWrongFalsely : Prop := packBuildsRow.holds Try.pinned (OpenSpec.ofChange packBuildsWrong)

/-- 'coppicelaw21.PackShape': WHATEVER THE INPUT: true; the input reads as it did. -/
def packShapeSpec : ChangeSpec := { name := "packShape", fn := fun _ => fun
  | [d1, d2] => { results := [.lit (.bool true)], args := [d1, d2] }
  | _ => none }
def packShapeRow : OpenClaim := { program := "ytgjphmlmndcaeaa", sum := "0ffa5b058e847f3012a72413063d8c5dfa159e081a73e3c552114c804d6017a9", func := "coppice/coppicelaw21.PackShape", spec := "packShape", inPlace := ["internal/bytealg.Compare", "sync/atomic.StoreInt64", "sync/atomic.CompareAndSwapUint64", "sync/atomic.StoreUint64", "sync/atomic.LoadUint64", "sync/atomic.AddUint64", "sync/atomic.CompareAndSwapInt64", "sync/atomic.LoadInt64"], unfollowed := true, recurses := true, apart := false }
def PackShapeSaid : Prop := packShapeRow.holds Try.pinned (OpenSpec.ofChange packShapeSpec)

/-- ITS FALSE NEIGHBOUR: 'it returns false'. Refute it at one input. -/
def packShapeWrong : ChangeSpec := { name := "packShape", fn := fun _ => fun
  | [d1, d2] => { results := [.lit (.bool false)], args := [d1, d2] }
  | _ => none }
def PackShapeWrongFalsely : Prop := packShapeRow.holds Try.pinned (OpenSpec.ofChange packShapeWrong)

/- THE SECOND FORM. 'bulk': how many values and letters a reading holds, each counted each time it is reached (what is shared counts as often as it is met; a slice's spare places count too). A statement '..UptoSaid' is the law's where the arguments, and the package variables that the reading takes, are together of bulk at most 1048576: NARROWER than '..Said'. Prove '..Said' where nothing that the law and all that it calls make is longer than what came in: it says more and counts as full. Else prove '..UptoSaid'. A law counts once. -/
mutual
def uptoBulk {H : Type} : DataW H → Nat
  | .lit (.string bytes) => bytes.length + 1
  | .lit _ => 1
  | .nil => 1
  | .ptr d => uptoBulk d + 1
  | .slice elems spare => uptoBulkAll elems + uptoBulkAll spare + 1
  | .agg parts => uptoBulkAll parts + 1
  | .iface _ d => uptoBulk d + 1
  | .map entries => uptoBulkEntries entries + 1
  | .held _ => 1
def uptoBulkAll {H : Type} : List (DataW H) → Nat
  | [] => 0
  | d :: r => uptoBulk d + uptoBulkAll r
def uptoBulkEntries {H : Type} : List (Lit × DataW H) → Nat
  | [] => 0
  | x :: r => uptoBulkEntry x + uptoBulkEntries r
def uptoBulkEntry {H : Type} : Lit × DataW H → Nat
  | (.string bytes, d) => bytes.length + uptoBulk d + 1
  | (_, d) => uptoBulk d + 1
 end
def uptoSmall : (H : Type) → List (DataW H) → Bool := fun _ ds => decide (uptoBulkAll ds ≤ 1048576)
def OpenSpec.upto (s : _root_.Go.ChangeSpec) : _root_.Go.OpenSpec := { _root_.Go.OpenSpec.ofChange s with cond := some uptoSmall }

/-- 'coppicelaw21.PackNodes', WHERE WHAT IT READS IS OF BULK AT MOST 1048576: true; the input reads as it did. -/
def packNodesUptoRow : OpenClaim := { program := "ytgjphmlmndcaeaa", sum := "0ffa5b058e847f3012a72413063d8c5dfa159e081a73e3c552114c804d6017a9", func := "coppice/coppicelaw21.PackNodes", spec := "packNodes", apart := false, narrowed := true }
def PackNodesUptoSaid : Prop := packNodesUptoRow.holds Try.pinned (OpenSpec.upto packNodesSpec)

/-- 'coppicelaw21.PackBuilders', WHERE WHAT IT READS IS OF BULK AT MOST 1048576: true; the input reads as it did. -/
def packBuildersUptoRow : OpenClaim := { program := "ytgjphmlmndcaeaa", sum := "0ffa5b058e847f3012a72413063d8c5dfa159e081a73e3c552114c804d6017a9", func := "coppice/coppicelaw21.PackBuilders", spec := "packBuilders", inPlace := ["sync/atomic.StoreInt64", "internal/bytealg.Compare", "sync/atomic.CompareAndSwapUint64", "sync/atomic.StoreUint64", "sync/atomic.LoadUint64", "sync/atomic.AddUint64", "sync/atomic.CompareAndSwapInt64", "sync/atomic.LoadInt64"], apart := false, narrowed := true }
def PackBuildersUptoSaid : Prop := packBuildersUptoRow.holds Try.pinned (OpenSpec.upto packBuildersSpec)

/-- 'coppicelaw21.PackBuilds', WHERE WHAT IT READS IS OF BULK AT MOST 1048576: true; the input reads as it did. -/
def packBuildsUptoRow : OpenClaim := { program := "ytgjphmlmndcaeaa", sum := "0ffa5b058e847f3012a72413063d8c5dfa159e081a73e3c552114c804d6017a9", func := "coppice/coppicelaw21.PackBuilds", spec := "packBuilds", inPlace := ["internal/bytealg.Compare", "sync/atomic.StoreInt64", "sync/atomic.CompareAndSwapUint64", "sync/atomic.StoreUint64", "sync/atomic.LoadUint64", "sync/atomic.AddUint64", "sync/atomic.CompareAndSwapInt64", "sync/atomic.LoadInt64"], apart := false, narrowed := true }
def PackBuildsUptoSaid : Prop := packBuildsUptoRow.holds Try.pinned (OpenSpec.upto packBuildsSpec)

/-- 'coppicelaw21.PackShape', WHERE WHAT IT READS IS OF BULK AT MOST 1048576: true; the input reads as it did. -/
def packShapeUptoRow : OpenClaim := { program := "ytgjphmlmndcaeaa", sum := "0ffa5b058e847f3012a72413063d8c5dfa159e081a73e3c552114c804d6017a9", func := "coppice/coppicelaw21.PackShape", spec := "packShape", inPlace := ["internal/bytealg.Compare", "sync/atomic.StoreInt64", "sync/atomic.CompareAndSwapUint64", "sync/atomic.StoreUint64", "sync/atomic.LoadUint64", "sync/atomic.AddUint64", "sync/atomic.CompareAndSwapInt64", "sync/atomic.LoadInt64"], unfollowed := true, recurses := true, apart := false, narrowed := true }
def PackShapeUptoSaid : Prop := packShapeUptoRow.holds Try.pinned (OpenSpec.upto packShapeSpec)

end Rows
end Go.Proofs.Ytgjphmlmndcaeaa
