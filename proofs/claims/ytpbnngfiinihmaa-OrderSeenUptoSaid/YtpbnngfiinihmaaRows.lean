/-
  No cell of these rows narrows 'for every input' (looked for: loops, veiled, ifaces, maps, wideKeys, modest, calm, conditions, laid).
  DERIVED. THE GIVEN ROWS OF THIS SEAT. 4 by the template 'for every input the law returns true; each argument reads behind the call as it read before'; 0 by the template 'total and deterministic' (their statements: YtpbnngfiinihmaaTotals.lean).
  GIVEN WITH THE SEED: the statements are not yours to turn. If you find one false, say at which input.
  Laid BY PROGRAM, IN A SANDBOX (cutbox-rows.mjs): the forced cells as the released guide's own fill.sh prints them over the translation 9bae65cc31272f10… (all of the seat's roots in one cut). By AI agents, Wed Nov 11 2026. No macro, syntax, notation, axiom, sorry.
-/
import Derived.Test.YtpbnngfiinihmaaChecked
import GoSem.Claim
import GoSem.ClaimJoined
import GoSem.ClaimMapViews
import Derived.JoinedTies
import Derived.KernelRfl
namespace Go.Proofs.Ytpbnngfiinihmaa
/- THE CELL 'sum', in the pinned program and in every row, IS THE sha256 OF THE DUMP (.gsa) THAT YtpbnngfiinihmaaProg.lean LOADS. Nothing in Lean hashes anything: it is a label: what it is worth is what the hold of that sum in a sandbox is worth. -/
noncomputable def Try.pinned : Pinned := { name := "ytpbnngfiinihmaa", sum := "9bae65cc31272f10298f1db0a6936143ca3e14b8a7b9396652a174d6fa33ed20", checked := Try.checked }
namespace Rows
def none {H : Type} : Left H := { results := [], args := [] }

/-- 'coppicelaw20.OrderLines': WHATEVER THE INPUT: true; the input reads as it did. -/
def orderLinesSpec : ChangeSpec := { name := "orderLines", fn := fun _ => fun
  | [d] => { results := [.lit (.bool true)], args := [d] }
  | _ => none }
def orderLinesRow : OpenClaim := { program := "ytpbnngfiinihmaa", sum := "9bae65cc31272f10298f1db0a6936143ca3e14b8a7b9396652a174d6fa33ed20", func := "coppice/coppicelaw20.OrderLines", spec := "orderLines", unfollowed := true, recurses := true, apart := false }
def OrderLinesSaid : Prop := orderLinesRow.holds Try.pinned (OpenSpec.ofChange orderLinesSpec)

/-- ITS FALSE NEIGHBOUR: 'it returns false'. Refute it at one input. -/
def orderLinesWrong : ChangeSpec := { name := "orderLines", fn := fun _ => fun
  | [d] => { results := [.lit (.bool false)], args := [d] }
  | _ => none }
def OrderLinesWrongFalsely : Prop := orderLinesRow.holds Try.pinned (OpenSpec.ofChange orderLinesWrong)

/-- 'coppicelaw20.OrderChecks': WHATEVER THE INPUT: true; the input reads as it did. -/
def orderChecksSpec : ChangeSpec := { name := "orderChecks", fn := fun _ => fun
  | [d] => { results := [.lit (.bool true)], args := [d] }
  | _ => none }
def orderChecksRow : OpenClaim := { program := "ytpbnngfiinihmaa", sum := "9bae65cc31272f10298f1db0a6936143ca3e14b8a7b9396652a174d6fa33ed20", func := "coppice/coppicelaw20.OrderChecks", spec := "orderChecks", unfollowed := true, recurses := true, apart := false }
def OrderChecksSaid : Prop := orderChecksRow.holds Try.pinned (OpenSpec.ofChange orderChecksSpec)

/-- ITS FALSE NEIGHBOUR: 'it returns false'. Refute it at one input. -/
def orderChecksWrong : ChangeSpec := { name := "orderChecks", fn := fun _ => fun
  | [d] => { results := [.lit (.bool false)], args := [d] }
  | _ => none }
def OrderChecksWrongFalsely : Prop := orderChecksRow.holds Try.pinned (OpenSpec.ofChange orderChecksWrong)

/-- 'coppicelaw20.OrderAfter': WHATEVER THE INPUT: true; the input reads as it did. -/
def orderAfterSpec : ChangeSpec := { name := "orderAfter", fn := fun _ => fun
  | [d1, d2, d3] => { results := [.lit (.bool true)], args := [d1, d2, d3] }
  | _ => none }
def orderAfterRow : OpenClaim := { program := "ytpbnngfiinihmaa", sum := "9bae65cc31272f10298f1db0a6936143ca3e14b8a7b9396652a174d6fa33ed20", func := "coppice/coppicelaw20.OrderAfter", spec := "orderAfter", unfollowed := true, recurses := true, apart := false }
def OrderAfterSaid : Prop := orderAfterRow.holds Try.pinned (OpenSpec.ofChange orderAfterSpec)

/-- ITS FALSE NEIGHBOUR: 'it returns false'. Refute it at one input. -/
def orderAfterWrong : ChangeSpec := { name := "orderAfter", fn := fun _ => fun
  | [d1, d2, d3] => { results := [.lit (.bool false)], args := [d1, d2, d3] }
  | _ => none }
def OrderAfterWrongFalsely : Prop := orderAfterRow.holds Try.pinned (OpenSpec.ofChange orderAfterWrong)

/-- 'coppicelaw20.OrderSeen': WHATEVER THE INPUT: true; the input reads as it did. -/
def orderSeenSpec : ChangeSpec := { name := "orderSeen", fn := fun _ => fun
  | [d] => { results := [.lit (.bool true)], args := [d] }
  | _ => none }
def orderSeenRow : OpenClaim := { program := "ytpbnngfiinihmaa", sum := "9bae65cc31272f10298f1db0a6936143ca3e14b8a7b9396652a174d6fa33ed20", func := "coppice/coppicelaw20.OrderSeen", spec := "orderSeen", inPlace := ["internal/bytealg.Compare"], unfollowed := true, recurses := true, apart := false }
def OrderSeenSaid : Prop := orderSeenRow.holds Try.pinned (OpenSpec.ofChange orderSeenSpec)

/-- ITS FALSE NEIGHBOUR: 'it returns false'. Refute it at one input. -/
def orderSeenWrong : ChangeSpec := { name := "orderSeen", fn := fun _ => fun
  | [d] => { results := [.lit (.bool false)], args := [d] }
  | _ => none }
def OrderSeenWrongFalsely : Prop := orderSeenRow.holds Try.pinned (OpenSpec.ofChange orderSeenWrong)

/- THE SECOND FORM. 'bulk': how many values and letters a reading holds, each counted each time it is reached (what is shared counts as often as it is met; a slice's spare places count too). A statement '..UptoSaid' is the law's where the arguments, and the package variables that the reading takes, are together of bulk at most 1048576: NARROWER than '..Said'. Prove '..Said' where nothing that the law and all that it calls make is longer than what came in: it says more and counts as full. Else prove '..UptoSaid'. A law counts once. -/
mutual
def uptoBulk {H : Type} : DataW H → Nat
  | .lit (.string bytes) => bytes.length + 1
  | .lit _ => 1
  | .nil => 1
  | .ptr d => uptoBulk d + 1
  | .slice elems spare => uptoBulkAll elems + uptoBulkAll spare + 1
  | .agg parts => uptoBulkAll parts + 1
  | .iface _ d => uptoBulk d + 1
  | .map entries => uptoBulkEntries entries + 1
  | .held _ => 1
def uptoBulkAll {H : Type} : List (DataW H) → Nat
  | [] => 0
  | d :: r => uptoBulk d + uptoBulkAll r
def uptoBulkEntries {H : Type} : List (Lit × DataW H) → Nat
  | [] => 0
  | x :: r => uptoBulkEntry x + uptoBulkEntries r
def uptoBulkEntry {H : Type} : Lit × DataW H → Nat
  | (.string bytes, d) => bytes.length + uptoBulk d + 1
  | (_, d) => uptoBulk d + 1
 end
def uptoSmall : (H : Type) → List (DataW H) → Bool := fun _ ds => decide (uptoBulkAll ds ≤ 1048576)
def OpenSpec.upto (s : _root_.Go.ChangeSpec) : _root_.Go.OpenSpec := { _root_.Go.OpenSpec.ofChange s with cond := some uptoSmall }

/-- 'coppicelaw20.OrderLines', WHERE WHAT IT READS IS OF BULK AT MOST 1048576: true; the input reads as it did. -/
def orderLinesUptoRow : OpenClaim := { program := "ytpbnngfiinihmaa", sum := "9bae65cc31272f10298f1db0a6936143ca3e14b8a7b9396652a174d6fa33ed20", func := "coppice/coppicelaw20.OrderLines", spec := "orderLines", unfollowed := true, recurses := true, apart := false, narrowed := true }
def OrderLinesUptoSaid : Prop := orderLinesUptoRow.holds Try.pinned (OpenSpec.upto orderLinesSpec)

/-- 'coppicelaw20.OrderChecks', WHERE WHAT IT READS IS OF BULK AT MOST 1048576: true; the input reads as it did. -/
def orderChecksUptoRow : OpenClaim := { program := "ytpbnngfiinihmaa", sum := "9bae65cc31272f10298f1db0a6936143ca3e14b8a7b9396652a174d6fa33ed20", func := "coppice/coppicelaw20.OrderChecks", spec := "orderChecks", unfollowed := true, recurses := true, apart := false, narrowed := true }
def OrderChecksUptoSaid : Prop := orderChecksUptoRow.holds Try.pinned (OpenSpec.upto orderChecksSpec)

/-- 'coppicelaw20.OrderAfter', WHERE WHAT IT READS IS OF BULK AT MOST 1048576: true; the input reads as it did. -/
def orderAfterUptoRow : OpenClaim := { program := "ytpbnngfiinihmaa", sum := "9bae65cc31272f10298f1db0a6936143ca3e14b8a7b9396652a174d6fa33ed20", func := "coppice/coppicelaw20.OrderAfter", spec := "orderAfter", unfollowed := true, recurses := true, apart := false, narrowed := true }
def OrderAfterUptoSaid : Prop := orderAfterUptoRow.holds Try.pinned (OpenSpec.upto orderAfterSpec)

/-- 'coppicelaw20.OrderSeen', WHERE WHAT IT READS IS OF BULK AT MOST 1048576: true; the input reads as it did. -/
def orderSeenUptoRow : OpenClaim := { program := "ytpbnngfiinihmaa", sum := "9bae65cc31272f10298f1db0a6936143ca3e14b8a7b9396652a174d6fa33ed20", func := "coppice/coppicelaw20.OrderSeen", spec := "orderSeen", inPlace := ["internal/bytealg.Compare"], unfollowed := true, recurses := true, apart := false, narrowed := true }
def OrderSeenUptoSaid : Prop := orderSeenUptoRow.holds Try.pinned (OpenSpec.upto orderSeenSpec)

end Rows
end Go.Proofs.Ytpbnngfiinihmaa
