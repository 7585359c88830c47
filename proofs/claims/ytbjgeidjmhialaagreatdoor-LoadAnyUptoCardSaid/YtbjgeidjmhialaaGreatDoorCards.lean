/-
  DERIVED. GIVEN WITH THE SEED: THE CARDS: each row of YtbjgeidjmhialaaGreatDoorRows.lean that lists a variable, with what it lists TIED to the program's text (the seventh form; the later family's looks); each row that meets fmt, with fmt's text TOLD by the authors' own Lean function (tested against real Go, not proved from fmt's source: count such statements apart). THE CARD IS WHAT COUNTS. Prove the row's statement (the work); the ties are given (YtbjgeidjmhialaaGreatDoorTie.lean); close each card by the builder's one call (the guide's Derived/Test/ToyasCard.lean, 'card_holds'). Laid BY PROGRAM, IN A SANDBOX (cutbox-door.mjs). By AI agents, Wed Nov 11 2026. No macro, syntax, notation, axiom, sorry.
-/
import Derived.Test.YtbjgeidjmhialaaGreatDoorRows
import GoSem.ClaimSeven
namespace Go.Proofs.YtbjgeidjmhialaaGreatDoor
namespace Rows

/-- THE TIED CARD OF 'coppicelaw22.LoadAny'. -/
def loadAnyCard : Claim7 := { stood := { row := loadAnyRow, standIns := [], harness := (true, "bdb214af0868a2156a7d9b44097fcf317883010cd75b434de4d251b67d704b81"), looks := true }, kinds := [], alts := [], laidByText := true, laidKinds := [.handle], laidTests := true, laidLooks := .later }
def LoadAnyCardSaid : Prop := Claim7.holds Tryz.pinned (.plain (OpenSpec.ofChange loadAnySpec)) loadAnyCard

/-- THE SECOND FORM's CARD OF 'coppicelaw22.LoadAny'. -/
def loadAnyUptoCard : Claim7 := { stood := { row := loadAnyUptoRow, standIns := [], harness := (true, "bdb214af0868a2156a7d9b44097fcf317883010cd75b434de4d251b67d704b81"), looks := true }, kinds := [], alts := [], laidByText := true, laidKinds := [.handle], laidTests := true, laidLooks := .later }
def LoadAnyUptoCardSaid : Prop := Claim7.holds Tryz.pinned (.plain (OpenSpec.upto loadAnySpec)) loadAnyUptoCard
end Rows
end Go.Proofs.YtbjgeidjmhialaaGreatDoor
