/- WALKS: the statement SchedFair. -/
import Derived.Test.YtiallkiiofomgaaGreatFaB
import Derived.Test.YtiallkiiofomgaaGreatYp
namespace Go.Proofs.YtiallkiiofomgaaGreat
open Go.Proofs.Tryz
set_option maxRecDepth 100000
theorem schedfair_any (l : List Int) (hl : l.length ≤ 1048576) (c w : Int) (H : Hp) :
    AC prog 4 [its l, iv c, iv w] H [] fun _ r _ => r = .v (.bool true) := by
  refine AC.of func4 rfl (by kernel_rfl) (by kernel_rfl) fun Wr hW => ?_
  simp
  refine acall.of (head_true H) fun a H' e => ?_
  subst e
  simp
  refine aO.ev ?_
  simp
  refine eG.yes ?_
  simp
  refine eG.yes ?_
  simp
  refine eG.yes ?_
  simp
  refine eG.yes ?_
  simp
  refine acall.of (fair_any l hl c w H') fun a H2 e => ?_
  subst e
  simp
  refine aO.ev ?_
  simp
  refine eG.yes ?_
  simp
  refine eG.yes ?_
  simp
  refine eG.yes ?_
  simp
  refine eG.yes ?_
  simp
  refine acall.of (rfair_any l hl c w H2) fun a H3 e => ?_
  subst e
  simp
  refine aO.ev ?_
  simp
  refine eG.yes ?_
  simp
  exact Fin.mk rfl
end Go.Proofs.YtiallkiiofomgaaGreat
