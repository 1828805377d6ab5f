/- Closed facts of the card: how the program looks. -/
import Derived.Test.YtkakkacpddiogaaGreatDoorCards
import Derived.ProofKit

set_option linter.unusedSimpArgs false
set_option linter.unusedVariables false
section
namespace Go.Proofs.YtkakkacpddiogaaGreatDoor
set_option maxRecDepth 100000
theorem cf_looks : true = Tryz.pinned.checked.prog.looks [] := by kernel_rfl
theorem cf_want22 : Tryz.prog.wantsStandIn 22 = false := by kernel_rfl
end Go.Proofs.YtkakkacpddiogaaGreatDoor
end
