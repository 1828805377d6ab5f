/- Closed facts of the card. -/
import Derived.Test.YtkakkacpddiogaaGreatDoorCards
import Derived.ProofKit

set_option linter.unusedSimpArgs false
set_option linter.unusedVariables false
section
namespace Go.Proofs.YtkakkacpddiogaaGreatDoor
set_option maxRecDepth 100000
theorem cf_wf : OpenClaim.wfByText (OpenSpec.ofChange Rows.welllogTopsSpec) Rows.welllogTopsRow = true := by kernel_rfl
theorem cf_main : Tryz.pinned.checked.prog.mainIs = some ((true, "9eab3522df16a5c8b391370e4e0ee0c788f618622901efdfe2d7aa5ac60f9b57").fst, (true, "9eab3522df16a5c8b391370e4e0ee0c788f618622901efdfe2d7aa5ac60f9b57").snd.toList) := by kernel_rfl
theorem cf_named : Tryz.prog.funcNamed "klippe/klippelaw43.WelllogTops" = some 3 := by kernel_rfl
theorem cf_goes : false = Rows.welllogTopsRow.goesBy Tryz.pinned.checked.prog := by kernel_rfl
end Go.Proofs.YtkakkacpddiogaaGreatDoor
end
