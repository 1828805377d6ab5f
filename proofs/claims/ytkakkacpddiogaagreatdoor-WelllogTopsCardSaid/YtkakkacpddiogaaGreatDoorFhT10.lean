/- A closed fact of the row. -/
import Derived.Test.YtkakkacpddiogaaGreatDoorRows
import Derived.ProofKit

set_option linter.unusedSimpArgs false
set_option linter.unusedVariables false
section
namespace Go.Proofs.YtkakkacpddiogaaGreatDoor
set_option maxRecDepth 100000
theorem fact10 : (Rows.welllogTopsRow.inPlace == Tryz.pinned.checked.prog.inPlace 3) = true := by kernel_rfl
end Go.Proofs.YtkakkacpddiogaaGreatDoor
end
