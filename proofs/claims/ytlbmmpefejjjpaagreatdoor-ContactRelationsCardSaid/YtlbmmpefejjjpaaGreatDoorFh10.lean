/- A closed fact of the row. -/
import Derived.Test.YtlbmmpefejjjpaaGreatDoorRows
import Derived.ProofKit

set_option linter.unusedSimpArgs false
set_option linter.unusedVariables false
section
namespace Go.Proofs.YtlbmmpefejjjpaaGreatDoor
set_option maxRecDepth 100000
theorem fact10 : (Rows.contactRelationsRow.inPlace == Tryz.pinned.checked.prog.inPlace 3) = true := by kernel_rfl
end Go.Proofs.YtlbmmpefejjjpaaGreatDoor
end
