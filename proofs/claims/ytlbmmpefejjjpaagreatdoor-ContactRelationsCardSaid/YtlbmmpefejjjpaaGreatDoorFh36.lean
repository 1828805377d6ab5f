/- Closed facts of the row. -/
import Derived.Test.YtlbmmpefejjjpaaGreatDoorFh10
import Derived.Test.YtlbmmpefejjjpaaGreatDoorFh11
import Derived.Test.YtlbmmpefejjjpaaGreatDoorFh12
import Derived.Test.YtlbmmpefejjjpaaGreatDoorFh13
import Derived.Test.YtlbmmpefejjjpaaGreatDoorRows
import Derived.ProofKit

set_option linter.unusedSimpArgs false
set_option linter.unusedVariables false
section
namespace Go.Proofs.YtlbmmpefejjjpaaGreatDoor
set_option maxRecDepth 100000
theorem said_facts : joinedFacts Tryz.pinned.checked.prog 3 Tryz.f3 Rows.contactRelationsSpec Rows.contactRelationsRow = true := by
  unfold joinedFacts
  simp only [Bool.and_eq_true]
  exact ⟨⟨⟨⟨⟨⟨⟨⟨⟨⟨⟨⟨⟨⟨⟨⟨⟨⟨⟨⟨⟨⟨⟨⟨⟨⟨⟨⟨⟨⟨⟨by kernel_rfl, by kernel_rfl⟩, by kernel_rfl⟩, by kernel_rfl⟩, by kernel_rfl⟩, by kernel_rfl⟩, by kernel_rfl⟩, by kernel_rfl⟩, by kernel_rfl⟩, fact10⟩, fact11⟩, fact12⟩, fact13⟩, by kernel_rfl⟩, by kernel_rfl⟩, by kernel_rfl⟩, by kernel_rfl⟩, by kernel_rfl⟩, by kernel_rfl⟩, by kernel_rfl⟩, by kernel_rfl⟩, by kernel_rfl⟩, by kernel_rfl⟩, by kernel_rfl⟩, by kernel_rfl⟩, by kernel_rfl⟩, by kernel_rfl⟩, by kernel_rfl⟩, by kernel_rfl⟩, by kernel_rfl⟩, by kernel_rfl⟩, by kernel_rfl⟩
end Go.Proofs.YtlbmmpefejjjpaaGreatDoor
end
