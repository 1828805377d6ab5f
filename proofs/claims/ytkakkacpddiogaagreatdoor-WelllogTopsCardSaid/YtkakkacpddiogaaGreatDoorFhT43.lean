/- Closed facts of the row. -/
import Derived.Test.YtkakkacpddiogaaGreatDoorFhT10
import Derived.Test.YtkakkacpddiogaaGreatDoorFhT11
import Derived.Test.YtkakkacpddiogaaGreatDoorFhT12
import Derived.Test.YtkakkacpddiogaaGreatDoorFhT13
import Derived.Test.YtkakkacpddiogaaGreatDoorRows
import Derived.ProofKit

set_option linter.unusedSimpArgs false
set_option linter.unusedVariables false
section
namespace Go.Proofs.YtkakkacpddiogaaGreatDoor
set_option maxRecDepth 100000
theorem said_facts : joinedFacts Tryz.pinned.checked.prog 3 Tryz.f3 Rows.welllogTopsSpec Rows.welllogTopsRow = true := by
  unfold joinedFacts
  simp only [Bool.and_eq_true]
  exact ⟨⟨⟨⟨⟨⟨⟨⟨⟨⟨⟨⟨⟨⟨⟨⟨⟨⟨⟨⟨⟨⟨⟨⟨⟨⟨⟨⟨⟨⟨⟨by kernel_rfl, by kernel_rfl⟩, by kernel_rfl⟩, by kernel_rfl⟩, by kernel_rfl⟩, by kernel_rfl⟩, by kernel_rfl⟩, by kernel_rfl⟩, by kernel_rfl⟩, fact10⟩, fact11⟩, fact12⟩, fact13⟩, by kernel_rfl⟩, by kernel_rfl⟩, by kernel_rfl⟩, by kernel_rfl⟩, by kernel_rfl⟩, by kernel_rfl⟩, by kernel_rfl⟩, by kernel_rfl⟩, by kernel_rfl⟩, by kernel_rfl⟩, by kernel_rfl⟩, by kernel_rfl⟩, by kernel_rfl⟩, by kernel_rfl⟩, by kernel_rfl⟩, by kernel_rfl⟩, by kernel_rfl⟩, by kernel_rfl⟩, by kernel_rfl⟩
end Go.Proofs.YtkakkacpddiogaaGreatDoor
end
