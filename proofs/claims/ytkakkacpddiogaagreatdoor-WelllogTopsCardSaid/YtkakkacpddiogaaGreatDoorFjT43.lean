/- The row, out of the lifted law. -/
import Derived.Test.YtkakkacpddiogaaGreatDoorFiT43
import Derived.Test.YtkakkacpddiogaaGreatDoorFhT43

set_option linter.unusedSimpArgs false
set_option linter.unusedVariables false
section
namespace Go.Proofs.YtkakkacpddiogaaGreatDoor
open Go.ChangeShapes Go.WideShapes Go.ChangeAt Go.WideMaps Go.WideElems Go.RowKit
set_option maxRecDepth 100000
theorem said_named : Tryz.pinned.checked.prog.funcNamed Rows.welllogTopsRow.func = some 3 := by kernel_rfl
theorem said_inst : Tryz.f3.isInstance Tryz.pinned.checked.prog Rows.welllogTopsRow.origin Rows.welllogTopsRow.targs := of_decide_eq_true (by kernel_rfl)
theorem welllogTops_said : Rows.WelllogTopsSaid :=
  OpenClaim.holds_of_wide 3 Tryz.f3 rfl rfl rfl rfl rfl rfl rfl ⟨rfl, rfl, rfl, rfl, rfl⟩ rfl rfl rfl rfl rfl said_named Tryz.func3 said_facts
    said_inst (by unfold Func.isWrapper; first | (rw [if_pos (by decide +kernel)]; kernel_rfl) | (rw [if_neg (by decide +kernel)]; exact ⟨rfl, rfl⟩))
    (fun os started H enc _ => lifted os started H enc)

end Go.Proofs.YtkakkacpddiogaaGreatDoor
end
