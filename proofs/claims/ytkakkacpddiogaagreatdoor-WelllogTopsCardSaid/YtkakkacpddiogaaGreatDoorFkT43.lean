/- WelllogTops: for every input the law returns true, and what it reads reads behind the call as it read before. Conditions: those of the given row and card; the listed variables are tied to the program by the given tie. The closed part (known) is run in the kernel by an evaluator that is proved sound against the model; the rest is walked by the same evaluator with unknown values. -/
import Derived.Test.YtkakkacpddiogaaGreatDoorFjT43
import Derived.Test.YtkakkacpddiogaaGreatDoorFgT43
import Derived.Test.YtkakkacpddiogaaGreatDoorFlT43

set_option linter.unusedSimpArgs false
set_option linter.unusedVariables false
section
namespace Go.Proofs.YtkakkacpddiogaaGreatDoor
open Go.ChangeShapes Go.WideShapes Go.ChangeAt Go.WideMaps Go.WideElems Go.RowKit
set_option maxRecDepth 100000
theorem welllogTops_holds : Rows.WelllogTopsCardSaid :=
  Claim7.holds_tied_plain_at .later [] [.data, .data, .data, .sentinel, .sentinel] true (true, "9eab3522df16a5c8b391370e4e0ee0c788f618622901efdfe2d7aa5ac60f9b57") true
    welllogTops_said (fun _ h => by cases h) cf_wf (fun _ h => by cases h) welllogTops_row_tie rfl ⟨rfl, rfl⟩ cf_main rfl
    (fun f fn hf hfn => by
      obtain rfl : f = 3 := Option.some.inj (cf_named.symm.trans hf) |>.symm
      obtain rfl : fn = Tryz.f3 := (Option.some.inj (Tryz.func3.symm.trans hfn)).symm
      exact ⟨cf_looks, fun j t ht => by
        rw [Tryz.params3] at ht
        have h3 : t = 22 := by
          rcases j with _ | j
          · simpa using ht.symm
          · simp at ht
        rcases h3 with rfl
        exact cf_want22⟩)
    cf_goes
#print axioms welllogTops_holds
end Go.Proofs.YtkakkacpddiogaaGreatDoor
end
