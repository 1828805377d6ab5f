/- ContactRelations: for every contact the law returns true, and the contact reads behind the call as it read before. Conditions: those of the given row and card; the listed variables are tied to the program by the given tie. The closed part (known) is run in the kernel by an evaluator that is proved sound against the model. -/
import Derived.Test.YtlbmmpefejjjpaaGreatDoorFj36

set_option linter.unusedSimpArgs false
set_option linter.unusedVariables false
section
namespace Go.Proofs.YtlbmmpefejjjpaaGreatDoor
open Go.ChangeShapes Go.WideShapes Go.ChangeAt Go.WideMaps Go.WideElems Go.RowKit
set_option maxRecDepth 100000
theorem contactRelations_holds : Rows.ContactRelationsCardSaid :=
  Claim7.holds_tied_plain_at .later [] [.data, .data, .data, .sentinel, .sentinel] true (true, "cfd162f005b2105a0142780876e06adb2275191240b02f9fa4768e41cc3e3ad6") true
    contactRelations_said (fun _ h => by cases h) (by kernel_rfl) (fun _ h => by cases h) contactRelations_row_tie rfl ⟨rfl, rfl⟩ (by kernel_rfl) rfl
    (fun f fn hf hfn => by
      obtain rfl : f = 3 := Option.some.inj ((show Tryz.prog.funcNamed "klippe/klippelaw36.ContactRelations" = some 3 by kernel_rfl).symm.trans hf) |>.symm
      obtain rfl : fn = Tryz.f3 := (Option.some.inj (Tryz.func3.symm.trans hfn)).symm
      exact ⟨by kernel_rfl, fun j t ht => by
        rw [Tryz.params3] at ht
        have h3 : t = 23 := by
          rcases j with _ | j
          · simpa using ht.symm
          · simp at ht
        subst h3
        exact (show Tryz.prog.wantsStandIn 23 = false by kernel_rfl)⟩)
    (by kernel_rfl)
#print axioms contactRelations_holds
end Go.Proofs.YtlbmmpefejjjpaaGreatDoor
end
