/- The examples of the chapter: known() returns true: the run. -/
import Derived.Test.YtkakkacpddiogaaGreatDoorGEwX
import Derived.Below

set_option linter.unusedSimpArgs false
set_option linter.unusedVariables false
section
namespace Ev.Kn
open Go Ev Ev.Or Go.RowKit
set_option maxRecDepth 1000000
theorem run : (bo (evCall orcC fns43 100000 200 (.r 8) [] (g0 1 pow) (Nat.succ 1)) fun r => some r.v) = some (.bool true) := by kernel_rfl
theorem known (w : World) (hw : PowW 1 pow w) : Calls P43 8 #[] w fun e w' => e = .returned (.bool true) ∧ Below w.heap.size w w' :=
  closedG mixed Td.tied orcC_ok run (fun ι u h => by cases h; rfl) w hw
#print axioms known
end Ev.Kn
end
