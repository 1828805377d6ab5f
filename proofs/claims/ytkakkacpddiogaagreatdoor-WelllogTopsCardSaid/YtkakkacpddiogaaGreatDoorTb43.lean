/- Tables of answers at halves. -/
import Derived.Test.YtkakkacpddiogaaGreatDoorMe43
import Derived.Test.YtkakkacpddiogaaGreatDoorMk43

set_option linter.unusedSimpArgs false
set_option linter.unusedVariables false
section
namespace Ev.Tp
open Go Ev Ev.Or
set_option maxRecDepth 1000000

def tOf : List (List AV × AV) := (List.range 65).map fun n => ([.int .i64 (.ofNat n), .int .i64 (.ofNat 2)], .tup [.str (H n), .int .i64 (.ofNat 0)])
theorem mOf : allG (Me.ev 35) tOf = true := by kernel_rfl
def tUn : List (List AV × AV) := (List.range 256).map fun n => ([.int .u8 (.ofNat n)], .str (unitS n))
theorem mUn : allG (Me.ev 36) tUn = true := by kernel_rfl
def tCk : List (List AV × AV) := (List.range 65).map fun n => ([.str (H n)], .int .i64 (.ofNat 0))
theorem mCk : allG (Me.ev 40) tCk = true := by kernel_rfl
def tSg : List (List AV × AV) := (List.range 65).map fun n => ([.str (H n)], .int .i64 (.ofNat (min n 1)))
theorem mSg : allG (Me.ev 55) tSg = true := by kernel_rfl
end Ev.Tp
end
