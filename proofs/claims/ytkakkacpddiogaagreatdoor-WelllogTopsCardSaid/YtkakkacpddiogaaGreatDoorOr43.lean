/- The oracles of this program. -/
import Derived.Test.YtkakkacpddiogaaGreatDoorGEwN
import Derived.Test.YtkakkacpddiogaaGreatDoorGIR43
import Derived.Test.YtkakkacpddiogaaGreatDoorGTd43

set_option linter.unusedSimpArgs false
set_option linter.unusedVariables false
section
namespace Ev.Or
open Go Ev
set_option maxRecDepth 100000
noncomputable abbrev P43 : Program := Go.Proofs.Tryz.prog

theorem mixed : P43.follows .mixedOrders = true := by kernel_rfl
noncomputable def fn (k : Nat) : Func := (P43.funcs[k]?).getD default
theorem o170 {B : Base} : OrcOK B P43 170 oIdx :=
  ext_ok (fn := fn 170) (by kernel_rfl) (by kernel_rfl) (by intro h; have : ((fn 170).name == "runtime.NumGoroutine") = false := by kernel_rfl
                                                            simp [h] at this) (by kernel_rfl) (by kernel_rfl) (fun h ha => indexByte_ok (oIdx_eq h) ha)
theorem o219 {B : Base} : OrcOK B P43 219 oSame :=
  ext_ok (fn := fn 219) (by kernel_rfl) (by kernel_rfl) (by intro h; have : ((fn 219).name == "runtime.NumGoroutine") = false := by kernel_rfl
                                                            simp [h] at this) (by kernel_rfl) (by kernel_rfl) (fun h ha => same_ok h ha)
theorem o179 {B : Base} : OrcOK B P43 179 oCompare :=
  ext_ok (fn := fn 179) (by kernel_rfl) (by kernel_rfl) (by intro h; have : ((fn 179).name == "runtime.NumGoroutine") = false := by kernel_rfl
                                                            simp [h] at this) (by kernel_rfl) (by kernel_rfl) (fun h ha => compare_ok h ha)
/-- The powers of ten: package variable 1. -/
def pow : List AV := [1, 10, 100, 1000, 10000, 100000, 1000000, 10000000, 100000000, 1000000000, 10000000000, 100000000000, 1000000000000, 10000000000000, 100000000000000, 1000000000000000, 10000000000000000, 100000000000000000, 1000000000000000000, 10000000000000000000].map fun n => .int .u64 (.ofNat n)

noncomputable def lA : List (Nat × Orc) := [(170, oIdx), (219, oSame), (179, oCompare), (184, Ou.oOuter)]
noncomputable def orcA : Nat → Option Orc := orcL lA
theorem lA_ok {B : Base} : ∀ e ∈ lA, OrcOK B P43 e.1 e.2 := by
  intro e he
  simp only [lA, List.mem_cons, List.not_mem_nil, or_false] at he
  rcases he with rfl | rfl | rfl | rfl
  · exact o170
  · exact o219
  · exact o179
  · exact Ou.outer_ok mixed B
theorem orcA_ok (B : Base) : ∀ f o, orcA f = some o → OrcOK B P43 f o := orcL_ok lA_ok
noncomputable def evA : Tg → List AV → T ARow → Nat → Option R := evCall orcA fns43 100000 200
end Ev.Or
end
