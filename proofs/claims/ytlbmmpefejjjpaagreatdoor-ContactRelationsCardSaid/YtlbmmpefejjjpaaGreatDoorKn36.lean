/- The examples of the chapter: known() returns true. -/
import Derived.Test.YtlbmmpefejjjpaaGreatDoorMe36
import Derived.Test.YtlbmmpefejjjpaaGreatDoorEwX
import Derived.Below

set_option linter.unusedSimpArgs false
set_option linter.unusedVariables false
section
namespace Ev.Kn
open Go Ev Ev.Or Go.RowKit
set_option maxRecDepth 1000000

noncomputable def orcM : Nat → Option Orc := orcL (Me.lM ++ lA)
theorem lM_ok {B : Base} (hK : KG 1 pow B) : ∀ e ∈ Me.lM ++ lA, OrcOK B P36 e.1 e.2 := by
  intro e he
  rcases List.mem_append.1 he with he | he
  · exact Me.lM_ok hK e he
  · exact lA_ok e he
noncomputable def evM : Tg → List AV → T ARow → Nat → Option R := evCall orcM fns36 100000 200
/-- The sheet of the examples is right. -/
def sheet : DRow := ⟨[.agg [.slice 2 0 4 (.op 2), .slice 3 0 2 (.ex 2)]], [[.str [48], .str [48], .str [52], .str [48], .str [52], .str [52], .str [48], .str [52]], [.int .i64 (.ofNat 0), .int .i64 (.ofNat 1), .int .i64 (.ofNat 2), .int .i64 (.ofNat 0), .int .i64 (.ofNat 2), .int .i64 (.ofNat 3)]], .int .i64 (.ofNat 0)⟩
theorem sheet_run : dEv (evM (.r 58)) 1 pow sheet = true := by kernel_rfl
theorem sheet_ok {B : Base} (hK : KG 1 pow B) : OrcOK B P36 58 (dMemo 1 [sheet] evM 58) :=
  dMemo_ok mixed Td.tied (fun B hK => orcL_ok (lM_ok hK)) hK (fun e he => by
    simp only [List.mem_singleton] at he
    subst he; exact sheet_run)
noncomputable def lC : List (Nat × Orc) := (58, dMemo 1 [sheet] evM 58) :: (Me.lM ++ lA)
noncomputable def orcC : Nat → Option Orc := orcL lC
theorem lC_ok {B : Base} (hK : KG 1 pow B) : ∀ e ∈ lC, OrcOK B P36 e.1 e.2 := by
  intro e he
  rcases List.mem_cons.1 he with rfl | he
  · exact sheet_ok hK
  · exact lM_ok hK e he
theorem orcC_ok (B : Base) (hK : KG 1 pow B) : ∀ f o, orcC f = some o → OrcOK B P36 f o := orcL_ok (lC_ok hK)
theorem run : (bo (evCall orcC fns36 100000 200 (.r 4) [] (g0 1 pow) (Nat.succ 1)) fun r => some r.v) = some (.bool true) := by kernel_rfl
theorem known (w : World) (hw : PowW 1 pow w) : Calls P36 4 #[] w fun e w' => e = .returned (.bool true) ∧ Below w.heap.size w w' :=
  closedG mixed Td.tied orcC_ok run (fun ι u h => by cases h; rfl) w hw
#print axioms known
end Ev.Kn
end
