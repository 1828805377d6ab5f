/- The sort's table, by a run for each order. -/
import Derived.Test.YtkakkacpddiogaaGreatDoorOr43

set_option linter.unusedSimpArgs false
set_option linter.unusedVariables false
section
namespace Ev.Sc
open Go Ev Ev.Or
set_option maxRecDepth 1000000
def L1 : List (Int × Int) := [(0, 1), (1, 2), (0, 2), (2, 3), (0, 3)]
def S1 : List (Int × Int) := [(0, 1), (0, 2), (0, 3), (1, 2), (2, 3)]
theorem c0 : allR (turnB (evA (.r 287)) 308 2 5 288) (((sortT L1 S1).drop 0).take 10) = true := by kernel_rfl
theorem c1 : allR (turnB (evA (.r 287)) 308 2 5 288) (((sortT L1 S1).drop 10).take 10) = true := by kernel_rfl
theorem c2 : allR (turnB (evA (.r 287)) 308 2 5 288) (((sortT L1 S1).drop 20).take 10) = true := by kernel_rfl
theorem c3 : allR (turnB (evA (.r 287)) 308 2 5 288) (((sortT L1 S1).drop 30).take 10) = true := by kernel_rfl
theorem c4 : allR (turnB (evA (.r 287)) 308 2 5 288) (((sortT L1 S1).drop 40).take 10) = true := by kernel_rfl
theorem c5 : allR (turnB (evA (.r 287)) 308 2 5 288) (((sortT L1 S1).drop 50).take 10) = true := by kernel_rfl
theorem c6 : allR (turnB (evA (.r 287)) 308 2 5 288) (((sortT L1 S1).drop 60).take 10) = true := by kernel_rfl
theorem c7 : allR (turnB (evA (.r 287)) 308 2 5 288) (((sortT L1 S1).drop 70).take 10) = true := by kernel_rfl
theorem c8 : allR (turnB (evA (.r 287)) 308 2 5 288) (((sortT L1 S1).drop 80).take 10) = true := by kernel_rfl
theorem c9 : allR (turnB (evA (.r 287)) 308 2 5 288) (((sortT L1 S1).drop 90).take 10) = true := by kernel_rfl
theorem c10 : allR (turnB (evA (.r 287)) 308 2 5 288) (((sortT L1 S1).drop 100).take 10) = true := by kernel_rfl
theorem c11 : allR (turnB (evA (.r 287)) 308 2 5 288) (((sortT L1 S1).drop 110).take 10) = true := by kernel_rfl
theorem step {p : List AV × List AV → Bool} {t : List (List AV × List AV)} (i : Nat) (h1 : allR p ((t.drop i).take 10) = true) (h2 : ∀ e ∈ t.drop (i + 10), p e = true) : ∀ e ∈ t.drop i, p e = true := by
  intro e he
  rw [← List.take_append_drop 10 (t.drop i)] at he
  rcases List.mem_append.1 he with h | h
  · exact allR_ok h1 e h
  · rw [List.drop_drop] at h; exact h2 e h
theorem last : ∀ e ∈ (sortT L1 S1).drop (110 + 10), turnB (evA (.r 287)) 308 2 5 288 e = true := by
  have h : (sortT L1 S1).drop (110 + 10) = [] := by kernel_rfl
  intro e he
  rw [h] at he
  cases he
theorem sorted : ∀ e ∈ sortT L1 S1, turnB (evA (.r 287)) 308 2 5 288 e = true := (step 0 c0 (step 10 c1 (step 20 c2 (step 30 c3 (step 40 c4 (step 50 c5 (step 60 c6 (step 70 c7 (step 80 c8 (step 90 c9 (step 100 c10 (step 110 c11 last))))))))))))
theorem turned : ∀ e ∈ sortT L1 S1, TurnOK (evCall orcA fns43 100000 200 (.r 287)) 308 2 5 288 e := fun e he => turnB_ok (sorted e he)
end Ev.Sc
end
