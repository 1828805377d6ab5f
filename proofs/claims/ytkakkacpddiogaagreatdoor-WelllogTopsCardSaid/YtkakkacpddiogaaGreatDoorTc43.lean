/- Comparisons of halves that are near to each other. -/
import Derived.Test.YtkakkacpddiogaaGreatDoorMe43
import Derived.Test.YtkakkacpddiogaaGreatDoorMk43

set_option linter.unusedSimpArgs false
set_option linter.unusedVariables false
section
namespace Ev.Tp
open Go Ev Ev.Or
set_option maxRecDepth 1000000
def rowC (n : Nat) : List AV × AV := ([.str (H (n / 7 + n % 7)), .str (H (n / 7))], .int .i64 (.ofNat (min (n % 7) 1)))
theorem mC0 : allG (Me.ev 24) ((List.range 18).map fun j => rowC (18 * 0 + j)) = true := by kernel_rfl
theorem mC1 : allG (Me.ev 24) ((List.range 18).map fun j => rowC (18 * 1 + j)) = true := by kernel_rfl
theorem mC2 : allG (Me.ev 24) ((List.range 18).map fun j => rowC (18 * 2 + j)) = true := by kernel_rfl
theorem mC3 : allG (Me.ev 24) ((List.range 18).map fun j => rowC (18 * 3 + j)) = true := by kernel_rfl
theorem mC4 : allG (Me.ev 24) ((List.range 18).map fun j => rowC (18 * 4 + j)) = true := by kernel_rfl
theorem mC5 : allG (Me.ev 24) ((List.range 18).map fun j => rowC (18 * 5 + j)) = true := by kernel_rfl
theorem mC6 : allG (Me.ev 24) ((List.range 18).map fun j => rowC (18 * 6 + j)) = true := by kernel_rfl
theorem mC7 : allG (Me.ev 24) ((List.range 18).map fun j => rowC (18 * 7 + j)) = true := by kernel_rfl
theorem mC8 : allG (Me.ev 24) ((List.range 18).map fun j => rowC (18 * 8 + j)) = true := by kernel_rfl
theorem mC9 : allG (Me.ev 24) ((List.range 18).map fun j => rowC (18 * 9 + j)) = true := by kernel_rfl
theorem mC10 : allG (Me.ev 24) ((List.range 18).map fun j => rowC (18 * 10 + j)) = true := by kernel_rfl
theorem mC11 : allG (Me.ev 24) ((List.range 18).map fun j => rowC (18 * 11 + j)) = true := by kernel_rfl
theorem mC12 : allG (Me.ev 24) ((List.range 18).map fun j => rowC (18 * 12 + j)) = true := by kernel_rfl
theorem mC13 : allG (Me.ev 24) ((List.range 18).map fun j => rowC (18 * 13 + j)) = true := by kernel_rfl
theorem mC14 : allG (Me.ev 24) ((List.range 18).map fun j => rowC (18 * 14 + j)) = true := by kernel_rfl
theorem mC15 : allG (Me.ev 24) ((List.range 18).map fun j => rowC (18 * 15 + j)) = true := by kernel_rfl
theorem mC16 : allG (Me.ev 24) ((List.range 18).map fun j => rowC (18 * 16 + j)) = true := by kernel_rfl
theorem mC17 : allG (Me.ev 24) ((List.range 18).map fun j => rowC (18 * 17 + j)) = true := by kernel_rfl
theorem mC18 : allG (Me.ev 24) ((List.range 18).map fun j => rowC (18 * 18 + j)) = true := by kernel_rfl
theorem mC19 : allG (Me.ev 24) ((List.range 18).map fun j => rowC (18 * 19 + j)) = true := by kernel_rfl
theorem mC20 : allG (Me.ev 24) ((List.range 18).map fun j => rowC (18 * 20 + j)) = true := by kernel_rfl
theorem mC21 : allG (Me.ev 24) ((List.range 18).map fun j => rowC (18 * 21 + j)) = true := by kernel_rfl
theorem mC22 : allG (Me.ev 24) ((List.range 18).map fun j => rowC (18 * 22 + j)) = true := by kernel_rfl
theorem mC23 : allG (Me.ev 24) ((List.range 18).map fun j => rowC (18 * 23 + j)) = true := by kernel_rfl
theorem mC24 : allG (Me.ev 24) ((List.range 18).map fun j => rowC (18 * 24 + j)) = true := by kernel_rfl
theorem mC25 : allG (Me.ev 24) ((List.range 18).map fun j => rowC (18 * 25 + j)) = true := by kernel_rfl
theorem cm_row (n : Nat) (hn : n < 455) : RowG P43 1 pow 24 (rowC n) := by
  have hj : n % 18 ∈ List.range 18 := List.mem_range.2 (Nat.mod_lt _ (by omega))
  have hk : n / 18 = 0 ∨ n / 18 = 1 ∨ n / 18 = 2 ∨ n / 18 = 3 ∨ n / 18 = 4 ∨ n / 18 = 5 ∨ n / 18 = 6 ∨ n / 18 = 7 ∨ n / 18 = 8 ∨ n / 18 = 9 ∨ n / 18 = 10 ∨ n / 18 = 11 ∨ n / 18 = 12 ∨ n / 18 = 13 ∨ n / 18 = 14 ∨ n / 18 = 15 ∨ n / 18 = 16 ∨ n / 18 = 17 ∨ n / 18 = 18 ∨ n / 18 = 19 ∨ n / 18 = 20 ∨ n / 18 = 21 ∨ n / 18 = 22 ∨ n / 18 = 23 ∨ n / 18 = 24 ∨ n / 18 = 25 := by omega
  rcases hk with h | h | h | h | h | h | h | h | h | h | h | h | h | h | h | h | h | h | h | h | h | h | h | h | h | h
  · have e : n = 18 * 0 + n % 18 := by omega
    rw [e]; exact Me.rows mC0 _ (List.mem_map.2 ⟨n % 18, hj, rfl⟩)
  · have e : n = 18 * 1 + n % 18 := by omega
    rw [e]; exact Me.rows mC1 _ (List.mem_map.2 ⟨n % 18, hj, rfl⟩)
  · have e : n = 18 * 2 + n % 18 := by omega
    rw [e]; exact Me.rows mC2 _ (List.mem_map.2 ⟨n % 18, hj, rfl⟩)
  · have e : n = 18 * 3 + n % 18 := by omega
    rw [e]; exact Me.rows mC3 _ (List.mem_map.2 ⟨n % 18, hj, rfl⟩)
  · have e : n = 18 * 4 + n % 18 := by omega
    rw [e]; exact Me.rows mC4 _ (List.mem_map.2 ⟨n % 18, hj, rfl⟩)
  · have e : n = 18 * 5 + n % 18 := by omega
    rw [e]; exact Me.rows mC5 _ (List.mem_map.2 ⟨n % 18, hj, rfl⟩)
  · have e : n = 18 * 6 + n % 18 := by omega
    rw [e]; exact Me.rows mC6 _ (List.mem_map.2 ⟨n % 18, hj, rfl⟩)
  · have e : n = 18 * 7 + n % 18 := by omega
    rw [e]; exact Me.rows mC7 _ (List.mem_map.2 ⟨n % 18, hj, rfl⟩)
  · have e : n = 18 * 8 + n % 18 := by omega
    rw [e]; exact Me.rows mC8 _ (List.mem_map.2 ⟨n % 18, hj, rfl⟩)
  · have e : n = 18 * 9 + n % 18 := by omega
    rw [e]; exact Me.rows mC9 _ (List.mem_map.2 ⟨n % 18, hj, rfl⟩)
  · have e : n = 18 * 10 + n % 18 := by omega
    rw [e]; exact Me.rows mC10 _ (List.mem_map.2 ⟨n % 18, hj, rfl⟩)
  · have e : n = 18 * 11 + n % 18 := by omega
    rw [e]; exact Me.rows mC11 _ (List.mem_map.2 ⟨n % 18, hj, rfl⟩)
  · have e : n = 18 * 12 + n % 18 := by omega
    rw [e]; exact Me.rows mC12 _ (List.mem_map.2 ⟨n % 18, hj, rfl⟩)
  · have e : n = 18 * 13 + n % 18 := by omega
    rw [e]; exact Me.rows mC13 _ (List.mem_map.2 ⟨n % 18, hj, rfl⟩)
  · have e : n = 18 * 14 + n % 18 := by omega
    rw [e]; exact Me.rows mC14 _ (List.mem_map.2 ⟨n % 18, hj, rfl⟩)
  · have e : n = 18 * 15 + n % 18 := by omega
    rw [e]; exact Me.rows mC15 _ (List.mem_map.2 ⟨n % 18, hj, rfl⟩)
  · have e : n = 18 * 16 + n % 18 := by omega
    rw [e]; exact Me.rows mC16 _ (List.mem_map.2 ⟨n % 18, hj, rfl⟩)
  · have e : n = 18 * 17 + n % 18 := by omega
    rw [e]; exact Me.rows mC17 _ (List.mem_map.2 ⟨n % 18, hj, rfl⟩)
  · have e : n = 18 * 18 + n % 18 := by omega
    rw [e]; exact Me.rows mC18 _ (List.mem_map.2 ⟨n % 18, hj, rfl⟩)
  · have e : n = 18 * 19 + n % 18 := by omega
    rw [e]; exact Me.rows mC19 _ (List.mem_map.2 ⟨n % 18, hj, rfl⟩)
  · have e : n = 18 * 20 + n % 18 := by omega
    rw [e]; exact Me.rows mC20 _ (List.mem_map.2 ⟨n % 18, hj, rfl⟩)
  · have e : n = 18 * 21 + n % 18 := by omega
    rw [e]; exact Me.rows mC21 _ (List.mem_map.2 ⟨n % 18, hj, rfl⟩)
  · have e : n = 18 * 22 + n % 18 := by omega
    rw [e]; exact Me.rows mC22 _ (List.mem_map.2 ⟨n % 18, hj, rfl⟩)
  · have e : n = 18 * 23 + n % 18 := by omega
    rw [e]; exact Me.rows mC23 _ (List.mem_map.2 ⟨n % 18, hj, rfl⟩)
  · have e : n = 18 * 24 + n % 18 := by omega
    rw [e]; exact Me.rows mC24 _ (List.mem_map.2 ⟨n % 18, hj, rfl⟩)
  · have e : n = 18 * 25 + n % 18 := by omega
    rw [e]; exact Me.rows mC25 _ (List.mem_map.2 ⟨n % 18, hj, rfl⟩)
end Ev.Tp
end
