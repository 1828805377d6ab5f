/- A name, as the program sees it. -/
import Derived.Test.YtkakkacpddiogaaGreatDoorGIR43
import Derived.Test.YtkakkacpddiogaaGreatDoorGEwY

set_option linter.unusedSimpArgs false
set_option linter.unusedVariables false
section
namespace Ev.Nm
open Go Ev

def IC.lft : IC → IC | .seq a _ => a | c => c
def IC.rgt : IC → IC | .seq _ b => b | c => c
def IC.bod : IC → IC | .block _ b => b | .loop b => b | c => c
def opsOf : IC → List GOp | .ops l => l | _ => []

/-- The body of the loop. -/
def lp : IC := IC.bod (IC.bod (IC.rgt (IC.lft (IC.rgt (IC.rgt I.I54.body)))))
def b1 : IC := IC.bod (IC.lft (IC.rgt (IC.rgt lp)))
def r5 : List GOp := opsOf (IC.lft b1)
def r6 : List GOp := opsOf (IC.lft (IC.rgt b1))
def r7 : List GOp := opsOf (IC.lft (IC.rgt (IC.rgt b1)))
def r8 : List GOp := opsOf (IC.lft (IC.rgt (IC.rgt (IC.rgt b1))))

theorem run6 {C : CallF} {s : St} {c : Int} (h4 : s.tm.get 4 = some (.int .u8 c)) :
    ∃ s', evOps C r6 s = some s' ∧ s'.rows = s.rows ∧ s'.nx = s.nx ∧ s'.tm.get 5 = some (.bool ((decide ((97 : Int) ≤ c) && decide (c ≤ 122)) || (decide ((65 : Int) ≤ c) && decide (c ≤ 90)))) ∧ ∀ t, t = 2 ∨ t = 3 ∨ t = 4 ∨ t = 15 ∨ t = 16 ∨ t = 17 → s'.tm.get t = s.tm.get t := by
  obtain ⟨tm, rows, nx⟩ := s
  simp only at h4
  unfold r6 b1 lp
  simp only [I.I54, IC.rgt, IC.lft, IC.bod, opsOf]
  have q1 : decide (Int.ofNat 97 ≤ c) = decide ((97 : Int) ≤ c) := rfl
  have q2 : decide (c ≤ Int.ofNat 122) = decide (c ≤ (122 : Int)) := rfl
  have q3 : decide (Int.ofNat 65 ≤ c) = decide ((65 : Int) ≤ c) := rfl
  have q4 : decide (c ≤ Int.ofNat 90) = decide (c ≤ (90 : Int)) := rfl
  rw [← q1, ← q2, ← q3, ← q4]
  cases a1 : decide (Int.ofNat 97 ≤ c) <;> cases a2 : decide (c ≤ Int.ofNat 122) <;> cases a3 : decide (Int.ofNat 65 ≤ c) <;> cases a4 : decide (c ≤ Int.ofNat 90) <;>
  · simp only [x_ops_nil, x_ops, x_g, s_g, x_nil, x_cons, x_c, s_ev, x_bo, x_gd, x_mv, s_box, s_store2, s_put2, s_asCells, s_load, s_idx, s_ext, s_build2, s_lookup, s_update, s_lenM, y_lss, y_gtr, y_eql, y_neq, y_leq, y_eqS, y_lenStr, y_toBytes, y_idxSl, y_fieldAddr, x_lenS, x_not, x_pick, s_rd1, s_rd2, s_mp1, s_mp2, s_want, y_wantU, s_b1, s_b2, s_cond, s_stA, s_stI, s_ceA, x_iops, x_iseq, s_icond, x_iblock, x_iexit, x_iret, x_iskip, T.get_set, Option.getD_some, reduceIte, Nat.reduceEqDiff, eq_self, if_true, if_false, List.getElem?_cons_zero, List.getElem?_cons_succ, Option.getD_none, Option.isSome_some, Option.isSome_none, beq_self_eq_true, Nat.reduceLT, Nat.reduceMul, Nat.reduceAdd, Nat.zero_add, Nat.one_mul, Nat.zero_mul, Bool.false_eq_true, Bool.not_false, Bool.not_true, decide_true, decide_false, h4, a1, a2, a3, a4]
    refine ⟨_, rfl, rfl, rfl, ?_, ?_⟩
    · simp only [T.get_set, Nat.reduceEqDiff, if_true, if_false, reduceIte]; rfl
    · rintro t (rfl | rfl | rfl | rfl | rfl | rfl) <;> simp only [T.get_set, Nat.reduceEqDiff, if_true, if_false, reduceIte]

theorem run7 {C : CallF} {s : St} {c : Int} (h4 : s.tm.get 4 = some (.int .u8 c)) :
    ∃ s', evOps C r7 s = some s' ∧ s'.rows = s.rows ∧ s'.nx = s.nx ∧ s'.tm.get 6 = some (.bool ((decide ((48 : Int) ≤ c) && decide (c ≤ 57)) || decide (c = 95))) ∧ ∀ t, t = 2 ∨ t = 3 ∨ t = 4 ∨ t = 5 ∨ t = 15 ∨ t = 16 ∨ t = 17 → s'.tm.get t = s.tm.get t := by
  obtain ⟨tm, rows, nx⟩ := s
  simp only at h4
  unfold r7 b1 lp
  simp only [I.I54, IC.rgt, IC.lft, IC.bod, opsOf]
  have q1 : decide (Int.ofNat 48 ≤ c) = decide ((48 : Int) ≤ c) := rfl
  have q2 : decide (c ≤ Int.ofNat 57) = decide (c ≤ (57 : Int)) := rfl
  have q3 : decide (c = Int.ofNat 95) = decide (c = (95 : Int)) := rfl
  rw [← q1, ← q2, ← q3]
  cases a1 : decide (Int.ofNat 48 ≤ c) <;> cases a2 : decide (c ≤ Int.ofNat 57) <;> cases a3 : decide (c = Int.ofNat 95) <;>
  · simp only [x_ops_nil, x_ops, x_g, s_g, x_nil, x_cons, x_c, s_ev, x_bo, x_gd, x_mv, s_box, s_store2, s_put2, s_asCells, s_load, s_idx, s_ext, s_build2, s_lookup, s_update, s_lenM, y_lss, y_gtr, y_eql, y_neq, y_leq, y_eqS, y_lenStr, y_toBytes, y_idxSl, y_fieldAddr, x_lenS, x_not, x_pick, s_rd1, s_rd2, s_mp1, s_mp2, s_want, y_wantU, s_b1, s_b2, s_cond, s_stA, s_stI, s_ceA, x_iops, x_iseq, s_icond, x_iblock, x_iexit, x_iret, x_iskip, T.get_set, Option.getD_some, reduceIte, Nat.reduceEqDiff, eq_self, if_true, if_false, List.getElem?_cons_zero, List.getElem?_cons_succ, Option.getD_none, Option.isSome_some, Option.isSome_none, beq_self_eq_true, Nat.reduceLT, Nat.reduceMul, Nat.reduceAdd, Nat.zero_add, Nat.one_mul, Nat.zero_mul, Bool.false_eq_true, Bool.not_false, Bool.not_true, decide_true, decide_false, h4, a1, a2, a3]
    refine ⟨_, rfl, rfl, rfl, ?_, ?_⟩
    · simp only [T.get_set, Nat.reduceEqDiff, if_true, if_false, reduceIte]; rfl
    · rintro t (rfl | rfl | rfl | rfl | rfl | rfl | rfl) <;> simp only [T.get_set, Nat.reduceEqDiff, if_true, if_false, reduceIte]

theorem run8 {C : CallF} {s : St} {i : Nat} {x y : Bool} (h3 : s.tm.get 3 = some (.int .i64 (.ofNat i))) (h5 : s.tm.get 5 = some (.bool x)) (h6 : s.tm.get 6 = some (.bool y)) :
    ∃ s', evOps C r8 s = some s' ∧ s'.rows = s.rows ∧ s'.nx = s.nx ∧ s'.tm.get 55 = some (.bool (!(x || (!decide (i = 0) && y)))) ∧ ∀ t, t = 2 ∨ t = 3 ∨ t = 4 ∨ t = 15 ∨ t = 16 ∨ t = 17 → s'.tm.get t = s.tm.get t := by
  obtain ⟨tm, rows, nx⟩ := s
  simp only at h3 h5 h6
  unfold r8 b1 lp
  simp only [I.I54, IC.rgt, IC.lft, IC.bod, opsOf]
  have q1 : decide (Int.ofNat i = Int.ofNat 0) = decide (i = 0) := by
    by_cases h : i = 0
    · subst h; rfl
    · rw [decide_eq_false h]
      exact decide_eq_false fun e => h (Int.ofNat.inj e)
  rw [← q1]
  cases x <;> cases y <;> cases a1 : decide (Int.ofNat i = Int.ofNat 0) <;>
  · simp only [x_ops_nil, x_ops, x_g, s_g, x_nil, x_cons, x_c, s_ev, x_bo, x_gd, x_mv, s_box, s_store2, s_put2, s_asCells, s_load, s_idx, s_ext, s_build2, s_lookup, s_update, s_lenM, y_lss, y_gtr, y_eql, y_neq, y_leq, y_eqS, y_lenStr, y_toBytes, y_idxSl, y_fieldAddr, x_lenS, x_not, x_pick, s_rd1, s_rd2, s_mp1, s_mp2, s_want, y_wantU, s_b1, s_b2, s_cond, s_stA, s_stI, s_ceA, x_iops, x_iseq, s_icond, x_iblock, x_iexit, x_iret, x_iskip, T.get_set, Option.getD_some, reduceIte, Nat.reduceEqDiff, eq_self, if_true, if_false, List.getElem?_cons_zero, List.getElem?_cons_succ, Option.getD_none, Option.isSome_some, Option.isSome_none, beq_self_eq_true, Nat.reduceLT, Nat.reduceMul, Nat.reduceAdd, Nat.zero_add, Nat.one_mul, Nat.zero_mul, Bool.false_eq_true, Bool.not_false, Bool.not_true, decide_true, decide_false, h3, h5, h6, a1]
    refine ⟨_, rfl, rfl, rfl, ?_, ?_⟩
    · simp only [T.get_set, Nat.reduceEqDiff, if_true, if_false, reduceIte]; rfl
    · rintro t (rfl | rfl | rfl | rfl | rfl | rfl) <;> simp only [T.get_set, Nat.reduceEqDiff, if_true, if_false, reduceIte]
end Ev.Nm
end
