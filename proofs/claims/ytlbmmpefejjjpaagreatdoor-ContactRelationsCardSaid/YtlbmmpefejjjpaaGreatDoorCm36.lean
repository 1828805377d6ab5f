/- The law of Relation, as the program runs it. -/
import Derived.Test.YtlbmmpefejjjpaaGreatDoorGCk36

set_option linter.unusedSimpArgs false
set_option linter.unusedVariables false
section
namespace Ev.Rl
open Go Ev Ev.Or Ev.Nm
set_option maxRecDepth 100000
set_option maxHeartbeats 4000000

theorem law_run {C : CallF} {LF : Nat} {rows : T ARow} (hC4 : ∀ rows nx, C (.f 4) [] rows nx = some ⟨.bool true, rows, nx⟩) (hC5 : ∀ k e u l rows nx, C (.f 5) [.agg [.int .i64 k, .int .i64 e, .str u, .str l]] rows nx = some ⟨relV k u l, rows, nx⟩)
    (hC6 : ∀ k u l rows nx, C (.f 6) [.agg [.int .i64 k, .str u, .str l]] rows nx = some ⟨.int .i64 (chkV k u l), rows, nx⟩) (k e : Int) (u l : List UInt8) :
    ∃ s', (runIC C LF I.I3.body ⟨argsT [.agg [.int .i64 k, .int .i64 e, .str u, .str l]] 0 .nil, rows, 2⟩ = some ⟨.ret, s'⟩ ∨ runIC C LF I.I3.body ⟨argsT [.agg [.int .i64 k, .int .i64 e, .str u, .str l]] 0 .nil, rows, 2⟩ = some ⟨.normal, s'⟩) ∧ s'.tm.get 2 = some (.bool true) := by
  have h0 : (argsT [.agg [.int .i64 k, .int .i64 e, .str u, .str l]] 0 .nil).get 0 = some (.agg [.int .i64 k, .int .i64 e, .str u, .str l]) := rfl
  generalize argsT [.agg [.int .i64 k, .int .i64 e, .str u, .str l]] 0 .nil = tm at h0
  have i0 : inR .i64 (.ofNat 0) = true := rfl
  have i1 : inR .i64 (.ofNat 1) = true := rfl
  have i3 : inR .i64 (.ofNat 3) = true := rfl
  have i4 : inR .i64 (.ofNat 4) = true := rfl
  have l0 : ([] : List UInt8).length ≤ 1000000 := Nat.zero_le _
  by_cases g1 : Int.ofNat 40 < Int.ofNat u.length
  · have g1 := decide_eq_true g1
    simp only [I.I3]
    simp only [x_ops_nil, x_ops, x_g, s_g, x_nil, x_cons, x_c, s_ev, x_bo, x_gd, x_mv, s_box, s_store2, s_put2, s_asCells, s_load, s_idx, s_ext, s_build2, s_lookup, s_update, s_lenM, y_lss, y_gtr, y_eql, y_neq, y_leq, y_eqS, y_lenStr, y_toBytes, y_idxSl, y_fieldAddr, y_call, x_lenS, x_not, x_pick, s_rd1, s_rd2, s_mp1, s_mp2, s_want, y_wantU, s_b1, s_b2, s_cond, s_stA, s_stI, s_ceA, z_stS, z_loadM, z_take3, z_take4, z_store3, z_put3, z_storeI, z_put1, z_build0, z_build12, z_build012, x_iops, x_iseq, s_icond, x_iblock, x_iexit, x_iret, x_iskip, T.get_set, Option.getD_some, reduceIte, Nat.reduceEqDiff, eq_self, if_true, if_false, List.getElem?_cons_zero, List.getElem?_cons_succ, Option.getD_none, Option.isSome_some, Option.isSome_none, beq_self_eq_true, Nat.reduceLT, Nat.reduceMul, Nat.reduceAdd, Nat.zero_add, Nat.one_mul, Nat.zero_mul, Bool.false_eq_true, Bool.not_false, Bool.not_true, decide_true, decide_false, d_draw, d_nil, d_cons, d_p, d_l, d_a, d_c, d_lg, d_ac0, d_ac1, z_build5, z_idxArr, Int.ofNat.injEq, h0, hC4, g1]
    exact ⟨_, .inl rfl, by simp only [T.get_set, Nat.reduceEqDiff, if_true, if_false, reduceIte]⟩
  have lu : u.length ≤ 1000000 := by simp only [Int.ofNat_eq_natCast] at g1; omega
  have g1 := decide_eq_false g1
  by_cases g2 : Int.ofNat 40 < Int.ofNat l.length
  · have g2 := decide_eq_true g2
    simp only [I.I3]
    simp only [x_ops_nil, x_ops, x_g, s_g, x_nil, x_cons, x_c, s_ev, x_bo, x_gd, x_mv, s_box, s_store2, s_put2, s_asCells, s_load, s_idx, s_ext, s_build2, s_lookup, s_update, s_lenM, y_lss, y_gtr, y_eql, y_neq, y_leq, y_eqS, y_lenStr, y_toBytes, y_idxSl, y_fieldAddr, y_call, x_lenS, x_not, x_pick, s_rd1, s_rd2, s_mp1, s_mp2, s_want, y_wantU, s_b1, s_b2, s_cond, s_stA, s_stI, s_ceA, z_stS, z_loadM, z_take3, z_take4, z_store3, z_put3, z_storeI, z_put1, z_build0, z_build12, z_build012, x_iops, x_iseq, s_icond, x_iblock, x_iexit, x_iret, x_iskip, T.get_set, Option.getD_some, reduceIte, Nat.reduceEqDiff, eq_self, if_true, if_false, List.getElem?_cons_zero, List.getElem?_cons_succ, Option.getD_none, Option.isSome_some, Option.isSome_none, beq_self_eq_true, Nat.reduceLT, Nat.reduceMul, Nat.reduceAdd, Nat.zero_add, Nat.one_mul, Nat.zero_mul, Bool.false_eq_true, Bool.not_false, Bool.not_true, decide_true, decide_false, d_draw, d_nil, d_cons, d_p, d_l, d_a, d_c, d_lg, d_ac0, d_ac1, z_build5, z_idxArr, Int.ofNat.injEq, h0, hC4, g1, g2]
    exact ⟨_, .inl rfl, by simp only [T.get_set, Nat.reduceEqDiff, if_true, if_false, reduceIte]⟩
  have ll : l.length ≤ 1000000 := by simp only [Int.ofNat_eq_natCast] at g2; omega
  have g2 := decide_eq_false g2
  have go : ∀ m : Int, (decide (chkV m u l = .ofNat 0) = true ∨ decide (chkV m u l = .ofNat 0) = false) := fun m => by cases decide (chkV m u l = .ofNat 0) <;> simp
  by_cases k1 : k = .ofNat 1
  · subst k1
    have q1 : decide (Int.ofNat 1 < Int.ofNat 1) = false := rfl
    have q2 : decide (Int.ofNat 5 < Int.ofNat 1) = false := rfl
    have q3 : relV (.ofNat 1) u l = relK (.ofNat 1) u l := rfl
    rcases go (.ofNat 1) with h6 | h6
    · have q4 : relK (.ofNat 1) u l = .tup [.agg [.int .i64 (.ofNat 1), .str u, .str l], .bool true, .int .i64 (.ofNat 0)] := by unfold relK; rw [h6]; rfl
      simp only [I.I3]
      simp only [x_ops_nil, x_ops, x_g, s_g, x_nil, x_cons, x_c, s_ev, x_bo, x_gd, x_mv, s_box, s_store2, s_put2, s_asCells, s_load, s_idx, s_ext, s_build2, s_lookup, s_update, s_lenM, y_lss, y_gtr, y_eql, y_neq, y_leq, y_eqS, y_lenStr, y_toBytes, y_idxSl, y_fieldAddr, y_call, x_lenS, x_not, x_pick, s_rd1, s_rd2, s_mp1, s_mp2, s_want, y_wantU, s_b1, s_b2, s_cond, s_stA, s_stI, s_ceA, z_stS, z_loadM, z_take3, z_take4, z_store3, z_put3, z_storeI, z_put1, z_build0, z_build12, z_build012, x_iops, x_iseq, s_icond, x_iblock, x_iexit, x_iret, x_iskip, T.get_set, Option.getD_some, reduceIte, Nat.reduceEqDiff, eq_self, if_true, if_false, List.getElem?_cons_zero, List.getElem?_cons_succ, Option.getD_none, Option.isSome_some, Option.isSome_none, beq_self_eq_true, Nat.reduceLT, Nat.reduceMul, Nat.reduceAdd, Nat.zero_add, Nat.one_mul, Nat.zero_mul, Bool.false_eq_true, Bool.not_false, Bool.not_true, decide_true, decide_false, d_draw, d_nil, d_cons, d_p, d_l, d_a, d_c, d_lg, d_ac0, d_ac1, z_build5, z_idxArr, Int.ofNat.injEq, h0, hC4, hC5, hC6, g1, g2, q1, q2, q3, q4, h6, z_binA3, i0, i1, i3, i4, l0, lu, ll, and_self, and_true, true_and]
      exact ⟨_, .inl rfl, by simp only [T.get_set, Nat.reduceEqDiff, if_true, if_false, reduceIte]⟩
    · have q4 : relK (.ofNat 1) u l = .tup [.agg [.int .i64 (.ofNat 0), .str [], .str []], .bool false, .int .i64 (chkV (.ofNat 1) u l)] := by unfold relK zr; rw [h6]; rfl
      simp only [I.I3]
      simp only [x_ops_nil, x_ops, x_g, s_g, x_nil, x_cons, x_c, s_ev, x_bo, x_gd, x_mv, s_box, s_store2, s_put2, s_asCells, s_load, s_idx, s_ext, s_build2, s_lookup, s_update, s_lenM, y_lss, y_gtr, y_eql, y_neq, y_leq, y_eqS, y_lenStr, y_toBytes, y_idxSl, y_fieldAddr, y_call, x_lenS, x_not, x_pick, s_rd1, s_rd2, s_mp1, s_mp2, s_want, y_wantU, s_b1, s_b2, s_cond, s_stA, s_stI, s_ceA, z_stS, z_loadM, z_take3, z_take4, z_store3, z_put3, z_storeI, z_put1, z_build0, z_build12, z_build012, x_iops, x_iseq, s_icond, x_iblock, x_iexit, x_iret, x_iskip, T.get_set, Option.getD_some, reduceIte, Nat.reduceEqDiff, eq_self, if_true, if_false, List.getElem?_cons_zero, List.getElem?_cons_succ, Option.getD_none, Option.isSome_some, Option.isSome_none, beq_self_eq_true, Nat.reduceLT, Nat.reduceMul, Nat.reduceAdd, Nat.zero_add, Nat.one_mul, Nat.zero_mul, Bool.false_eq_true, Bool.not_false, Bool.not_true, decide_true, decide_false, d_draw, d_nil, d_cons, d_p, d_l, d_a, d_c, d_lg, d_ac0, d_ac1, z_build5, z_idxArr, Int.ofNat.injEq, h0, hC4, hC5, hC6, g1, g2, q1, q2, q3, q4, h6, z_binA3, i0, i1, i3, i4, l0, lu, ll, and_self, and_true, true_and]
      exact ⟨_, .inl rfl, by simp only [T.get_set, Nat.reduceEqDiff, if_true, if_false, reduceIte]⟩
  by_cases k2 : k = .ofNat 2
  · subst k2
    have q1 : decide (Int.ofNat 2 < Int.ofNat 1) = false := rfl
    have q2 : decide (Int.ofNat 5 < Int.ofNat 2) = false := rfl
    have q3 : relV (.ofNat 2) u l = relK (.ofNat 1) u l := rfl
    rcases go (.ofNat 1) with h6 | h6
    · have q4 : relK (.ofNat 1) u l = .tup [.agg [.int .i64 (.ofNat 1), .str u, .str l], .bool true, .int .i64 (.ofNat 0)] := by unfold relK; rw [h6]; rfl
      simp only [I.I3]
      simp only [x_ops_nil, x_ops, x_g, s_g, x_nil, x_cons, x_c, s_ev, x_bo, x_gd, x_mv, s_box, s_store2, s_put2, s_asCells, s_load, s_idx, s_ext, s_build2, s_lookup, s_update, s_lenM, y_lss, y_gtr, y_eql, y_neq, y_leq, y_eqS, y_lenStr, y_toBytes, y_idxSl, y_fieldAddr, y_call, x_lenS, x_not, x_pick, s_rd1, s_rd2, s_mp1, s_mp2, s_want, y_wantU, s_b1, s_b2, s_cond, s_stA, s_stI, s_ceA, z_stS, z_loadM, z_take3, z_take4, z_store3, z_put3, z_storeI, z_put1, z_build0, z_build12, z_build012, x_iops, x_iseq, s_icond, x_iblock, x_iexit, x_iret, x_iskip, T.get_set, Option.getD_some, reduceIte, Nat.reduceEqDiff, eq_self, if_true, if_false, List.getElem?_cons_zero, List.getElem?_cons_succ, Option.getD_none, Option.isSome_some, Option.isSome_none, beq_self_eq_true, Nat.reduceLT, Nat.reduceMul, Nat.reduceAdd, Nat.zero_add, Nat.one_mul, Nat.zero_mul, Bool.false_eq_true, Bool.not_false, Bool.not_true, decide_true, decide_false, d_draw, d_nil, d_cons, d_p, d_l, d_a, d_c, d_lg, d_ac0, d_ac1, z_build5, z_idxArr, Int.ofNat.injEq, h0, hC4, hC5, hC6, g1, g2, q1, q2, q3, q4, h6, z_binA3, i0, i1, i3, i4, l0, lu, ll, and_self, and_true, true_and]
      exact ⟨_, .inl rfl, by simp only [T.get_set, Nat.reduceEqDiff, if_true, if_false, reduceIte]⟩
    · have q4 : relK (.ofNat 1) u l = .tup [.agg [.int .i64 (.ofNat 0), .str [], .str []], .bool false, .int .i64 (chkV (.ofNat 1) u l)] := by unfold relK zr; rw [h6]; rfl
      simp only [I.I3]
      simp only [x_ops_nil, x_ops, x_g, s_g, x_nil, x_cons, x_c, s_ev, x_bo, x_gd, x_mv, s_box, s_store2, s_put2, s_asCells, s_load, s_idx, s_ext, s_build2, s_lookup, s_update, s_lenM, y_lss, y_gtr, y_eql, y_neq, y_leq, y_eqS, y_lenStr, y_toBytes, y_idxSl, y_fieldAddr, y_call, x_lenS, x_not, x_pick, s_rd1, s_rd2, s_mp1, s_mp2, s_want, y_wantU, s_b1, s_b2, s_cond, s_stA, s_stI, s_ceA, z_stS, z_loadM, z_take3, z_take4, z_store3, z_put3, z_storeI, z_put1, z_build0, z_build12, z_build012, x_iops, x_iseq, s_icond, x_iblock, x_iexit, x_iret, x_iskip, T.get_set, Option.getD_some, reduceIte, Nat.reduceEqDiff, eq_self, if_true, if_false, List.getElem?_cons_zero, List.getElem?_cons_succ, Option.getD_none, Option.isSome_some, Option.isSome_none, beq_self_eq_true, Nat.reduceLT, Nat.reduceMul, Nat.reduceAdd, Nat.zero_add, Nat.one_mul, Nat.zero_mul, Bool.false_eq_true, Bool.not_false, Bool.not_true, decide_true, decide_false, d_draw, d_nil, d_cons, d_p, d_l, d_a, d_c, d_lg, d_ac0, d_ac1, z_build5, z_idxArr, Int.ofNat.injEq, h0, hC4, hC5, hC6, g1, g2, q1, q2, q3, q4, h6, z_binA3, i0, i1, i3, i4, l0, lu, ll, and_self, and_true, true_and]
      exact ⟨_, .inl rfl, by simp only [T.get_set, Nat.reduceEqDiff, if_true, if_false, reduceIte]⟩
  by_cases k3 : k = .ofNat 3
  · subst k3
    have q1 : decide (Int.ofNat 3 < Int.ofNat 1) = false := rfl
    have q2 : decide (Int.ofNat 5 < Int.ofNat 3) = false := rfl
    have q3 : relV (.ofNat 3) u l = relK (.ofNat 4) u l := rfl
    rcases go (.ofNat 4) with h6 | h6
    · have q4 : relK (.ofNat 4) u l = .tup [.agg [.int .i64 (.ofNat 4), .str u, .str l], .bool true, .int .i64 (.ofNat 0)] := by unfold relK; rw [h6]; rfl
      simp only [I.I3]
      simp only [x_ops_nil, x_ops, x_g, s_g, x_nil, x_cons, x_c, s_ev, x_bo, x_gd, x_mv, s_box, s_store2, s_put2, s_asCells, s_load, s_idx, s_ext, s_build2, s_lookup, s_update, s_lenM, y_lss, y_gtr, y_eql, y_neq, y_leq, y_eqS, y_lenStr, y_toBytes, y_idxSl, y_fieldAddr, y_call, x_lenS, x_not, x_pick, s_rd1, s_rd2, s_mp1, s_mp2, s_want, y_wantU, s_b1, s_b2, s_cond, s_stA, s_stI, s_ceA, z_stS, z_loadM, z_take3, z_take4, z_store3, z_put3, z_storeI, z_put1, z_build0, z_build12, z_build012, x_iops, x_iseq, s_icond, x_iblock, x_iexit, x_iret, x_iskip, T.get_set, Option.getD_some, reduceIte, Nat.reduceEqDiff, eq_self, if_true, if_false, List.getElem?_cons_zero, List.getElem?_cons_succ, Option.getD_none, Option.isSome_some, Option.isSome_none, beq_self_eq_true, Nat.reduceLT, Nat.reduceMul, Nat.reduceAdd, Nat.zero_add, Nat.one_mul, Nat.zero_mul, Bool.false_eq_true, Bool.not_false, Bool.not_true, decide_true, decide_false, d_draw, d_nil, d_cons, d_p, d_l, d_a, d_c, d_lg, d_ac0, d_ac1, z_build5, z_idxArr, Int.ofNat.injEq, h0, hC4, hC5, hC6, g1, g2, q1, q2, q3, q4, h6, z_binA3, i0, i1, i3, i4, l0, lu, ll, and_self, and_true, true_and]
      exact ⟨_, .inl rfl, by simp only [T.get_set, Nat.reduceEqDiff, if_true, if_false, reduceIte]⟩
    · have q4 : relK (.ofNat 4) u l = .tup [.agg [.int .i64 (.ofNat 0), .str [], .str []], .bool false, .int .i64 (chkV (.ofNat 4) u l)] := by unfold relK zr; rw [h6]; rfl
      simp only [I.I3]
      simp only [x_ops_nil, x_ops, x_g, s_g, x_nil, x_cons, x_c, s_ev, x_bo, x_gd, x_mv, s_box, s_store2, s_put2, s_asCells, s_load, s_idx, s_ext, s_build2, s_lookup, s_update, s_lenM, y_lss, y_gtr, y_eql, y_neq, y_leq, y_eqS, y_lenStr, y_toBytes, y_idxSl, y_fieldAddr, y_call, x_lenS, x_not, x_pick, s_rd1, s_rd2, s_mp1, s_mp2, s_want, y_wantU, s_b1, s_b2, s_cond, s_stA, s_stI, s_ceA, z_stS, z_loadM, z_take3, z_take4, z_store3, z_put3, z_storeI, z_put1, z_build0, z_build12, z_build012, x_iops, x_iseq, s_icond, x_iblock, x_iexit, x_iret, x_iskip, T.get_set, Option.getD_some, reduceIte, Nat.reduceEqDiff, eq_self, if_true, if_false, List.getElem?_cons_zero, List.getElem?_cons_succ, Option.getD_none, Option.isSome_some, Option.isSome_none, beq_self_eq_true, Nat.reduceLT, Nat.reduceMul, Nat.reduceAdd, Nat.zero_add, Nat.one_mul, Nat.zero_mul, Bool.false_eq_true, Bool.not_false, Bool.not_true, decide_true, decide_false, d_draw, d_nil, d_cons, d_p, d_l, d_a, d_c, d_lg, d_ac0, d_ac1, z_build5, z_idxArr, Int.ofNat.injEq, h0, hC4, hC5, hC6, g1, g2, q1, q2, q3, q4, h6, z_binA3, i0, i1, i3, i4, l0, lu, ll, and_self, and_true, true_and]
      exact ⟨_, .inl rfl, by simp only [T.get_set, Nat.reduceEqDiff, if_true, if_false, reduceIte]⟩
  by_cases k4 : k = .ofNat 4
  · subst k4
    have q1 : decide (Int.ofNat 4 < Int.ofNat 1) = false := rfl
    have q2 : decide (Int.ofNat 5 < Int.ofNat 4) = false := rfl
    have q3 : relV (.ofNat 4) u l = relK (.ofNat 3) u l := rfl
    rcases go (.ofNat 3) with h6 | h6
    · have q4 : relK (.ofNat 3) u l = .tup [.agg [.int .i64 (.ofNat 3), .str u, .str l], .bool true, .int .i64 (.ofNat 0)] := by unfold relK; rw [h6]; rfl
      simp only [I.I3]
      simp only [x_ops_nil, x_ops, x_g, s_g, x_nil, x_cons, x_c, s_ev, x_bo, x_gd, x_mv, s_box, s_store2, s_put2, s_asCells, s_load, s_idx, s_ext, s_build2, s_lookup, s_update, s_lenM, y_lss, y_gtr, y_eql, y_neq, y_leq, y_eqS, y_lenStr, y_toBytes, y_idxSl, y_fieldAddr, y_call, x_lenS, x_not, x_pick, s_rd1, s_rd2, s_mp1, s_mp2, s_want, y_wantU, s_b1, s_b2, s_cond, s_stA, s_stI, s_ceA, z_stS, z_loadM, z_take3, z_take4, z_store3, z_put3, z_storeI, z_put1, z_build0, z_build12, z_build012, x_iops, x_iseq, s_icond, x_iblock, x_iexit, x_iret, x_iskip, T.get_set, Option.getD_some, reduceIte, Nat.reduceEqDiff, eq_self, if_true, if_false, List.getElem?_cons_zero, List.getElem?_cons_succ, Option.getD_none, Option.isSome_some, Option.isSome_none, beq_self_eq_true, Nat.reduceLT, Nat.reduceMul, Nat.reduceAdd, Nat.zero_add, Nat.one_mul, Nat.zero_mul, Bool.false_eq_true, Bool.not_false, Bool.not_true, decide_true, decide_false, d_draw, d_nil, d_cons, d_p, d_l, d_a, d_c, d_lg, d_ac0, d_ac1, z_build5, z_idxArr, Int.ofNat.injEq, h0, hC4, hC5, hC6, g1, g2, q1, q2, q3, q4, h6, z_binA3, i0, i1, i3, i4, l0, lu, ll, and_self, and_true, true_and]
      exact ⟨_, .inl rfl, by simp only [T.get_set, Nat.reduceEqDiff, if_true, if_false, reduceIte]⟩
    · have q4 : relK (.ofNat 3) u l = .tup [.agg [.int .i64 (.ofNat 0), .str [], .str []], .bool false, .int .i64 (chkV (.ofNat 3) u l)] := by unfold relK zr; rw [h6]; rfl
      simp only [I.I3]
      simp only [x_ops_nil, x_ops, x_g, s_g, x_nil, x_cons, x_c, s_ev, x_bo, x_gd, x_mv, s_box, s_store2, s_put2, s_asCells, s_load, s_idx, s_ext, s_build2, s_lookup, s_update, s_lenM, y_lss, y_gtr, y_eql, y_neq, y_leq, y_eqS, y_lenStr, y_toBytes, y_idxSl, y_fieldAddr, y_call, x_lenS, x_not, x_pick, s_rd1, s_rd2, s_mp1, s_mp2, s_want, y_wantU, s_b1, s_b2, s_cond, s_stA, s_stI, s_ceA, z_stS, z_loadM, z_take3, z_take4, z_store3, z_put3, z_storeI, z_put1, z_build0, z_build12, z_build012, x_iops, x_iseq, s_icond, x_iblock, x_iexit, x_iret, x_iskip, T.get_set, Option.getD_some, reduceIte, Nat.reduceEqDiff, eq_self, if_true, if_false, List.getElem?_cons_zero, List.getElem?_cons_succ, Option.getD_none, Option.isSome_some, Option.isSome_none, beq_self_eq_true, Nat.reduceLT, Nat.reduceMul, Nat.reduceAdd, Nat.zero_add, Nat.one_mul, Nat.zero_mul, Bool.false_eq_true, Bool.not_false, Bool.not_true, decide_true, decide_false, d_draw, d_nil, d_cons, d_p, d_l, d_a, d_c, d_lg, d_ac0, d_ac1, z_build5, z_idxArr, Int.ofNat.injEq, h0, hC4, hC5, hC6, g1, g2, q1, q2, q3, q4, h6, z_binA3, i0, i1, i3, i4, l0, lu, ll, and_self, and_true, true_and]
      exact ⟨_, .inl rfl, by simp only [T.get_set, Nat.reduceEqDiff, if_true, if_false, reduceIte]⟩
  by_cases k5 : k = .ofNat 5
  · subst k5
    have q1 : decide (Int.ofNat 5 < Int.ofNat 1) = false := rfl
    have q2 : decide (Int.ofNat 5 < Int.ofNat 5) = false := rfl
    have q3 : relV (.ofNat 5) u l = .tup [.agg [.int .i64 (.ofNat 0), .str [], .str []], .bool false, .int .i64 (.ofNat 0)] := rfl
    simp only [I.I3]
    simp only [x_ops_nil, x_ops, x_g, s_g, x_nil, x_cons, x_c, s_ev, x_bo, x_gd, x_mv, s_box, s_store2, s_put2, s_asCells, s_load, s_idx, s_ext, s_build2, s_lookup, s_update, s_lenM, y_lss, y_gtr, y_eql, y_neq, y_leq, y_eqS, y_lenStr, y_toBytes, y_idxSl, y_fieldAddr, y_call, x_lenS, x_not, x_pick, s_rd1, s_rd2, s_mp1, s_mp2, s_want, y_wantU, s_b1, s_b2, s_cond, s_stA, s_stI, s_ceA, z_stS, z_loadM, z_take3, z_take4, z_store3, z_put3, z_storeI, z_put1, z_build0, z_build12, z_build012, x_iops, x_iseq, s_icond, x_iblock, x_iexit, x_iret, x_iskip, T.get_set, Option.getD_some, reduceIte, Nat.reduceEqDiff, eq_self, if_true, if_false, List.getElem?_cons_zero, List.getElem?_cons_succ, Option.getD_none, Option.isSome_some, Option.isSome_none, beq_self_eq_true, Nat.reduceLT, Nat.reduceMul, Nat.reduceAdd, Nat.zero_add, Nat.one_mul, Nat.zero_mul, Bool.false_eq_true, Bool.not_false, Bool.not_true, decide_true, decide_false, d_draw, d_nil, d_cons, d_p, d_l, d_a, d_c, d_lg, d_ac0, d_ac1, z_build5, z_idxArr, Int.ofNat.injEq, h0, hC4, hC5, hC6, g1, g2, q1, q2, q3, z_binA3, i0, i1, i3, i4, l0, lu, ll, and_self, and_true, true_and]
    exact ⟨_, .inl rfl, by simp only [T.get_set, Nat.reduceEqDiff, if_true, if_false, reduceIte]⟩
  have q3 : relV k u l = .tup [.agg [.int .i64 (.ofNat 0), .str [], .str []], .bool false, .int .i64 (.ofNat 12)] := by
    unfold relV zr
    rw [decide_eq_false k1, decide_eq_false k2, decide_eq_false k3, decide_eq_false k4, decide_eq_false k5]; rfl
  by_cases q1 : k < .ofNat 1
  · have q1 := decide_eq_true q1
    simp only [I.I3]
    simp only [x_ops_nil, x_ops, x_g, s_g, x_nil, x_cons, x_c, s_ev, x_bo, x_gd, x_mv, s_box, s_store2, s_put2, s_asCells, s_load, s_idx, s_ext, s_build2, s_lookup, s_update, s_lenM, y_lss, y_gtr, y_eql, y_neq, y_leq, y_eqS, y_lenStr, y_toBytes, y_idxSl, y_fieldAddr, y_call, x_lenS, x_not, x_pick, s_rd1, s_rd2, s_mp1, s_mp2, s_want, y_wantU, s_b1, s_b2, s_cond, s_stA, s_stI, s_ceA, z_stS, z_loadM, z_take3, z_take4, z_store3, z_put3, z_storeI, z_put1, z_build0, z_build12, z_build012, x_iops, x_iseq, s_icond, x_iblock, x_iexit, x_iret, x_iskip, T.get_set, Option.getD_some, reduceIte, Nat.reduceEqDiff, eq_self, if_true, if_false, List.getElem?_cons_zero, List.getElem?_cons_succ, Option.getD_none, Option.isSome_some, Option.isSome_none, beq_self_eq_true, Nat.reduceLT, Nat.reduceMul, Nat.reduceAdd, Nat.zero_add, Nat.one_mul, Nat.zero_mul, Bool.false_eq_true, Bool.not_false, Bool.not_true, decide_true, decide_false, d_draw, d_nil, d_cons, d_p, d_l, d_a, d_c, d_lg, d_ac0, d_ac1, z_build5, z_idxArr, Int.ofNat.injEq, h0, hC4, hC5, hC6, g1, g2, q1, q3, z_binA3, i0, i1, i3, i4, l0, lu, ll, and_self, and_true, true_and]
    exact ⟨_, .inl rfl, by simp only [T.get_set, Nat.reduceEqDiff, if_true, if_false, reduceIte]⟩
  have q2 : Int.ofNat 5 < k := by simp only [Int.ofNat_eq_natCast] at *; omega
  have q1 := decide_eq_false q1
  have q2 := decide_eq_true q2
  simp only [I.I3]
  simp only [x_ops_nil, x_ops, x_g, s_g, x_nil, x_cons, x_c, s_ev, x_bo, x_gd, x_mv, s_box, s_store2, s_put2, s_asCells, s_load, s_idx, s_ext, s_build2, s_lookup, s_update, s_lenM, y_lss, y_gtr, y_eql, y_neq, y_leq, y_eqS, y_lenStr, y_toBytes, y_idxSl, y_fieldAddr, y_call, x_lenS, x_not, x_pick, s_rd1, s_rd2, s_mp1, s_mp2, s_want, y_wantU, s_b1, s_b2, s_cond, s_stA, s_stI, s_ceA, z_stS, z_loadM, z_take3, z_take4, z_store3, z_put3, z_storeI, z_put1, z_build0, z_build12, z_build012, x_iops, x_iseq, s_icond, x_iblock, x_iexit, x_iret, x_iskip, T.get_set, Option.getD_some, reduceIte, Nat.reduceEqDiff, eq_self, if_true, if_false, List.getElem?_cons_zero, List.getElem?_cons_succ, Option.getD_none, Option.isSome_some, Option.isSome_none, beq_self_eq_true, Nat.reduceLT, Nat.reduceMul, Nat.reduceAdd, Nat.zero_add, Nat.one_mul, Nat.zero_mul, Bool.false_eq_true, Bool.not_false, Bool.not_true, decide_true, decide_false, d_draw, d_nil, d_cons, d_p, d_l, d_a, d_c, d_lg, d_ac0, d_ac1, z_build5, z_idxArr, Int.ofNat.injEq, h0, hC4, hC5, hC6, g1, g2, q1, q2, q3, z_binA3, i0, i1, i3, i4, l0, lu, ll, and_self, and_true, true_and]
  exact ⟨_, .inl rfl, by simp only [T.get_set, Nat.reduceEqDiff, if_true, if_false, reduceIte]⟩

noncomputable def lawL : List (Nat × Orc) := [(4, memo [([], .bool true)]), (5, oFun relG), (6, oFun chkG)]
theorem known_row : RowG P36 1 pow 4 ([], .bool true) := by
  intro ι us w hw hu
  cases hu
  have h1 : P36.funcs[4]? = some (fn 4) := by kernel_rfl
  have h2 : (fn 4).body.isSome = true := by kernel_rfl
  have h3 : (fn 4).name ≠ "runtime.NumGoroutine" := by
    intro h
    have : ((fn 4).name == "runtime.NumGoroutine") = false := by kernel_rfl
    simp [h] at this
  refine ⟨callFunc_enter h1 h2 h3 w, Calls.mono (Kn.known w hw) fun e w' h => ?_⟩
  exact ⟨_, h.1, .bool true, h.2⟩
theorem lawL_ok (B : Base) (hK : KG 1 pow B) : ∀ f o, orcL lawL f = some o → OrcOK B P36 f o := orcL_ok (fun e he => by
  simp only [lawL, List.mem_cons, List.not_mem_nil, or_false] at he
  rcases he with rfl | rfl | rfl
  · exact memo_okG hK (fun e he => by
      simp only [List.mem_singleton] at he
      subst he; exact known_row)
  · exact fun_okG hK rel_row
  · exact fun_okG hK check_row)
/-- The law returns true at every contact. -/
theorem law_row (k e : Int) (u l : List UInt8) : RowG P36 1 pow 3 ([.agg [.int .i64 k, .int .i64 e, .str u, .str l]], .bool true) := by
  obtain ⟨s', h1, h2⟩ := law_run (C := evCall (orcL lawL) fns36 100000 1) (LF := 100000) (rows := g0 1 pow) (fun rows nx => rfl) (fun k e u l rows nx => rfl) (fun k u l rows nx => rfl) k e u l
  exact fn_row (orc := orcL lawL) (fns := fns36) (LF := 100000) (fuel := 1) mixed Td.tied lawL_ok (ir := I.I3) rfl rfl rfl (ev_of rfl rfl h1 h2)
#print axioms law_row
end Ev.Rl
end
