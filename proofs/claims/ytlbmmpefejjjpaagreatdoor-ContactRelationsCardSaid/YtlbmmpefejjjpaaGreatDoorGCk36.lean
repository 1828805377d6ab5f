/- The check of a relation, as the program runs it. -/
import Derived.Test.YtlbmmpefejjjpaaGreatDoorGNo36
import Derived.Test.YtlbmmpefejjjpaaGreatDoorKn36

set_option linter.unusedSimpArgs false
set_option linter.unusedVariables false
section
namespace Ev.Rl
open Go Ev Ev.Or Ev.Nm
set_option maxRecDepth 100000

noncomputable def nameG (a : List AV) : Option AV := match a with | [x] => asStr x fun s => some (.bool (nameV s)) | _ => none
theorem name_row {B : Base} : ∀ args v, nameG args = some v → RowG P36 1 pow 14 (args, v) := by
  intro args v h
  unfold nameG at h
  split at h
  · obtain ⟨s, rfl, h1⟩ := asStr_some.1 h
    simp only [Option.some.injEq] at h1
    subst h1
    exact fn_row (orc := orcA) (fns := fns36) (LF := 100000) (fuel := 10) mixed Td.tied (fun B _ => orcA_ok B) (ir := I.I14) rfl rfl rfl ⟨_, _, call (by omega)⟩
  · cases h

/-- The error of a relation. -/
def chkV (k : Int) (u l : List UInt8) : Int :=
  if decide (k < .ofNat 1) || decide (.ofNat 4 < k) then .ofNat 12 else if !nameV u || !nameV l then .ofNat 8 else if decide (u = l) then .ofNat 14 else .ofNat 0

theorem check_run {C : CallF} {LF : Nat} {rows : T ARow} {nx : Nat} (hC : ∀ s rows nx, C (.f 14) [.str s] rows nx = some ⟨.bool (nameV s), rows, nx⟩) (k : Int) (u l : List UInt8) :
    ∃ s', (runIC C LF I.I6.body ⟨argsT [.agg [.int .i64 k, .str u, .str l]] 0 .nil, rows, nx⟩ = some ⟨.ret, s'⟩ ∨ runIC C LF I.I6.body ⟨argsT [.agg [.int .i64 k, .str u, .str l]] 0 .nil, rows, nx⟩ = some ⟨.normal, s'⟩) ∧ s'.tm.get 2 = some (.int .i64 (chkV k u l)) := by
  have h0 : (argsT [.agg [.int .i64 k, .str u, .str l]] 0 .nil).get 0 = some (.agg [.int .i64 k, .str u, .str l]) := rfl
  generalize argsT [.agg [.int .i64 k, .str u, .str l]] 0 .nil = tm at h0
  unfold chkV
  cases h1 : decide (k < .ofNat 1) <;> cases h2 : decide (.ofNat 4 < k) <;> cases h3 : nameV u <;> cases h4 : nameV l <;> cases h5 : decide (u = l) <;>
  · simp only [I.I6]
    simp only [x_ops_nil, x_ops, x_g, s_g, x_nil, x_cons, x_c, s_ev, x_bo, x_gd, x_mv, s_box, s_store2, s_put2, s_asCells, s_load, s_idx, s_ext, s_build2, s_lookup, s_update, s_lenM, y_lss, y_gtr, y_eql, y_neq, y_leq, y_eqS, y_lenStr, y_toBytes, y_idxSl, y_fieldAddr, y_call, x_lenS, x_not, x_pick, s_rd1, s_rd2, s_mp1, s_mp2, s_want, y_wantU, s_b1, s_b2, s_cond, s_stA, s_stI, s_ceA, z_stS, z_loadM, z_take3, z_take4, z_store3, z_put3, z_storeI, z_put1, z_build0, z_build12, z_build012, x_iops, x_iseq, s_icond, x_iblock, x_iexit, x_iret, x_iskip, T.get_set, Option.getD_some, reduceIte, Nat.reduceEqDiff, eq_self, if_true, if_false, List.getElem?_cons_zero, List.getElem?_cons_succ, Option.getD_none, Option.isSome_some, Option.isSome_none, beq_self_eq_true, Nat.reduceLT, Nat.reduceMul, Nat.reduceAdd, Nat.zero_add, Nat.one_mul, Nat.zero_mul, Bool.false_eq_true, Bool.not_false, Bool.not_true, decide_true, decide_false, h0, hC, h1, h2, h3, h4, h5]
    first
    | exact ⟨_, .inl rfl, by simp only [T.get_set, Nat.reduceEqDiff, if_true, if_false, reduceIte]; rfl⟩
    | exact ⟨_, .inr rfl, by simp only [T.get_set, Nat.reduceEqDiff, if_true, if_false, reduceIte]; rfl⟩
end Ev.Rl
end

/- Relation and its law, as the program runs them. -/
section
namespace Ev.Rl
open Go Ev Ev.Or Ev.Nm
set_option maxRecDepth 100000

theorem ev_of {C : CallF} {LF : Nat} {ir : IFn} {args : List AV} {rows : T ARow} {nx t : Nat} {v : AV} (hn : Nat.ble (lenN args) ir.n = true) (hr : ir.results = [(t, none)]) {s' : St}
    (h : runIC C LF ir.body ⟨argsT args 0 .nil, rows, nx⟩ = some ⟨.ret, s'⟩ ∨ runIC C LF ir.body ⟨argsT args 0 .nil, rows, nx⟩ = some ⟨.normal, s'⟩) (hv : s'.tm.get t = some v) : ∃ rows' nx', evFn C LF ir args rows nx = some ⟨v, rows', nx'⟩ := by
  refine ⟨s'.rows, s'.nx, ?_⟩
  unfold evFn
  rw [hn]
  have key : ∀ e : Ex, (e = .ret ∨ e = .normal) → retFn ir (some ⟨e, s'⟩) = some ⟨v, s'.rows, s'.nx⟩ := by
    intro e he
    have : retFn ir (some ⟨e, s'⟩) = bo (evRes s' ir.results) fun l => (match l with
      | [v] => some ⟨v, s'.rows, s'.nx⟩
      | l => some ⟨.tup l, s'.rows, s'.nx⟩) := by rcases he with rfl | rfl <;> rfl
    rw [this, hr, r_resT, r_res0, hv]; rfl
  rcases h with h | h <;> rw [h]
  · exact key _ (.inl rfl)
  · exact key _ (.inr rfl)

noncomputable def chkG (a : List AV) : Option AV := match a with | [.agg [.int .i64 k, .str u, .str l]] => some (.int .i64 (chkV k u l)) | _ => none
noncomputable def orc6 : Nat → Option Orc := orcL [(14, oFun nameG)]
theorem orc6_ok (B : Base) (hK : KG 1 pow B) : ∀ f o, orc6 f = some o → OrcOK B P36 f o := orcL_ok (fun e he => by
  simp only [List.mem_singleton] at he
  subst he
  exact fun_okG hK (name_row (B := B)))
theorem check_row : ∀ args v, chkG args = some v → RowG P36 1 pow 6 (args, v) := by
  intro args v h
  unfold chkG at h
  split at h
  · rename_i k u l
    simp only [Option.some.injEq] at h
    subst h
    obtain ⟨s', h1, h2⟩ := check_run (C := evCall orc6 fns36 100000 1) (LF := 100000) (rows := g0 1 pow) (nx := Nat.succ 1) (fun s rows nx => rfl) k u l
    exact fn_row (orc := orc6) (fns := fns36) (LF := 100000) (fuel := 1) mixed Td.tied orc6_ok (ir := I.I6) rfl rfl rfl (ev_of rfl rfl h1 h2)
  · cases h

/-- No relation. -/
def zr (e : Int) : AV := .tup [.agg [.int .i64 (.ofNat 0), .str [], .str []], .bool false, .int .i64 e]
def relK (m : Int) (u l : List UInt8) : AV := if decide (chkV m u l = .ofNat 0) then .tup [.agg [.int .i64 m, .str u, .str l], .bool true, .int .i64 (.ofNat 0)] else zr (chkV m u l)
def relV (k : Int) (u l : List UInt8) : AV :=
  if decide (k = .ofNat 1) then relK (.ofNat 1) u l else if decide (k = .ofNat 2) then relK (.ofNat 1) u l else if decide (k = .ofNat 3) then relK (.ofNat 4) u l else if decide (k = .ofNat 4) then relK (.ofNat 3) u l else if decide (k = .ofNat 5) then zr (.ofNat 0) else zr (.ofNat 12)

theorem rel_run {C : CallF} {LF : Nat} {rows : T ARow} (hC : ∀ k u l rows nx, C (.f 6) [.agg [.int .i64 k, .str u, .str l]] rows nx = some ⟨.int .i64 (chkV k u l), rows, nx⟩) (k e : Int) (u l : List UInt8) :
    ∃ rows' nx', evFn C LF I.I5 [.agg [.int .i64 k, .int .i64 e, .str u, .str l]] rows 2 = some ⟨relV k u l, rows', nx'⟩ := by
  have h0 : (argsT [.agg [.int .i64 k, .int .i64 e, .str u, .str l]] 0 .nil).get 0 = some (.agg [.int .i64 k, .int .i64 e, .str u, .str l]) := rfl
  unfold evFn
  have hn : Nat.ble (lenN [AV.agg [.int .i64 k, .int .i64 e, .str u, .str l]]) I.I5.n = true := rfl
  rw [hn]
  generalize argsT [.agg [.int .i64 k, .int .i64 e, .str u, .str l]] 0 .nil = tm at h0
  have res : ∀ (x : Ex) (s : St) (p q r v w : AV) (b g : Nat), (x = .ret ∨ x = .normal) → s.tm.get 2 = some (.ptr b 0) → s.rows.get b = some (.cells g [p, q, r]) → s.tm.get 3 = some v → s.tm.get 4 = some w → retFn I.I5 (some ⟨x, s⟩) = some ⟨.tup [.agg [p, q, r], v, w], s.rows, s.nx⟩ := by
    intro x s p q r v w b g hx h2 hl h3 h4
    have : retFn I.I5 (some ⟨x, s⟩) = bo (evRes s [(2, some (.many 3)), (3, none), (4, none)]) fun l => (match l with
      | [v] => some ⟨v, s.rows, s.nx⟩
      | l => some ⟨.tup l, s.rows, s.nx⟩) := by rcases hx with rfl | rfl <;> rfl
    rw [this]
    have : evRes s [(2, some (.many 3)), (3, none), (4, none)] = bo (loadAt s.rows (.many 3) ((Opd.t 2).ev s.tm)) fun v => bo (evRes s [(3, none), (4, none)]) fun r => some (v :: r) := rfl
    rw [this, s_ev, h2, r_resT, r_resT, r_res0, h3, h4]
    have : loadAt s.rows (.many 3) (.ptr b 0) = some (.agg [p, q, r]) := by
      show asRead (s.rows.get b) (fun l => kd (.many 3) (dropN 0 l)) = _
      rw [hl]; rfl
    show bo (bo (loadAt s.rows (.many 3) (.ptr b 0)) _) _ = _
    rw [this]; rfl
  unfold relV relK zr
  have go : ∀ m : Int, (decide (chkV m u l = .ofNat 0) = true ∨ decide (chkV m u l = .ofNat 0) = false) := fun m => by cases decide (chkV m u l = .ofNat 0) <;> simp
  by_cases k1 : k = .ofNat 1
  · subst k1
    rcases go (.ofNat 1) with h6 | h6 <;>
    · simp only [I.I5]
      simp only [x_ops_nil, x_ops, x_g, s_g, x_nil, x_cons, x_c, s_ev, x_bo, x_gd, x_mv, s_box, s_store2, s_put2, s_asCells, s_load, s_idx, s_ext, s_build2, s_lookup, s_update, s_lenM, y_lss, y_gtr, y_eql, y_neq, y_leq, y_eqS, y_lenStr, y_toBytes, y_idxSl, y_fieldAddr, y_call, x_lenS, x_not, x_pick, s_rd1, s_rd2, s_mp1, s_mp2, s_want, y_wantU, s_b1, s_b2, s_cond, s_stA, s_stI, s_ceA, z_stS, z_loadM, z_take3, z_take4, z_store3, z_put3, z_storeI, z_put1, z_build0, z_build12, z_build012, x_iops, x_iseq, s_icond, x_iblock, x_iexit, x_iret, x_iskip, T.get_set, Option.getD_some, reduceIte, Nat.reduceEqDiff, eq_self, if_true, if_false, List.getElem?_cons_zero, List.getElem?_cons_succ, Option.getD_none, Option.isSome_some, Option.isSome_none, beq_self_eq_true, Nat.reduceLT, Nat.reduceMul, Nat.reduceAdd, Nat.zero_add, Nat.one_mul, Nat.zero_mul, Bool.false_eq_true, Bool.not_false, Bool.not_true, decide_true, decide_false, d_draw, d_nil, d_cons, d_p, d_l, d_a, d_c, d_lg, d_ac0, d_ac1, z_build5, z_idxArr, Int.ofNat.injEq, h0, hC, h6]
      refine ⟨_, _, res _ _ _ _ _ _ _ 3 27 (by simp) ?_ ?_ ?_ ?_⟩ <;> simp only [T.get_set, Nat.reduceEqDiff, if_true, if_false, reduceIte]
  have d1 : decide (k = .ofNat 1) = false := decide_eq_false k1
  by_cases k2 : k = .ofNat 2
  · subst k2
    rcases go (.ofNat 1) with h6 | h6 <;>
    · simp only [I.I5]
      simp only [x_ops_nil, x_ops, x_g, s_g, x_nil, x_cons, x_c, s_ev, x_bo, x_gd, x_mv, s_box, s_store2, s_put2, s_asCells, s_load, s_idx, s_ext, s_build2, s_lookup, s_update, s_lenM, y_lss, y_gtr, y_eql, y_neq, y_leq, y_eqS, y_lenStr, y_toBytes, y_idxSl, y_fieldAddr, y_call, x_lenS, x_not, x_pick, s_rd1, s_rd2, s_mp1, s_mp2, s_want, y_wantU, s_b1, s_b2, s_cond, s_stA, s_stI, s_ceA, z_stS, z_loadM, z_take3, z_take4, z_store3, z_put3, z_storeI, z_put1, z_build0, z_build12, z_build012, x_iops, x_iseq, s_icond, x_iblock, x_iexit, x_iret, x_iskip, T.get_set, Option.getD_some, reduceIte, Nat.reduceEqDiff, eq_self, if_true, if_false, List.getElem?_cons_zero, List.getElem?_cons_succ, Option.getD_none, Option.isSome_some, Option.isSome_none, beq_self_eq_true, Nat.reduceLT, Nat.reduceMul, Nat.reduceAdd, Nat.zero_add, Nat.one_mul, Nat.zero_mul, Bool.false_eq_true, Bool.not_false, Bool.not_true, decide_true, decide_false, d_draw, d_nil, d_cons, d_p, d_l, d_a, d_c, d_lg, d_ac0, d_ac1, z_build5, z_idxArr, Int.ofNat.injEq, h0, hC, h6, d1]
      refine ⟨_, _, res _ _ _ _ _ _ _ 3 27 (by simp) ?_ ?_ ?_ ?_⟩ <;> simp only [T.get_set, Nat.reduceEqDiff, if_true, if_false, reduceIte]
  have d2 : decide (k = .ofNat 2) = false := decide_eq_false k2
  by_cases k3 : k = .ofNat 3
  · subst k3
    rcases go (.ofNat 4) with h6 | h6 <;>
    · simp only [I.I5]
      simp only [x_ops_nil, x_ops, x_g, s_g, x_nil, x_cons, x_c, s_ev, x_bo, x_gd, x_mv, s_box, s_store2, s_put2, s_asCells, s_load, s_idx, s_ext, s_build2, s_lookup, s_update, s_lenM, y_lss, y_gtr, y_eql, y_neq, y_leq, y_eqS, y_lenStr, y_toBytes, y_idxSl, y_fieldAddr, y_call, x_lenS, x_not, x_pick, s_rd1, s_rd2, s_mp1, s_mp2, s_want, y_wantU, s_b1, s_b2, s_cond, s_stA, s_stI, s_ceA, z_stS, z_loadM, z_take3, z_take4, z_store3, z_put3, z_storeI, z_put1, z_build0, z_build12, z_build012, x_iops, x_iseq, s_icond, x_iblock, x_iexit, x_iret, x_iskip, T.get_set, Option.getD_some, reduceIte, Nat.reduceEqDiff, eq_self, if_true, if_false, List.getElem?_cons_zero, List.getElem?_cons_succ, Option.getD_none, Option.isSome_some, Option.isSome_none, beq_self_eq_true, Nat.reduceLT, Nat.reduceMul, Nat.reduceAdd, Nat.zero_add, Nat.one_mul, Nat.zero_mul, Bool.false_eq_true, Bool.not_false, Bool.not_true, decide_true, decide_false, d_draw, d_nil, d_cons, d_p, d_l, d_a, d_c, d_lg, d_ac0, d_ac1, z_build5, z_idxArr, Int.ofNat.injEq, h0, hC, h6, d1, d2]
      refine ⟨_, _, res _ _ _ _ _ _ _ 3 27 (by simp) ?_ ?_ ?_ ?_⟩ <;> simp only [T.get_set, Nat.reduceEqDiff, if_true, if_false, reduceIte]
  have d3 : decide (k = .ofNat 3) = false := decide_eq_false k3
  by_cases k4 : k = .ofNat 4
  · subst k4
    rcases go (.ofNat 3) with h6 | h6 <;>
    · simp only [I.I5]
      simp only [x_ops_nil, x_ops, x_g, s_g, x_nil, x_cons, x_c, s_ev, x_bo, x_gd, x_mv, s_box, s_store2, s_put2, s_asCells, s_load, s_idx, s_ext, s_build2, s_lookup, s_update, s_lenM, y_lss, y_gtr, y_eql, y_neq, y_leq, y_eqS, y_lenStr, y_toBytes, y_idxSl, y_fieldAddr, y_call, x_lenS, x_not, x_pick, s_rd1, s_rd2, s_mp1, s_mp2, s_want, y_wantU, s_b1, s_b2, s_cond, s_stA, s_stI, s_ceA, z_stS, z_loadM, z_take3, z_take4, z_store3, z_put3, z_storeI, z_put1, z_build0, z_build12, z_build012, x_iops, x_iseq, s_icond, x_iblock, x_iexit, x_iret, x_iskip, T.get_set, Option.getD_some, reduceIte, Nat.reduceEqDiff, eq_self, if_true, if_false, List.getElem?_cons_zero, List.getElem?_cons_succ, Option.getD_none, Option.isSome_some, Option.isSome_none, beq_self_eq_true, Nat.reduceLT, Nat.reduceMul, Nat.reduceAdd, Nat.zero_add, Nat.one_mul, Nat.zero_mul, Bool.false_eq_true, Bool.not_false, Bool.not_true, decide_true, decide_false, d_draw, d_nil, d_cons, d_p, d_l, d_a, d_c, d_lg, d_ac0, d_ac1, z_build5, z_idxArr, Int.ofNat.injEq, h0, hC, h6, d1, d2, d3]
      refine ⟨_, _, res _ _ _ _ _ _ _ 3 27 (by simp) ?_ ?_ ?_ ?_⟩ <;> simp only [T.get_set, Nat.reduceEqDiff, if_true, if_false, reduceIte]
  have d4 : decide (k = .ofNat 4) = false := decide_eq_false k4
  cases d5 : decide (k = .ofNat 5) <;>
  · simp only [I.I5]
    simp only [x_ops_nil, x_ops, x_g, s_g, x_nil, x_cons, x_c, s_ev, x_bo, x_gd, x_mv, s_box, s_store2, s_put2, s_asCells, s_load, s_idx, s_ext, s_build2, s_lookup, s_update, s_lenM, y_lss, y_gtr, y_eql, y_neq, y_leq, y_eqS, y_lenStr, y_toBytes, y_idxSl, y_fieldAddr, y_call, x_lenS, x_not, x_pick, s_rd1, s_rd2, s_mp1, s_mp2, s_want, y_wantU, s_b1, s_b2, s_cond, s_stA, s_stI, s_ceA, z_stS, z_loadM, z_take3, z_take4, z_store3, z_put3, z_storeI, z_put1, z_build0, z_build12, z_build012, x_iops, x_iseq, s_icond, x_iblock, x_iexit, x_iret, x_iskip, T.get_set, Option.getD_some, reduceIte, Nat.reduceEqDiff, eq_self, if_true, if_false, List.getElem?_cons_zero, List.getElem?_cons_succ, Option.getD_none, Option.isSome_some, Option.isSome_none, beq_self_eq_true, Nat.reduceLT, Nat.reduceMul, Nat.reduceAdd, Nat.zero_add, Nat.one_mul, Nat.zero_mul, Bool.false_eq_true, Bool.not_false, Bool.not_true, decide_true, decide_false, d_draw, d_nil, d_cons, d_p, d_l, d_a, d_c, d_lg, d_ac0, d_ac1, z_build5, z_idxArr, Int.ofNat.injEq, h0, hC, d1, d2, d3, d4, d5]
    refine ⟨_, _, res _ _ _ _ _ _ _ 3 27 (by simp) ?_ ?_ ?_ ?_⟩ <;> simp only [T.get_set, Nat.reduceEqDiff, if_true, if_false, reduceIte]

noncomputable def relG (a : List AV) : Option AV := match a with | [.agg [.int .i64 k, .int .i64 _, .str u, .str l]] => some (relV k u l) | _ => none
noncomputable def orc5 : Nat → Option Orc := orcL [(6, oFun chkG)]
theorem orc5_ok (B : Base) (hK : KG 1 pow B) : ∀ f o, orc5 f = some o → OrcOK B P36 f o := orcL_ok (fun e he => by
  simp only [List.mem_singleton] at he
  subst he
  exact fun_okG hK check_row)
theorem rel_row : ∀ args v, relG args = some v → RowG P36 1 pow 5 (args, v) := by
  intro args v h
  unfold relG at h
  split at h
  · rename_i k e u l
    simp only [Option.some.injEq] at h
    subst h
    refine fn_row (orc := orc5) (fns := fns36) (LF := 100000) (fuel := 1) mixed Td.tied orc5_ok (ir := I.I5) rfl rfl ?_ (rel_run (C := evCall orc5 fns36 100000 1) (LF := 100000) (rows := g0 1 pow) (fun k u l rows nx => rfl) k e u l)
    unfold relV relK zr
    repeat' split
    all_goals rfl
  · cases h

end Ev.Rl
end
