/- Logs that are made; their tops. -/
import Derived.Test.YtkakkacpddiogaaGreatDoorLg43

set_option linter.unusedSimpArgs false
set_option linter.unusedVariables false
section
namespace Ev.Tp
open Go Ev
set_option maxRecDepth 100000

structure Bit where
  g : Nat
  t : Nat
  u : Nat
def encB (x : Bit) : List AV := [.int .u8 (.ofNat x.g), .int .u8 (.ofNat x.t), .int .u8 (.ofNat x.u)]
def encBs (l : List Bit) : List AV := l.flatMap encB
def BitOK (x : Bit) : Prop := x.g < 256 ∧ x.t < 256 ∧ x.u < 256
theorem encBs_len : ∀ l : List Bit, (encBs l).length = l.length * 3
  | [] => rfl
  | x :: l => by
    show (encB x ++ encBs l).length = _
    rw [List.length_append, encBs_len l]; simp [encB]; omega
theorem encBs_get : ∀ (l : List Bit) (i j : Nat) (x : Bit), l[i]? = some x → j < 3 → (encBs l)[i * 3 + j]? = (encB x)[j]?
  | [], i, j, x, h, _ => by simp at h
  | y :: l, 0, j, x, h, hj => by
    simp only [List.getElem?_cons_zero, Option.some.injEq] at h
    subst h
    show (encB y ++ encBs l)[0 * 3 + j]? = _
    rw [List.getElem?_append_left (by simp [encB]; omega)]
    congr 1; omega
  | y :: l, i + 1, j, x, h, hj => by
    show (encB y ++ encBs l)[(i + 1) * 3 + j]? = _
    rw [List.getElem?_append_right (by simp [encB]; omega), show (i + 1) * 3 + j - (encB y).length = i * 3 + j by simp [encB]; omega]
    exact encBs_get l i j x (by simpa using h) hj

def dec2 (n : Nat) : S := if n < 10 then [UInt8.ofNat (48 + n)] else [UInt8.ofNat (48 + n / 10), UInt8.ofNat (48 + n % 10)]
/-- So many halves. -/
def H (n : Nat) : S := if n % 2 = 0 then dec2 (n / 2) else dec2 n ++ [47, 50]
def unitS (n : Nat) : S := match n % 6 with | 0 => [97] | 1 => [98] | 2 => [99] | 3 => [100] | 4 => [101] | _ => []
def mk : Nat → List Bit → List Iv
  | _, [] => []
  | a, x :: l => ⟨unitS x.u, H (a + x.g % 3), H (a + x.g % 3 + (1 + x.t % 6))⟩ :: mk (a + x.g % 3 + (1 + x.t % 6)) l
theorem mk_len : ∀ (a : Nat) (l : List Bit), (mk a l).length = l.length
  | _, [] => rfl
  | a, x :: l => by simp only [mk, List.length_cons, mk_len]

theorem make_run {C : CallF} {LF nx0 : Nat} {rows : T ARow} {nx : Nat} {v : AV} {l : List Bit} (h : RdV rows nx0 3 l.length v (encBs l)) (hnx : nx0 ≤ nx) (hl : l.length ≤ 8) (hLF : 8 < LF) (hB : ∀ x ∈ l, BitOK x)
    (hOf : ∀ n, n ≤ 64 → ∀ rows nx, C (.f 35) [.int .i64 (.ofNat n), .int .i64 (.ofNat 2)] rows nx = some ⟨.tup [.str (H n), .int .i64 (.ofNat 0)], rows, nx⟩)
    (hUn : ∀ n, n < 256 → ∀ rows nx, C (.f 36) [.int .u8 (.ofNat n)] rows nx = some ⟨.str (unitS n), rows, nx⟩) :
    oR (evFn C LF I.I9 [v] rows nx) fun r rows' nx' => SlV rows' nx' 3 l.length r (encL (mk 0 l)) ∧ Keep rows nx rows' nx' ∧ ∀ b, blkOf r = some b → nx ≤ b := by
  refine fn_w rfl ?_
  have h0 : (argsT [v] 0 .nil).get 0 = some v := rfl
  generalize argsT [v] 0 .nil = tm at h0
  have hlen := fun rows' nx' => h.len (C := C) (rows' := rows') (nx' := nx')
  simp only [I.I9]
  simp only [w_nil, w_cons, w_g, w_gt, w_if1, w_if0, w_k, w_set, w_ops, w_kN, w_seq, w_seqN, w_seqR, w_seqE, w_block, w_blkN, w_blkR, w_blkE, w_lpN, w_lpR, w_lpE, w_exit, w_ret, w_skip, w_cond, w_cT, w_cF, w_res, w_resN, w_ret1, w_ret2, w_ret3, r_res0, r_resT, oR_some, oW_some, x_nil, x_cons, x_c, s_ev, x_bo, x_gd, x_mv, s_box, s_stA, s_ceA, z_store3, z_put3, s_asCells, s_load, z_loadO, s_rd1, s_rd2, s_ext, x_not, x_pick, s_wantT, s_wantF, Bool.not_not, y_wantU, s_cond, n_lss, n_leq, n_gtr, n_geq, n_eql, n_neq, y_eqS, y_neqS, y_lenStr, y_idxSl, y_fieldAddr, y_call, x_lenS, w_lenN, y_build3, y_lit3, y_litS, w_draw, dr_nil, dr_cons, dr_end, dk_p, dk_l, dk_lT, dk_a, dk_c, du_p, du_l, du_a, du_c, dr_n, dr_g, dr_kP, dr_kL, dr_kA, dr_kA2, dr_kC, d_lg, d_ac0, d_acc, d_accS, d_find, d_chk, d_all0, d_all1, d_one, d_chkV, d_sameS, dr_ok, Bool.or_true, Bool.or_false, Bool.true_or, Bool.false_or, Nat.reduceLeDiff, T.get_set, Option.getD_some, reduceIte, Nat.reduceEqDiff, eq_self, if_true, if_false, List.getElem?_cons_zero, List.getElem?_cons_succ, Option.getD_none, beq_self_eq_true, Nat.reduceLT, Nat.reduceMul, Nat.reduceAdd, Nat.zero_add, Nat.mul_one, Nat.one_mul, Nat.zero_mul, Bool.false_eq_true, Bool.not_false, Bool.not_true, Bool.and_true, Bool.and_false, Bool.true_and, Bool.false_and, decide_true, decide_false]
  refine w_loop (fun k s => ∃ i a d r, i + k = l.length ∧ d ++ mk a (l.drop i) = mk 0 l ∧ d.length = i ∧ a ≤ 8 * i ∧ SlV s.rows s.nx 3 i r (encL d) ∧ (∀ b, blkOf r = some b → nx ≤ b) ∧ Keep rows nx s.rows s.nx ∧ s.tm.get 0 = some v ∧ s.tm.get 3 = some r ∧ s.tm.get 4 = some (.int .i64 (.ofNat a)) ∧ s.tm.get 5 = some (.int .i64 (.ofNat i))) l.length (by omega) ?_ ?_
  · refine ⟨0, 0, [], .nil .slice, by omega, rfl, rfl, by omega, .inl ⟨rfl, rfl, rfl⟩, ?_, .refl _ _, ?_, ?_, ?_, ?_⟩
    · intro b hb; cases hb
    all_goals simp only [T.get_set, Nat.reduceEqDiff, if_true, if_false, reduceIte, h0]
  · rintro k ⟨tm, rows', nx'⟩ ⟨i, a, d, r, hik, hd, hdl, ha, hS, hbl, hK, g0, g3, g4, g5⟩
    simp only at hS hK g0 g3 g4 g5
    by_cases hi : i < l.length
    · have hd1 : decide (i < l.length) = true := decide_eq_true hi
      have hd2 : decide (i < 8) = true := decide_eq_true (by omega)
      obtain ⟨b, o, hb, hix, _, hld⟩ := h.at (C := C) hi
      have hli : l[i]? = some l[i] := List.getElem?_eq_getElem hi
      have hmem : l[i] ∈ l := List.getElem_mem hi
      obtain ⟨b1, b2, b3⟩ := hB _ hmem
      have hdrop : l.drop i = l[i] :: l.drop (i + 1) := List.drop_eq_getElem_cons hi
      rw [hdrop] at hd
      have hl0 := fun nx' => hld 0 _ rows' nx' (hK.2 b (by omega)) ((encBs_get l i 0 _ hli (by omega)).trans rfl)
      have hl1 := fun nx' => hld 1 _ rows' nx' (hK.2 b (by omega)) ((encBs_get l i 1 _ hli (by omega)).trans rfl)
      have hl2 := fun nx' => hld 2 _ rows' nx' (hK.2 b (by omega)) ((encBs_get l i 2 _ hli (by omega)).trans rfl)
      generalize hx : l[i] = x at *
      obtain ⟨g, t, u⟩ := x
      simp only at hl0 hl1 hl2 b1 b2 b3
      have hg3 : g % 3 < 3 := Nat.mod_lt _ (by omega)
      have ht6 : t % 6 < 6 := Nat.mod_lt _ (by omega)
      have e1 := fun rows nx => n_rem (C := C) (rows := rows) (nx := nx) .u8 g 3 (by omega)
      have e2 := fun rows nx => n_rem (C := C) (rows := rows) (nx := nx) .u8 t 6 (by omega)
      have e3 := fun rows nx => n_conv (C := C) (rows := rows) (nx := nx) .u8 .i64 (g % 3) (by show _ < 9223372036854775808; omega)
      have e4 := fun rows nx => n_conv (C := C) (rows := rows) (nx := nx) .u8 .i64 (t % 6) (by show _ < 9223372036854775808; omega)
      have e5 := fun rows nx => n_add (C := C) (rows := rows) (nx := nx) .i64 a (g % 3) (by show _ < 9223372036854775808; omega)
      have e6 := fun rows nx => n_add (C := C) (rows := rows) (nx := nx) .i64 1 (t % 6) (by show _ < 9223372036854775808; omega)
      have e7 := fun rows nx => n_add (C := C) (rows := rows) (nx := nx) .i64 (a + g % 3) (1 + t % 6) (by show _ < 9223372036854775808; omega)
      have e8 := hOf (a + g % 3) (by omega)
      have e9 := hOf (a + g % 3 + (1 + t % 6)) (by omega)
      have e10 := hUn u b3
      have e11 := fun rows nx => n_add (C := C) (rows := rows) (nx := nx) .i64 i 1 (by show _ < 9223372036854775808; omega)
      obtain ⟨t', hap⟩ := SlV.append (C := C) (rows := rows'.set nx' (some (.cells 0 [.str (unitS u), .str (H (a + g % 3)), .str (H (a + g % 3 + (1 + t % 6)))]))) (nx0 := nx') (nx := nx' + 1) (bytes := 48) (t := 34) (n := i) (s := nx') (v := r) (l := encL d) (src := [.str (unitS u), .str (H (a + g % 3)), .str (H (a + g % 3 + (1 + t % 6)))]) (g := 0)
        (hS.mono (Nat.le_refl _) fun b hb hlt => by rw [T.get_set, if_neg (by omega)]) (by omega) (by rw [T.get_set, if_pos rfl]) rfl (by omega) (by omega) (by omega)
      simp only [w_nil, w_cons, w_g, w_gt, w_if1, w_if0, w_k, w_set, w_ops, w_kN, w_seq, w_seqN, w_seqR, w_seqE, w_block, w_blkN, w_blkR, w_blkE, w_lpN, w_lpR, w_lpE, w_exit, w_ret, w_skip, w_cond, w_cT, w_cF, w_res, w_resN, w_ret1, w_ret2, w_ret3, r_res0, r_resT, oR_some, oW_some, x_nil, x_cons, x_c, s_ev, x_bo, x_gd, x_mv, s_box, s_stA, s_ceA, z_store3, z_put3, s_asCells, s_load, z_loadO, s_rd1, s_rd2, s_ext, x_not, x_pick, s_wantT, s_wantF, Bool.not_not, y_wantU, s_cond, n_lss, n_leq, n_gtr, n_geq, n_eql, n_neq, y_eqS, y_neqS, y_lenStr, y_idxSl, y_fieldAddr, y_call, x_lenS, w_lenN, y_build3, y_lit3, y_litS, w_draw, dr_nil, dr_cons, dr_end, dk_p, dk_l, dk_lT, dk_a, dk_c, du_p, du_l, du_a, du_c, dr_n, dr_g, dr_kP, dr_kL, dr_kA, dr_kA2, dr_kC, d_lg, d_ac0, d_acc, d_accS, d_find, d_chk, d_all0, d_all1, d_one, d_chkV, d_sameS, dr_ok, Bool.or_true, Bool.or_false, Bool.true_or, Bool.false_or, Nat.reduceLeDiff, T.get_set, Option.getD_some, reduceIte, Nat.reduceEqDiff, eq_self, if_true, if_false, List.getElem?_cons_zero, List.getElem?_cons_succ, Option.getD_none, beq_self_eq_true, Nat.reduceLT, Nat.reduceMul, Nat.reduceAdd, Nat.zero_add, Nat.mul_one, Nat.one_mul, Nat.zero_mul, Bool.false_eq_true, Bool.not_false, Bool.not_true, Bool.and_true, Bool.and_false, Bool.true_and, Bool.false_and, decide_true, decide_false, g0, g3, g4, g5, hlen, hd1, hd2, hix, hl0, hl1, hl2, e1, e2, e3, e4, e5, e6, e7, e8, e9, e10, e11, hap]
      refine ⟨k - 1, by omega, i + 1, a + g % 3 + (1 + t % 6), d ++ [⟨unitS u, H (a + g % 3), H (a + g % 3 + (1 + t % 6))⟩], _, by omega, ?_, ?_, by omega, .inr ⟨by omega, ?_, _, t', rfl, Nat.lt_succ_self _, ?_⟩, ?_, ?_, ?_, ?_, ?_, ?_⟩
      · rw [← hd]; simp [mk]
      · simp [hdl]
      · simp [encL_len, hdl]
      · simp only [T.get_set, if_true]
        simp [encL, encI]
      · intro b' hb'
        simp only [blkOf, Option.some.injEq] at hb'
        have := hK.1; omega
      · exact ((hK.set hK.1 (Nat.le_succ _)).app hbl).set (by have := hK.1; omega) (Nat.le_succ _)
      all_goals simp only [T.get_set, Nat.reduceEqDiff, if_true, if_false, reduceIte, g0]
    · have hd1 : decide (i < l.length) = false := decide_eq_false hi
      simp only [w_nil, w_cons, w_g, w_gt, w_if1, w_if0, w_k, w_set, w_ops, w_kN, w_seq, w_seqN, w_seqR, w_seqE, w_block, w_blkN, w_blkR, w_blkE, w_lpN, w_lpR, w_lpE, w_exit, w_ret, w_skip, w_cond, w_cT, w_cF, w_res, w_resN, w_ret1, w_ret2, w_ret3, r_res0, r_resT, oR_some, oW_some, x_nil, x_cons, x_c, s_ev, x_bo, x_gd, x_mv, s_box, s_stA, s_ceA, z_store3, z_put3, s_asCells, s_load, z_loadO, s_rd1, s_rd2, s_ext, x_not, x_pick, s_wantT, s_wantF, Bool.not_not, y_wantU, s_cond, n_lss, n_leq, n_gtr, n_geq, n_eql, n_neq, y_eqS, y_neqS, y_lenStr, y_idxSl, y_fieldAddr, y_call, x_lenS, w_lenN, y_build3, y_lit3, y_litS, w_draw, dr_nil, dr_cons, dr_end, dk_p, dk_l, dk_lT, dk_a, dk_c, du_p, du_l, du_a, du_c, dr_n, dr_g, dr_kP, dr_kL, dr_kA, dr_kA2, dr_kC, d_lg, d_ac0, d_acc, d_accS, d_find, d_chk, d_all0, d_all1, d_one, d_chkV, d_sameS, dr_ok, Bool.or_true, Bool.or_false, Bool.true_or, Bool.false_or, Nat.reduceLeDiff, T.get_set, Option.getD_some, reduceIte, Nat.reduceEqDiff, eq_self, if_true, if_false, List.getElem?_cons_zero, List.getElem?_cons_succ, Option.getD_none, beq_self_eq_true, Nat.reduceLT, Nat.reduceMul, Nat.reduceAdd, Nat.zero_add, Nat.mul_one, Nat.one_mul, Nat.zero_mul, Bool.false_eq_true, Bool.not_false, Bool.not_true, Bool.and_true, Bool.and_false, Bool.true_and, Bool.false_and, decide_true, decide_false, g0, g3, g4, g5, hlen, hd1]
      have hil : i = l.length := by omega
      rw [List.drop_eq_nil_of_le (by omega)] at hd
      simp only [mk, List.append_nil] at hd
      rw [← hd, ← hil]
      exact ⟨hS, hK, hbl⟩
end Ev.Tp
end
