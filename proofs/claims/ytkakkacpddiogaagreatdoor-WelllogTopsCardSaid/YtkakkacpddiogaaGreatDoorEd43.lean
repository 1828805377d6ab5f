/- The edges of a mesh: one round of the range over the sides. -/
import Derived.Test.YtkakkacpddiogaaGreatDoorGIR43

set_option linter.unusedSimpArgs false
set_option linter.unusedVariables false
section
namespace Ev.Ed
open Go Ev Ev.Ou

def mJ : JC := JC.lft (JC.rgt (JC.rgt (JC.rgt (JC.rgt I.J260))))
def g5 : List GOp := JC.g5 mJ
def rst : IC := JC.rst mJ

structure Live (it b : Nat) (es : List (AV × AV)) (out : List (Int × Int)) (s : St) : Prop where
  t5 : s.tm.get 5 = some (.map b)
  t22 : s.tm.get 22 = some (.ptr it 0)
  rb : s.rows.get b = some (.roM es)
  out : (out = [] ∧ s.tm.get 7 = some (.nil .slice)) ∨ (out ≠ [] ∧ ∃ id, it < id ∧ id < s.nx ∧ id ≠ b ∧ s.tm.get 7 = some (.slice id 0 out.length (.op 2)) ∧ s.rows.get id = some (.cells 308 (flat2 out)))

theorem round {C : CallF} {LF it b : Nat} {es : List (AV × AV)} {out : List (Int × Int)} {s : St} (h : Live it b es out s) (hb : b < s.nx) (hit : it < s.nx) (hlen : out.length ≤ 100000) {p : Int × Int} {v : AV} {q : Option AV}
    (he2 : eqA ⟨true, [.int .i64, .int .i64]⟩ (kk (p.2, p.1)) (kk (p.2, p.1)) = some true) (hq : findM ⟨true, [.int .i64, .int .i64]⟩ (kk (p.2, p.1)) es = some q) :
    ∃ s5 s', evOps C g5 (nextSt s 23 24 25 (kk p) v) = some s5 ∧ runIC C LF rst s5 = some ⟨.normal, s'⟩ ∧
      (if (decide (p.1 < p.2) || q.isNone) = true then s'.nx = s.nx + 3 ∧ Live it b es (out ++ [mm p]) s' else s'.nx = s.nx + 1 ∧ Live it b es out s') := by
  obtain ⟨t5, t22, rb, hout⟩ := h
  obtain ⟨tm, rows, nx⟩ := s
  simp only at t5 t22 rb hb hit hout
  have hbn : b ≠ nx := by omega
  obtain ⟨o7, h7⟩ : ∃ o7, tm.get 7 = some o7 := by
    rcases hout with ⟨_, h⟩ | ⟨_, id, _, _, _, h, _⟩ <;> exact ⟨_, h⟩
  have e5 : ∃ s5, evOps C g5 (nextSt ⟨tm, rows, nx⟩ 23 24 25 (kk p) v) = some s5 ∧ s5.tm.get 5 = some (.map b) ∧ s5.tm.get 22 = some (.ptr it 0) ∧ s5.tm.get 7 = some o7 ∧ s5.tm.get 8 = some (.ptr nx 0) ∧
      (∃ g, s5.rows = (rows.set nx (some (.cells g [ii 0, ii 0]))).set nx (some (.cells g [ii p.1, ii p.2]))) ∧ s5.nx = nx + 1 := by
    unfold g5 mJ
    simp only [I.J260, JC.rgt, JC.lft, JC.g5, nextSt]
    simp only [x_ops_nil, x_ops, x_g, s_g, x_nil, x_cons, x_c, s_ev, x_bo, x_gd, x_mv, s_box, s_store2, s_put2, s_asCells, s_load, s_idx, s_ext, s_build2, s_lookup, s_update, s_lenM, x_lss, x_gtr, x_eql, x_not, x_pick, s_rd1, s_rd2, s_mp1, s_mp2, s_want, s_b1, s_b2, s_cond, s_stA, s_stI, s_ceA, x_iops, x_iseq, s_icond, x_iblock, x_iexit, x_iret, x_iskip, T.get_set, Option.getD_some, reduceIte, Nat.reduceEqDiff, eq_self, ii, kk, if_true, if_false, List.getElem?_cons_zero, List.getElem?_cons_succ, Option.getD_none, Option.isSome_some, Option.isSome_none, beq_self_eq_true, Nat.reduceLT, Nat.reduceMul, Nat.reduceAdd, Nat.zero_add, Nat.one_mul, Nat.zero_mul, Bool.false_eq_true, Bool.not_false, Bool.not_true, decide_true, decide_false, t5, t22, rb, h7]
    refine ⟨_, rfl, ?_⟩
    simp only [T.get_set, Nat.reduceEqDiff, if_true, if_false, reduceIte, t5, t22, rb, h7, true_and, and_true]
    exact ⟨_, rfl⟩
  obtain ⟨s5, h5, k5, k22, k7, k8, ⟨g, kr⟩, knx⟩ := e5
  have kb : s5.rows.get b = some (.roM es) := by rw [kr, T.get_set, if_neg hbn, T.get_set, if_neg hbn]; exact rb
  have kn : s5.rows.get nx = some (.cells g [ii p.1, ii p.2]) := by rw [kr, T.get_set, if_pos rfl]
  have kid : ∀ id, id ≠ nx → s5.rows.get id = rows.get id := fun id hne => by rw [kr, T.get_set, if_neg hne, T.get_set, if_neg hne]
  obtain ⟨tm5, rows5, nx5⟩ := s5
  simp only at k5 k22 k7 k8 kr knx kb kn kid
  subst knx
  clear kr
  simp only [ii, kk] at he2 hq kn
  have hbn1 : b ≠ nx + 1 := by omega
  have hbn2 : b ≠ nx + 1 + 1 := by omega
  have hn1 : nx ≠ nx + 1 := by omega
  have hn2 : nx ≠ nx + 1 + 1 := by omega
  refine ⟨⟨tm5, rows5, nx + 1⟩, ?_⟩
  suffices hsuf : ∃ s', runIC C LF rst ⟨tm5, rows5, nx + 1⟩ = some ⟨.normal, s'⟩ ∧ (if (decide (p.1 < p.2) || q.isNone) = true then s'.nx = nx + 3 ∧ Live it b es (out ++ [mm p]) s' else s'.nx = nx + 1 ∧ Live it b es out s') by
    obtain ⟨s', h1, h2⟩ := hsuf
    exact ⟨s', h5, h1, h2⟩
  -- the side is taken up
  have take : ∀ (hc : (decide (p.1 < p.2) || q.isNone) = true), ∃ s', runIC C LF (JC.rst (JC.lft (JC.rgt (JC.rgt (JC.rgt (JC.rgt I.J260)))))) ⟨tm5, rows5, nx + 1⟩ = some ⟨.normal, s'⟩ ∧ s'.nx = nx + 3 ∧ Live it b es (out ++ [mm p]) s' := by
    intro hc
    have hmm : (AV.agg [.int .i64 (if p.2 < p.1 then p.2 else p.1), .int .i64 (if p.1 < p.2 then p.2 else p.1)]) = .agg [.int .i64 (mm p).1, .int .i64 (mm p).2] := rfl
    rcases hout with ⟨rfl, h7'⟩ | ⟨hne, id, i1, i2, i3, h7', hr⟩
    · rw [h7] at h7'; cases h7'
      have happ : evK [.nil .slice, .slice (nx+1) 0 1 (.ex 1)] (rows5.set (nx+1) (some (.cells 0 [.int .i64 (mm p).1, .int .i64 (mm p).2]))) (nx+1+1) C (.rare (.append 2 16 308)) = some ⟨.slice (nx+1+1) 0 1 (.op 2), (rows5.set (nx+1) (some (.cells 0 [.int .i64 (mm p).1, .int .i64 (mm p).2]))).set (nx+1+1) (some (.cells 308 [.int .i64 (mm p).1, .int .i64 (mm p).2])), nx + 1 + 1 + 1⟩ :=
        x_appN (by rw [T.get_set, if_pos rfl]) (by simp) rfl (by omega) (by omega)
      have key : ∃ s', runIC C LF (JC.rst (JC.lft (JC.rgt (JC.rgt (JC.rgt (JC.rgt I.J260)))))) ⟨tm5, rows5, nx + 1⟩ = some ⟨.normal, s'⟩ ∧ s'.nx = nx + 1 + 1 + 1 ∧ s'.tm.get 5 = some (.map b) ∧ s'.tm.get 22 = some (.ptr it 0) ∧ s'.tm.get 7 = some (.slice (nx+1+1) 0 1 (.op 2)) ∧ s'.rows = (rows5.set (nx+1) (some (.cells 0 [.int .i64 (mm p).1, .int .i64 (mm p).2]))).set (nx+1+1) (some (.cells 308 [.int .i64 (mm p).1, .int .i64 (mm p).2])) := by
        simp only [I.J260, JC.rgt, JC.lft, JC.rst]
        by_cases hac : p.1 < p.2
        · have hac0 : decide (p.1 < p.2) = true := decide_eq_true hac
          simp only [x_ops_nil, x_ops, x_g, s_g, x_nil, x_cons, x_c, s_ev, x_bo, x_gd, x_mv, s_box, s_store2, s_put2, s_asCells, s_load, s_idx, s_ext, s_build2, s_lookup, s_update, s_lenM, x_lss, x_gtr, x_eql, x_not, x_pick, s_rd1, s_rd2, s_mp1, s_mp2, s_want, s_b1, s_b2, s_cond, s_stA, s_stI, s_ceA, x_iops, x_iseq, s_icond, x_iblock, x_iexit, x_iret, x_iskip, T.get_set, Option.getD_some, reduceIte, Nat.reduceEqDiff, eq_self, ii, kk, if_true, if_false, List.getElem?_cons_zero, List.getElem?_cons_succ, Option.getD_none, Option.isSome_some, Option.isSome_none, beq_self_eq_true, Nat.reduceLT, Nat.reduceMul, Nat.reduceAdd, Nat.zero_add, Nat.one_mul, Nat.zero_mul, Bool.false_eq_true, Bool.not_false, Bool.not_true, decide_true, decide_false, x_min, x_max, x_lit2, mm, k5, k22, k8, kb, kn, he2, hq, hbn, hbn1, hbn2, hn1, hn2, Ne.symm hn1, k7, hac0]
          simp only [mm] at happ
          simp only [x_ops_nil, x_ops, x_g, s_g, x_nil, x_cons, x_c, s_ev, x_bo, x_gd, x_mv, s_box, s_store2, s_put2, s_asCells, s_load, s_idx, s_ext, s_build2, s_lookup, s_update, s_lenM, x_lss, x_gtr, x_eql, x_not, x_pick, s_rd1, s_rd2, s_mp1, s_mp2, s_want, s_b1, s_b2, s_cond, s_stA, s_stI, s_ceA, x_iops, x_iseq, s_icond, x_iblock, x_iexit, x_iret, x_iskip, T.get_set, Option.getD_some, reduceIte, Nat.reduceEqDiff, eq_self, ii, kk, if_true, if_false, List.getElem?_cons_zero, List.getElem?_cons_succ, Option.getD_none, Option.isSome_some, Option.isSome_none, beq_self_eq_true, Nat.reduceLT, Nat.reduceMul, Nat.reduceAdd, Nat.zero_add, Nat.one_mul, Nat.zero_mul, Bool.false_eq_true, Bool.not_false, Bool.not_true, decide_true, decide_false, happ, k5, k22]
          refine ⟨_, rfl, ?_⟩
          simp only [T.get_set, Nat.reduceEqDiff, if_true, if_false, reduceIte, k5, k22, and_self]
        · have hac0 : decide (p.1 < p.2) = false := decide_eq_false hac
          have hqn : q = none := by
            rw [hac0] at hc
            cases q with
            | none => rfl
            | some _ => cases hc
          subst hqn
          simp only [x_ops_nil, x_ops, x_g, s_g, x_nil, x_cons, x_c, s_ev, x_bo, x_gd, x_mv, s_box, s_store2, s_put2, s_asCells, s_load, s_idx, s_ext, s_build2, s_lookup, s_update, s_lenM, x_lss, x_gtr, x_eql, x_not, x_pick, s_rd1, s_rd2, s_mp1, s_mp2, s_want, s_b1, s_b2, s_cond, s_stA, s_stI, s_ceA, x_iops, x_iseq, s_icond, x_iblock, x_iexit, x_iret, x_iskip, T.get_set, Option.getD_some, reduceIte, Nat.reduceEqDiff, eq_self, ii, kk, if_true, if_false, List.getElem?_cons_zero, List.getElem?_cons_succ, Option.getD_none, Option.isSome_some, Option.isSome_none, beq_self_eq_true, Nat.reduceLT, Nat.reduceMul, Nat.reduceAdd, Nat.zero_add, Nat.one_mul, Nat.zero_mul, Bool.false_eq_true, Bool.not_false, Bool.not_true, decide_true, decide_false, x_min, x_max, x_lit2, mm, k5, k22, k8, kb, kn, he2, hq, hbn, hbn1, hbn2, hn1, hn2, Ne.symm hn1, k7, hac0]
          simp only [mm, hac, if_false] at happ
          simp only [x_ops_nil, x_ops, x_g, s_g, x_nil, x_cons, x_c, s_ev, x_bo, x_gd, x_mv, s_box, s_store2, s_put2, s_asCells, s_load, s_idx, s_ext, s_build2, s_lookup, s_update, s_lenM, x_lss, x_gtr, x_eql, x_not, x_pick, s_rd1, s_rd2, s_mp1, s_mp2, s_want, s_b1, s_b2, s_cond, s_stA, s_stI, s_ceA, x_iops, x_iseq, s_icond, x_iblock, x_iexit, x_iret, x_iskip, T.get_set, Option.getD_some, reduceIte, Nat.reduceEqDiff, eq_self, ii, kk, if_true, if_false, List.getElem?_cons_zero, List.getElem?_cons_succ, Option.getD_none, Option.isSome_some, Option.isSome_none, beq_self_eq_true, Nat.reduceLT, Nat.reduceMul, Nat.reduceAdd, Nat.zero_add, Nat.one_mul, Nat.zero_mul, Bool.false_eq_true, Bool.not_false, Bool.not_true, decide_true, decide_false, happ, hac, k5, k22]
          refine ⟨_, rfl, ?_⟩
          simp only [T.get_set, Nat.reduceEqDiff, if_true, if_false, reduceIte, k5, k22, hac, and_self]
      obtain ⟨s', g1, g2, g3, g4, g5', g6⟩ := key
      refine ⟨s', g1, by omega, ⟨g3, g4, ?_, .inr ⟨by simp, nx + 1 + 1, by omega, by omega, by omega, g5', ?_⟩⟩⟩
      · rw [g6, T.get_set, if_neg hbn2, T.get_set, if_neg hbn1]; exact kb
      · rw [g6, T.get_set, if_pos rfl]; rfl
    · rw [h7] at h7'; cases h7'
      have hid1 : id ≠ nx + 1 := by omega
      have hid2 : id ≠ nx + 1 + 1 := by omega
      have happ : evK [.slice id 0 out.length (.op 2), .slice (nx+1) 0 1 (.ex 1)] (rows5.set (nx+1) (some (.cells 0 [.int .i64 (mm p).1, .int .i64 (mm p).2]))) (nx+1+1) C (.rare (.append 2 16 308)) = some ⟨.slice (nx+1+1) 0 (out.length + 1) (.op 2), ((rows5.set (nx+1) (some (.cells 0 [.int .i64 (mm p).1, .int .i64 (mm p).2]))).set id none).set (nx+1+1) (some (.cells 308 (flat2 out ++ [.int .i64 (mm p).1, .int .i64 (mm p).2]))), nx + 1 + 1 + 1⟩ :=
        x_appS (by rw [T.get_set, if_pos rfl]) (by rw [T.get_set, if_neg hid1, kid id (by omega)]; exact hr) (by simp) rfl (by rw [flat2_len]) (by omega) (by omega) (by omega)
      have key : ∃ s', runIC C LF (JC.rst (JC.lft (JC.rgt (JC.rgt (JC.rgt (JC.rgt I.J260)))))) ⟨tm5, rows5, nx + 1⟩ = some ⟨.normal, s'⟩ ∧ s'.nx = nx + 1 + 1 + 1 ∧ s'.tm.get 5 = some (.map b) ∧ s'.tm.get 22 = some (.ptr it 0) ∧ s'.tm.get 7 = some (.slice (nx+1+1) 0 (out.length + 1) (.op 2)) ∧ s'.rows = ((rows5.set (nx+1) (some (.cells 0 [.int .i64 (mm p).1, .int .i64 (mm p).2]))).set id none).set (nx+1+1) (some (.cells 308 (flat2 out ++ [.int .i64 (mm p).1, .int .i64 (mm p).2]))) := by
        simp only [I.J260, JC.rgt, JC.lft, JC.rst]
        by_cases hac : p.1 < p.2
        · have hac0 : decide (p.1 < p.2) = true := decide_eq_true hac
          simp only [x_ops_nil, x_ops, x_g, s_g, x_nil, x_cons, x_c, s_ev, x_bo, x_gd, x_mv, s_box, s_store2, s_put2, s_asCells, s_load, s_idx, s_ext, s_build2, s_lookup, s_update, s_lenM, x_lss, x_gtr, x_eql, x_not, x_pick, s_rd1, s_rd2, s_mp1, s_mp2, s_want, s_b1, s_b2, s_cond, s_stA, s_stI, s_ceA, x_iops, x_iseq, s_icond, x_iblock, x_iexit, x_iret, x_iskip, T.get_set, Option.getD_some, reduceIte, Nat.reduceEqDiff, eq_self, ii, kk, if_true, if_false, List.getElem?_cons_zero, List.getElem?_cons_succ, Option.getD_none, Option.isSome_some, Option.isSome_none, beq_self_eq_true, Nat.reduceLT, Nat.reduceMul, Nat.reduceAdd, Nat.zero_add, Nat.one_mul, Nat.zero_mul, Bool.false_eq_true, Bool.not_false, Bool.not_true, decide_true, decide_false, x_min, x_max, x_lit2, mm, k5, k22, k8, kb, kn, he2, hq, hbn, hbn1, hbn2, hn1, hn2, Ne.symm hn1, k7, hac0]
          simp only [mm] at happ
          simp only [x_ops_nil, x_ops, x_g, s_g, x_nil, x_cons, x_c, s_ev, x_bo, x_gd, x_mv, s_box, s_store2, s_put2, s_asCells, s_load, s_idx, s_ext, s_build2, s_lookup, s_update, s_lenM, x_lss, x_gtr, x_eql, x_not, x_pick, s_rd1, s_rd2, s_mp1, s_mp2, s_want, s_b1, s_b2, s_cond, s_stA, s_stI, s_ceA, x_iops, x_iseq, s_icond, x_iblock, x_iexit, x_iret, x_iskip, T.get_set, Option.getD_some, reduceIte, Nat.reduceEqDiff, eq_self, ii, kk, if_true, if_false, List.getElem?_cons_zero, List.getElem?_cons_succ, Option.getD_none, Option.isSome_some, Option.isSome_none, beq_self_eq_true, Nat.reduceLT, Nat.reduceMul, Nat.reduceAdd, Nat.zero_add, Nat.one_mul, Nat.zero_mul, Bool.false_eq_true, Bool.not_false, Bool.not_true, decide_true, decide_false, happ, k5, k22]
          refine ⟨_, rfl, ?_⟩
          simp only [T.get_set, Nat.reduceEqDiff, if_true, if_false, reduceIte, k5, k22, and_self]
        · have hac0 : decide (p.1 < p.2) = false := decide_eq_false hac
          have hqn : q = none := by
            rw [hac0] at hc
            cases q with
            | none => rfl
            | some _ => cases hc
          subst hqn
          simp only [x_ops_nil, x_ops, x_g, s_g, x_nil, x_cons, x_c, s_ev, x_bo, x_gd, x_mv, s_box, s_store2, s_put2, s_asCells, s_load, s_idx, s_ext, s_build2, s_lookup, s_update, s_lenM, x_lss, x_gtr, x_eql, x_not, x_pick, s_rd1, s_rd2, s_mp1, s_mp2, s_want, s_b1, s_b2, s_cond, s_stA, s_stI, s_ceA, x_iops, x_iseq, s_icond, x_iblock, x_iexit, x_iret, x_iskip, T.get_set, Option.getD_some, reduceIte, Nat.reduceEqDiff, eq_self, ii, kk, if_true, if_false, List.getElem?_cons_zero, List.getElem?_cons_succ, Option.getD_none, Option.isSome_some, Option.isSome_none, beq_self_eq_true, Nat.reduceLT, Nat.reduceMul, Nat.reduceAdd, Nat.zero_add, Nat.one_mul, Nat.zero_mul, Bool.false_eq_true, Bool.not_false, Bool.not_true, decide_true, decide_false, x_min, x_max, x_lit2, mm, k5, k22, k8, kb, kn, he2, hq, hbn, hbn1, hbn2, hn1, hn2, Ne.symm hn1, k7, hac0]
          simp only [mm, hac, if_false] at happ
          simp only [x_ops_nil, x_ops, x_g, s_g, x_nil, x_cons, x_c, s_ev, x_bo, x_gd, x_mv, s_box, s_store2, s_put2, s_asCells, s_load, s_idx, s_ext, s_build2, s_lookup, s_update, s_lenM, x_lss, x_gtr, x_eql, x_not, x_pick, s_rd1, s_rd2, s_mp1, s_mp2, s_want, s_b1, s_b2, s_cond, s_stA, s_stI, s_ceA, x_iops, x_iseq, s_icond, x_iblock, x_iexit, x_iret, x_iskip, T.get_set, Option.getD_some, reduceIte, Nat.reduceEqDiff, eq_self, ii, kk, if_true, if_false, List.getElem?_cons_zero, List.getElem?_cons_succ, Option.getD_none, Option.isSome_some, Option.isSome_none, beq_self_eq_true, Nat.reduceLT, Nat.reduceMul, Nat.reduceAdd, Nat.zero_add, Nat.one_mul, Nat.zero_mul, Bool.false_eq_true, Bool.not_false, Bool.not_true, decide_true, decide_false, happ, hac, k5, k22]
          refine ⟨_, rfl, ?_⟩
          simp only [T.get_set, Nat.reduceEqDiff, if_true, if_false, reduceIte, k5, k22, hac, and_self]
      obtain ⟨s', g1, g2, g3, g4, g5', g6⟩ := key
      refine ⟨s', g1, by omega, ⟨g3, g4, ?_, .inr ⟨by simp, nx + 1 + 1, by omega, by omega, by omega, by simpa using g5', ?_⟩⟩⟩
      · rw [g6, T.get_set, if_neg hbn2, T.get_set, if_neg (by omega), T.get_set, if_neg hbn1]; exact kb
      · rw [g6, T.get_set, if_pos rfl, flat2_snoc]
  by_cases hc : (decide (p.1 < p.2) || q.isNone) = true
  · simp only [if_pos hc]; exact take hc
  · simp only [if_neg hc]
    have hac : ¬ p.1 < p.2 := fun h => hc (by simp [h])
    have hac0 : decide (p.1 < p.2) = false := decide_eq_false hac
    obtain ⟨u, rfl⟩ : ∃ u, q = some u := by
      cases q with
      | none => exact absurd (by simp) hc
      | some u => exact ⟨u, rfl⟩
    have key : ∃ s', runIC C LF rst ⟨tm5, rows5, nx + 1⟩ = some ⟨.normal, s'⟩ ∧ s'.nx = nx + 1 ∧ s'.tm.get 5 = some (.map b) ∧ s'.tm.get 22 = some (.ptr it 0) ∧ s'.tm.get 7 = some o7 ∧ s'.rows = rows5 := by
      unfold rst mJ
      simp only [I.J260, JC.rgt, JC.lft, JC.rst]
      simp only [x_ops_nil, x_ops, x_g, s_g, x_nil, x_cons, x_c, s_ev, x_bo, x_gd, x_mv, s_box, s_store2, s_put2, s_asCells, s_load, s_idx, s_ext, s_build2, s_lookup, s_update, s_lenM, x_lss, x_gtr, x_eql, x_not, x_pick, s_rd1, s_rd2, s_mp1, s_mp2, s_want, s_b1, s_b2, s_cond, s_stA, s_stI, s_ceA, x_iops, x_iseq, s_icond, x_iblock, x_iexit, x_iret, x_iskip, T.get_set, Option.getD_some, reduceIte, Nat.reduceEqDiff, eq_self, ii, kk, if_true, if_false, List.getElem?_cons_zero, List.getElem?_cons_succ, Option.getD_none, Option.isSome_some, Option.isSome_none, beq_self_eq_true, Nat.reduceLT, Nat.reduceMul, Nat.reduceAdd, Nat.zero_add, Nat.one_mul, Nat.zero_mul, Bool.false_eq_true, Bool.not_false, Bool.not_true, decide_true, decide_false, x_min, x_max, x_lit2, mm, k5, k22, k8, kb, kn, he2, hq, hbn, hbn1, hbn2, hn1, hn2, Ne.symm hn1, k7, hac0]
      refine ⟨_, rfl, ?_⟩
      simp only [T.get_set, Nat.reduceEqDiff, if_true, if_false, reduceIte, k5, k22, k7, and_self]
    obtain ⟨s', g1, g2, g3, g4, g5', g6⟩ := key
    refine ⟨s', g1, g2, ⟨g3, g4, by rw [g6]; exact kb, ?_⟩⟩
    rw [← h7] at g5'
    rcases hout with ⟨rfl, h7'⟩ | ⟨hne, id, i1, i2, i3, h7', hr⟩
    · exact .inl ⟨rfl, g5'.trans h7'⟩
    · exact .inr ⟨hne, id, i1, by omega, i3, g5'.trans h7', by rw [g6, kid id (by omega)]; exact hr⟩
end Ev.Ed
end
