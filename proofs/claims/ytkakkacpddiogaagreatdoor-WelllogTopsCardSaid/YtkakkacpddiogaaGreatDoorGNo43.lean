/- A name, as the program sees it: the whole function. -/
import Derived.Test.YtkakkacpddiogaaGreatDoorNm43
import Derived.Test.YtkakkacpddiogaaGreatDoorMk43

set_option linter.unusedSimpArgs false
set_option linter.unusedVariables false
section
namespace Ev.Nm
open Go Ev

def nmFrom : Nat → List UInt8 → Bool
  | _, [] => true
  | i, c :: l => nameB c.toNat (decide (i = 0)) && nmFrom (i + 1) l
def nameV (s : List UInt8) : Bool := !(decide (s = [])) && (!(decide (32 < s.length)) && nmFrom 0 s)
def nameL (s : List UInt8) : Bool := decide (s = []) || decide (32 < s.length)

structure At (id n i : Nat) (s : List UInt8) (st : St) : Prop where
  t15 : st.tm.get 15 = some (.slice id 0 n (.op 1))
  t16 : st.tm.get 16 = some (.int .i64 (.ofNat n))
  t17 : st.tm.get 17 = some (.int .i64 (.ofNat i))
  row : st.rows.get id = some (.cells 0 (bytesAV s))

theorem round {C : CallF} {LF id n i : Nat} {s : List UInt8} {st : St} {c : UInt8} (h : At id n i s st) (hi : i < n) (hn : n < 1000000) (hc : s[i]? = some c) :
    ∃ st', runIC C LF lp st = some ⟨if nameB c.toNat (decide (i = 0)) = true then .normal else .ret, st'⟩ ∧ st'.rows = st.rows ∧ st'.nx = st.nx ∧ (nameB c.toNat (decide (i = 0)) = true → At id n (i + 1) s st') ∧ (nameB c.toNat (decide (i = 0)) = false → st'.tm.get 2 = some (.bool false)) := by
  obtain ⟨t15, t16, t17, row⟩ := h
  -- the head
  obtain ⟨s1, e1, k1, k2, k3, k4, k15, k16, k17⟩ : ∃ s1, runIC C LF (IC.lft lp) st = some ⟨.normal, s1⟩ ∧ s1.rows = st.rows ∧ s1.nx = st.nx ∧ s1.tm.get 18 = some (.bool true) ∧ True ∧ s1.tm.get 15 = st.tm.get 15 ∧ s1.tm.get 16 = st.tm.get 16 ∧ s1.tm.get 17 = st.tm.get 17 := by
    obtain ⟨tm, rows, nx⟩ := st
    simp only at t15 t16 t17 row
    have hlt : decide (Int.ofNat i < Int.ofNat n) = true := decide_eq_true (by simp only [Int.ofNat_eq_natCast]; omega)
    unfold lp
    simp only [I.I54, IC.rgt, IC.lft, IC.bod]
    simp only [x_ops_nil, x_ops, x_g, s_g, x_nil, x_cons, x_c, s_ev, x_bo, x_gd, x_mv, s_box, s_store2, s_put2, s_asCells, s_load, s_idx, s_ext, s_build2, s_lookup, s_update, s_lenM, y_lss, y_gtr, y_eql, y_neq, y_leq, y_eqS, y_lenStr, y_toBytes, y_idxSl, y_fieldAddr, x_lenS, x_not, x_pick, s_rd1, s_rd2, s_mp1, s_mp2, s_want, y_wantU, s_b1, s_b2, s_cond, s_stA, s_stI, s_ceA, x_iops, x_iseq, s_icond, x_iblock, x_iexit, x_iret, x_iskip, T.get_set, Option.getD_some, reduceIte, Nat.reduceEqDiff, eq_self, if_true, if_false, List.getElem?_cons_zero, List.getElem?_cons_succ, Option.getD_none, Option.isSome_some, Option.isSome_none, beq_self_eq_true, Nat.reduceLT, Nat.reduceMul, Nat.reduceAdd, Nat.zero_add, Nat.one_mul, Nat.zero_mul, Bool.false_eq_true, Bool.not_false, Bool.not_true, decide_true, decide_false, t16, t17, hlt]
    refine ⟨_, rfl, rfl, rfl, ?_⟩
    simp only [T.get_set, Nat.reduceEqDiff, if_true, if_false, reduceIte, t15, t16, t17, and_self]
  obtain ⟨s2, e2, m1, m2, m3, m4, m15, m16, m17⟩ : ∃ s2, evOps C r5 s1 = some s2 ∧ s2.rows = st.rows ∧ s2.nx = st.nx ∧ s2.tm.get 3 = some (.int .i64 (.ofNat i)) ∧ s2.tm.get 4 = some (.int .u8 (.ofNat c.toNat)) ∧ s2.tm.get 15 = st.tm.get 15 ∧ s2.tm.get 16 = st.tm.get 16 ∧ s2.tm.get 17 = st.tm.get 17 := by
    obtain ⟨tm, rows, nx⟩ := s1
    simp only at k1 k2 k15 k16 k17
    subst k1; subst k2
    rw [t15] at k15; rw [t17] at k17; rw [t16] at k16
    have hb : (bytesAV s)[0 + i * 1]? = some (.int .u8 (.ofNat c.toNat)) := by
      unfold bytesAV
      rw [List.getElem?_map, show 0 + i * 1 = i by omega, hc]; rfl
    unfold r5 b1 lp
    simp only [I.I54, IC.rgt, IC.lft, IC.bod, opsOf]
    simp only [Nat.zero_add, Nat.mul_one] at hb
    simp only [x_ops_nil, x_ops, x_g, s_g, x_nil, x_cons, x_c, s_ev, x_bo, x_gd, x_mv, s_box, s_store2, s_put2, s_asCells, s_load, s_idx, s_ext, s_build2, s_lookup, s_update, s_lenM, y_lss, y_gtr, y_eql, y_neq, y_leq, y_eqS, y_lenStr, y_toBytes, y_idxSl, y_fieldAddr, x_lenS, x_not, x_pick, s_rd1, s_rd2, s_mp1, s_mp2, s_want, y_wantU, s_b1, s_b2, s_cond, s_stA, s_stI, s_ceA, x_iops, x_iseq, s_icond, x_iblock, x_iexit, x_iret, x_iskip, T.get_set, Option.getD_some, reduceIte, Nat.reduceEqDiff, eq_self, if_true, if_false, List.getElem?_cons_zero, List.getElem?_cons_succ, Option.getD_none, Option.isSome_some, Option.isSome_none, beq_self_eq_true, Nat.reduceLT, Nat.reduceMul, Nat.reduceAdd, Nat.zero_add, Nat.one_mul, Nat.zero_mul, Bool.false_eq_true, Bool.not_false, Bool.not_true, decide_true, decide_false, Nat.mul_one, k15, k17, hi, row, hb]
    refine ⟨_, rfl, rfl, rfl, ?_⟩
    simp only [T.get_set, Nat.reduceEqDiff, if_true, if_false, reduceIte, k15, k16, k17, t15, t16, t17, and_self]
  obtain ⟨s3, e3, p1, p2, p5, pk⟩ := run6 (C := C) m4
  have p4 : s3.tm.get 4 = some (.int .u8 (.ofNat c.toNat)) := (pk 4 (by simp)).trans m4
  obtain ⟨s4, e4, q1, q2, q6, qk⟩ := run7 (C := C) p4
  have q3 : s4.tm.get 3 = some (.int .i64 (.ofNat i)) := (qk 3 (by simp)).trans ((pk 3 (by simp)).trans m3)
  have q5 := (qk 5 (by simp)).trans p5
  obtain ⟨s5, e5, u1, u2, u55, uk⟩ := run8 (C := C) q3 q5 q6
  have hnb : (!((decide ((97 : Int) ≤ .ofNat c.toNat) && decide ((Int.ofNat c.toNat) ≤ 122) || decide ((65 : Int) ≤ .ofNat c.toNat) && decide ((Int.ofNat c.toNat) ≤ 90)) || (!decide (i = 0) && (decide ((48 : Int) ≤ .ofNat c.toNat) && decide ((Int.ofNat c.toNat) ≤ 57) || decide ((Int.ofNat c.toNat) = 95))))) = !nameB c.toNat (decide (i = 0)) := rfl
  rw [hnb] at u55
  have keep : ∀ t, t = 15 ∨ t = 16 ∨ t = 17 → s5.tm.get t = st.tm.get t := by
    rintro t (rfl | rfl | rfl)
    · exact (uk 15 (by simp)).trans ((qk 15 (by simp)).trans ((pk 15 (by simp)).trans m15))
    · exact (uk 16 (by simp)).trans ((qk 16 (by simp)).trans ((pk 16 (by simp)).trans m16))
    · exact (uk 17 (by simp)).trans ((qk 17 (by simp)).trans ((pk 17 (by simp)).trans m17))
  have hrows : s5.rows = st.rows := by rw [u1, q1, p1, m1]
  have hnx : s5.nx = st.nx := by rw [u2, q2, p2, m2]
  have hb1 : runIC C LF b1 s1 = if nameB c.toNat (decide (i = 0)) = true then some ⟨.normal, s5⟩ else some ⟨.ret, ⟨s5.tm.set 2 (some (.bool false)), s5.rows, s5.nx⟩⟩ := by
    show bo (bo (evOps C r5 s1) fun s => some (XS.mk .normal s)) (fun x => match x.e with | .normal => bo (bo (evOps C r6 x.s) fun s => some (XS.mk .normal s)) (fun x => match x.e with | .normal => bo (bo (evOps C r7 x.s) fun s => some (XS.mk .normal s)) (fun x => match x.e with | .normal => bo (bo (evOps C r8 x.s) fun s => some (XS.mk .normal s)) (fun x => match x.e with | .normal => runIC C LF (.cond (.t 55) (.seq (.ops [⟨none, 2, .mv, [.c (.bool false)]⟩]) .ret) .skip) x.s | e => some ⟨e, x.s⟩) | e => some ⟨e, x.s⟩) | e => some ⟨e, x.s⟩) | e => some ⟨e, x.s⟩) = _
    rw [e2]
    show bo (bo (evOps C r6 s2) fun s => some (XS.mk .normal s)) _ = _
    rw [e3]
    show bo (bo (evOps C r7 s3) fun s => some (XS.mk .normal s)) _ = _
    rw [e4]
    show bo (bo (evOps C r8 s4) fun s => some (XS.mk .normal s)) _ = _
    rw [e5]
    show runIC C LF (.cond (.t 55) (.seq (.ops [⟨none, 2, .mv, [.c (.bool false)]⟩]) .ret) .skip) s5 = _
    rw [x_icond _ _ u55]
    cases nameB c.toNat (decide (i = 0)) <;> rfl
  have hlp : ∀ s, runIC C LF lp s = bo (runIC C LF (IC.lft lp) s) fun x => match x.e with | .normal => bo (runIC C LF (.cond (.t 18) .skip (.exit 0)) x.s) (fun x => match x.e with | .normal => bo (runIC C LF (.block 1 b1) x.s) (fun x => match x.e with | .normal => runIC C LF (.ops [⟨none, 56, .binI .add, [.t 17, .c (.int .i64 (.ofNat 1))]⟩, ⟨none, 17, .mv, [.t 56]⟩]) x.s | e => some ⟨e, x.s⟩) | e => some ⟨e, x.s⟩) | e => some ⟨e, x.s⟩ := fun _ => rfl
  rw [hlp, e1]
  show ∃ st', bo (runIC C LF (.cond (.t 18) .skip (.exit 0)) s1) _ = _ ∧ _
  rw [x_icond _ _ k3, if_pos rfl, x_iskip]
  show ∃ st', bo (runIC C LF (.block 1 b1) s1) _ = _ ∧ _
  rw [x_iblock, hb1]
  cases hnm : nameB c.toNat (decide (i = 0)) with
  | false =>
    refine ⟨_, rfl, hrows, hnx, fun h => (by cases h), fun _ => ?_⟩
    rw [T.get_set, if_pos rfl]
  | true =>
    obtain ⟨tm5, rows5, nx5⟩ := s5
    simp only at keep hrows hnx
    have w17 := (keep 17 (by simp)).trans t17
    have w15 := (keep 15 (by simp)).trans t15
    have w16 := (keep 16 (by simp)).trans t16
    show ∃ st', runIC C LF (.ops [⟨none, 56, .binI .add, [.t 17, .c (.int .i64 (.ofNat 1))]⟩, ⟨none, 17, .mv, [.t 56]⟩]) ⟨tm5, rows5, nx5⟩ = _ ∧ _
    have hadd := fun rows nx => y_add1 (C := C) (rows := rows) (nx := nx) i (by omega)
    simp only [x_ops_nil, x_ops, x_g, s_g, x_nil, x_cons, x_c, s_ev, x_bo, x_gd, x_mv, s_box, s_store2, s_put2, s_asCells, s_load, s_idx, s_ext, s_build2, s_lookup, s_update, s_lenM, y_lss, y_gtr, y_eql, y_neq, y_leq, y_eqS, y_lenStr, y_toBytes, y_idxSl, y_fieldAddr, x_lenS, x_not, x_pick, s_rd1, s_rd2, s_mp1, s_mp2, s_want, y_wantU, s_b1, s_b2, s_cond, s_stA, s_stI, s_ceA, x_iops, x_iseq, s_icond, x_iblock, x_iexit, x_iret, x_iskip, T.get_set, Option.getD_some, reduceIte, Nat.reduceEqDiff, eq_self, if_true, if_false, List.getElem?_cons_zero, List.getElem?_cons_succ, Option.getD_none, Option.isSome_some, Option.isSome_none, beq_self_eq_true, Nat.reduceLT, Nat.reduceMul, Nat.reduceAdd, Nat.zero_add, Nat.one_mul, Nat.zero_mul, Bool.false_eq_true, Bool.not_false, Bool.not_true, decide_true, decide_false, w17, hadd]
    refine ⟨_, rfl, hrows, hnx, fun _ => ⟨?_, ?_, ?_, ?_⟩, fun h => by cases h⟩
    · simp only [T.get_set, Nat.reduceEqDiff, if_true, if_false, reduceIte, w15]
    · simp only [T.get_set, Nat.reduceEqDiff, if_true, if_false, reduceIte, w16]
    · simp only [T.get_set, Nat.reduceEqDiff, if_true, if_false, reduceIte]
    · simp only; rw [hrows]; exact row

theorem over {C : CallF} {LF id n : Nat} {s : List UInt8} {st : St} (h : At id n n s st) : ∃ st', runIC C LF lp st = some ⟨.exit 0, st'⟩ ∧ st'.rows = st.rows ∧ st'.nx = st.nx := by
  obtain ⟨t15, t16, t17, row⟩ := h
  obtain ⟨tm, rows, nx⟩ := st
  simp only at t15 t16 t17 row
  have hlt : decide (Int.ofNat n < Int.ofNat n) = false := decide_eq_false (by omega)
  unfold lp
  simp only [I.I54, IC.rgt, IC.lft, IC.bod]
  simp only [x_ops_nil, x_ops, x_g, s_g, x_nil, x_cons, x_c, s_ev, x_bo, x_gd, x_mv, s_box, s_store2, s_put2, s_asCells, s_load, s_idx, s_ext, s_build2, s_lookup, s_update, s_lenM, y_lss, y_gtr, y_eql, y_neq, y_leq, y_eqS, y_lenStr, y_toBytes, y_idxSl, y_fieldAddr, x_lenS, x_not, x_pick, s_rd1, s_rd2, s_mp1, s_mp2, s_want, y_wantU, s_b1, s_b2, s_cond, s_stA, s_stI, s_ceA, x_iops, x_iseq, s_icond, x_iblock, x_iexit, x_iret, x_iskip, T.get_set, Option.getD_some, reduceIte, Nat.reduceEqDiff, eq_self, if_true, if_false, List.getElem?_cons_zero, List.getElem?_cons_succ, Option.getD_none, Option.isSome_some, Option.isSome_none, beq_self_eq_true, Nat.reduceLT, Nat.reduceMul, Nat.reduceAdd, Nat.zero_add, Nat.one_mul, Nat.zero_mul, Bool.false_eq_true, Bool.not_false, Bool.not_true, decide_true, decide_false, t16, t17, hlt]
  exact ⟨_, rfl, rfl, rfl⟩

theorem loop {C : CallF} {LF id n : Nat} {s : List UInt8} (hs : s.length = n) (hn : n < 1000000) : ∀ (m i k : Nat) (st : St), At id n i s st → i + m = n → m < k →
    ∃ st', iter (runIC C LF lp) k st = some ⟨if nmFrom i (s.drop i) = true then .exit 0 else .ret, st'⟩ ∧ st'.rows = st.rows ∧ st'.nx = st.nx ∧ (nmFrom i (s.drop i) = false → st'.tm.get 2 = some (.bool false)) := by
  intro m
  induction m with
  | zero =>
    intro i k st h him hk
    obtain ⟨k, rfl⟩ : ∃ k', k = k' + 1 := ⟨k - 1, by omega⟩
    have : i = n := by omega
    subst this
    obtain ⟨st', h1, h2, h3⟩ := over (C := C) (LF := LF) h
    have hd : s.drop i = [] := List.drop_eq_nil_of_le (by omega)
    refine ⟨st', ?_, h2, h3, fun hh => by rw [hd] at hh; cases hh⟩
    rw [x_iter, h1, hd]; rfl
  | succ m ih =>
    intro i k st h him hk
    obtain ⟨k, rfl⟩ : ∃ k', k = k' + 1 := ⟨k - 1, by omega⟩
    have hi : i < s.length := by omega
    obtain ⟨st1, h1, h2, h3, h4, h5⟩ := round (C := C) (LF := LF) h (by omega) hn (c := s[i]) (by simp [hi])
    have hd : s.drop i = s[i] :: s.drop (i + 1) := List.drop_eq_getElem_cons hi
    rw [hd]
    show ∃ st', _ ∧ _ ∧ _ ∧ _
    cases hb : nameB s[i].toNat (decide (i = 0)) with
    | false =>
      rw [hb] at h1
      refine ⟨st1, ?_, h2, h3, fun _ => h5 hb⟩
      rw [x_iter, h1]
      simp only [nmFrom, hb, Bool.false_and, Bool.false_eq_true, if_false]
      rfl
    | true =>
      rw [hb] at h1
      obtain ⟨st', g1, g2, g3, g4⟩ := ih (i + 1) k st1 (h4 hb) (by omega) (by omega)
      refine ⟨st', ?_, g2.trans h2, g3.trans h3, fun hh => g4 (by simpa [nmFrom, hb] using hh)⟩
      rw [x_iter, h1]
      simp only [nmFrom, hb, Bool.true_and]
      exact g1
end Ev.Nm
end

/- A name, as the program sees it: the call. -/
section
namespace Ev.Nm
open Go Ev

noncomputable def rowsN (s : List UInt8) (rows : T ARow) (nx : Nat) : T ARow := if nameL s = true then rows else rows.set nx (some (.cells 0 (bytesAV s)))
def nxN (s : List UInt8) (nx : Nat) : Nat := if nameL s = true then nx else nx + 1

theorem body {C : CallF} {LF : Nat} {s : List UInt8} {rows : T ARow} {nx : Nat} (hLF : 40 < LF) :
    ∃ s', runIC C LF I.I54.body ⟨argsT [.str s] 0 .nil, rows, nx⟩ = some ⟨.ret, s'⟩ ∧ s'.tm.get 2 = some (.bool (nameV s)) ∧ s'.rows = rowsN s rows nx ∧ s'.nx = nxN s nx := by
  have h0 : (argsT [.str s] 0 .nil).get 0 = some (.str s) := rfl
  generalize argsT [.str s] 0 .nil = tm at h0
  obtain ⟨s1, e1, k1, k2, k13, k0⟩ : ∃ s1, runIC C LF (IC.lft I.I54.body) ⟨tm, rows, nx⟩ = some ⟨.normal, s1⟩ ∧ s1.rows = rows ∧ s1.nx = nx ∧ True ∧ s1.tm.get 0 = some (.str s) := by
    simp only [I.I54, IC.lft]
    simp only [x_ops_nil, x_ops, x_g, s_g, x_nil, x_cons, x_c, s_ev, x_bo, x_gd, x_mv, s_box, s_store2, s_put2, s_asCells, s_load, s_idx, s_ext, s_build2, s_lookup, s_update, s_lenM, y_lss, y_gtr, y_eql, y_neq, y_leq, y_eqS, y_lenStr, y_toBytes, y_idxSl, y_fieldAddr, x_lenS, x_not, x_pick, s_rd1, s_rd2, s_mp1, s_mp2, s_want, y_wantU, s_b1, s_b2, s_cond, s_stA, s_stI, s_ceA, x_iops, x_iseq, s_icond, x_iblock, x_iexit, x_iret, x_iskip, T.get_set, Option.getD_some, reduceIte, Nat.reduceEqDiff, eq_self, if_true, if_false, List.getElem?_cons_zero, List.getElem?_cons_succ, Option.getD_none, Option.isSome_some, Option.isSome_none, beq_self_eq_true, Nat.reduceLT, Nat.reduceMul, Nat.reduceAdd, Nat.zero_add, Nat.one_mul, Nat.zero_mul, Bool.false_eq_true, Bool.not_false, Bool.not_true, decide_true, decide_false]
    refine ⟨_, rfl, rfl, rfl, trivial, ?_⟩
    simp only [T.get_set, Nat.reduceEqDiff, if_true, if_false, reduceIte, h0]
  obtain ⟨s2, e2, m1, m2, m13, m0⟩ : ∃ s2, runIC C LF (IC.lft (IC.lft (IC.rgt I.I54.body))) s1 = some ⟨.normal, s2⟩ ∧ s2.rows = rows ∧ s2.nx = nx ∧ s2.tm.get 13 = some (.bool (nameL s)) ∧ s2.tm.get 0 = some (.str s) := by
    obtain ⟨tm1, rows1, nx1⟩ := s1
    simp only at k0 k1 k2
    subst k1; subst k2
    have q1 : decide (Int.ofNat 32 < Int.ofNat s.length) = decide (32 < s.length) := by
      by_cases h : 32 < s.length
      · rw [decide_eq_true h]; exact decide_eq_true (by simp only [Int.ofNat_eq_natCast]; omega)
      · rw [decide_eq_false h]; exact decide_eq_false (by simp only [Int.ofNat_eq_natCast]; omega)
    simp only [I.I54, IC.rgt, IC.lft]
    unfold nameL
    rw [← q1]
    cases a1 : decide (s = []) <;> cases a2 : decide (Int.ofNat 32 < Int.ofNat s.length) <;>
    · simp only [x_ops_nil, x_ops, x_g, s_g, x_nil, x_cons, x_c, s_ev, x_bo, x_gd, x_mv, s_box, s_store2, s_put2, s_asCells, s_load, s_idx, s_ext, s_build2, s_lookup, s_update, s_lenM, y_lss, y_gtr, y_eql, y_neq, y_leq, y_eqS, y_lenStr, y_toBytes, y_idxSl, y_fieldAddr, x_lenS, x_not, x_pick, s_rd1, s_rd2, s_mp1, s_mp2, s_want, y_wantU, s_b1, s_b2, s_cond, s_stA, s_stI, s_ceA, x_iops, x_iseq, s_icond, x_iblock, x_iexit, x_iret, x_iskip, T.get_set, Option.getD_some, reduceIte, Nat.reduceEqDiff, eq_self, if_true, if_false, List.getElem?_cons_zero, List.getElem?_cons_succ, Option.getD_none, Option.isSome_some, Option.isSome_none, beq_self_eq_true, Nat.reduceLT, Nat.reduceMul, Nat.reduceAdd, Nat.zero_add, Nat.one_mul, Nat.zero_mul, Bool.false_eq_true, Bool.not_false, Bool.not_true, decide_true, decide_false, k0, a1, a2]
      refine ⟨_, rfl, rfl, rfl, ?_⟩
      simp only [T.get_set, Nat.reduceEqDiff, if_true, if_false, reduceIte, k0, Bool.or_true, Bool.or_false, and_self]
  have hI : ∀ st, runIC C LF I.I54.body st = bo (runIC C LF (IC.lft I.I54.body) st) fun x => match x.e with | .normal => bo (bo (runIC C LF (IC.lft (IC.lft (IC.rgt I.I54.body))) x.s) fun x => match x.e with | .normal => runIC C LF (.cond (.t 13) (.seq (.ops [⟨none, 2, .mv, [.c (.bool false)]⟩]) .ret) .skip) x.s | e => some ⟨e, x.s⟩) (fun x => match x.e with | .normal => bo (bo (runIC C LF (IC.lft (IC.lft (IC.rgt (IC.rgt I.I54.body)))) x.s) fun x => match x.e with | .normal => runIC C LF (.block 0 (.loop lp)) x.s | e => some ⟨e, x.s⟩) (fun x => match x.e with | .normal => runIC C LF (.seq (.ops [⟨none, 2, .mv, [.c (.bool true)]⟩]) .ret) x.s | e => some ⟨e, x.s⟩) | e => some ⟨e, x.s⟩) | e => some ⟨e, x.s⟩ := fun _ => rfl
  rw [hI, e1]
  show ∃ s', bo (bo (runIC C LF (IC.lft (IC.lft (IC.rgt I.I54.body))) s1) _) _ = _ ∧ _
  rw [e2]
  show ∃ s', bo (runIC C LF (.cond (.t 13) (.seq (.ops [⟨none, 2, .mv, [.c (.bool false)]⟩]) .ret) .skip) s2) _ = _ ∧ _
  rw [x_icond _ _ m13]
  cases hL : nameL s with
  | true =>
    refine ⟨_, rfl, ?_, ?_, ?_⟩
    · rw [T.get_set, if_pos rfl]
      have : nameV s = false := by
        unfold nameL at hL
        unfold nameV
        cases h1 : decide (s = []) with
        | true => rfl
        | false =>
          rw [h1] at hL
          simp only [Bool.false_or] at hL
          rw [hL]; rfl
      rw [this]; rfl
    · unfold rowsN; rw [hL, if_pos rfl]; exact m1
    · unfold nxN; rw [hL, if_pos rfl]; exact m2
  | false =>
    have hs : s ≠ [] ∧ s.length ≤ 32 := by
      unfold nameL at hL
      simp only [Bool.or_eq_false_iff, decide_eq_false_iff_not] at hL
      exact ⟨hL.1, by omega⟩
    have hV : nameV s = nmFrom 0 s := by
      unfold nameV
      rw [decide_eq_false hs.1, decide_eq_false (by omega)]; rfl
    obtain ⟨s3, e3, p1, p2, p15, p16, p17⟩ : ∃ s3, runIC C LF (IC.lft (IC.lft (IC.rgt (IC.rgt I.I54.body)))) s2 = some ⟨.normal, s3⟩ ∧ s3.rows = rows.set nx (some (.cells 0 (bytesAV s))) ∧ s3.nx = nx + 1 ∧ s3.tm.get 15 = some (.slice nx 0 s.length (.op 1)) ∧ s3.tm.get 16 = some (.int .i64 (.ofNat s.length)) ∧ s3.tm.get 17 = some (.int .i64 (.ofNat 0)) := by
      obtain ⟨tm1, rows1, nx1⟩ := s2
      simp only at m0 m1 m2
      subst m1; subst m2
      simp only [I.I54, IC.rgt, IC.lft]
      simp only [x_ops_nil, x_ops, x_g, s_g, x_nil, x_cons, x_c, s_ev, x_bo, x_gd, x_mv, s_box, s_store2, s_put2, s_asCells, s_load, s_idx, s_ext, s_build2, s_lookup, s_update, s_lenM, y_lss, y_gtr, y_eql, y_neq, y_leq, y_eqS, y_lenStr, y_toBytes, y_idxSl, y_fieldAddr, x_lenS, x_not, x_pick, s_rd1, s_rd2, s_mp1, s_mp2, s_want, y_wantU, s_b1, s_b2, s_cond, s_stA, s_stI, s_ceA, x_iops, x_iseq, s_icond, x_iblock, x_iexit, x_iret, x_iskip, T.get_set, Option.getD_some, reduceIte, Nat.reduceEqDiff, eq_self, if_true, if_false, List.getElem?_cons_zero, List.getElem?_cons_succ, Option.getD_none, Option.isSome_some, Option.isSome_none, beq_self_eq_true, Nat.reduceLT, Nat.reduceMul, Nat.reduceAdd, Nat.zero_add, Nat.one_mul, Nat.zero_mul, Bool.false_eq_true, Bool.not_false, Bool.not_true, decide_true, decide_false, m0]
      refine ⟨_, rfl, rfl, rfl, ?_⟩
      simp only [T.get_set, Nat.reduceEqDiff, if_true, if_false, reduceIte, and_self]
    show ∃ s', bo (bo (runIC C LF (IC.lft (IC.lft (IC.rgt (IC.rgt I.I54.body)))) s2) _) _ = _ ∧ _
    rw [e3]
    show ∃ s', bo (runIC C LF (.block 0 (.loop lp)) s3) _ = _ ∧ _
    rw [x_iblock, x_iloop]
    obtain ⟨s4, g1, g2, g3, g4⟩ := loop (C := C) (LF := LF) (id := nx) (n := s.length) (s := s) rfl (by omega) s.length 0 LF s3 ⟨p15, p16, p17, by rw [p1, T.get_set, if_pos rfl]⟩ (by omega) (by omega)
    simp only [List.drop_zero] at g1 g4
    rw [g1, hV]
    have hr : s4.rows = rowsN s rows nx := by unfold rowsN; rw [hL, if_neg (by simp), g2, p1]
    have hn : s4.nx = nxN s nx := by unfold nxN; rw [hL, if_neg (by simp), g3, p2]
    cases hb : nmFrom 0 s with
    | true =>
      refine ⟨_, rfl, ?_, hr, hn⟩
      rw [T.get_set, if_pos rfl]; rfl
    | false => exact ⟨_, rfl, g4 hb, hr, hn⟩

theorem call {C : CallF} {LF : Nat} {s : List UInt8} {rows : T ARow} {nx : Nat} (hLF : 40 < LF) : evFn C LF I.I54 [.str s] rows nx = some ⟨.bool (nameV s), rowsN s rows nx, nxN s nx⟩ := by
  obtain ⟨s', h1, h2, h3, h4⟩ := body (C := C) (LF := LF) (s := s) (rows := rows) (nx := nx) hLF
  show retFn I.I54 (runIC C LF I.I54.body ⟨argsT [.str s] 0 .nil, rows, nx⟩) = _
  rw [h1]
  show bo (bo (some ((Opd.t 2).ev s'.tm)) fun v => bo (some []) fun r => some (v :: r)) (fun l => (match l with
    | [v] => some (R.mk v s'.rows s'.nx)
    | l => some (R.mk (.tup l) s'.rows s'.nx))) = _
  rw [s_ev, h2, h3, h4]
  rfl
end Ev.Nm
end

/- The tops of a log. -/
section
namespace Ev.Tp
open Go Ev
set_option maxRecDepth 100000
set_option maxHeartbeats 1000000

def topsF : List S → List S → List Iv → List S × List S
  | us, ds, [] => (us, ds)
  | us, ds, x :: l => if decide (x.u ∈ us) = true then topsF us ds l else topsF (us ++ [x.u]) (ds ++ [x.f]) l

theorem SlV.rd1 {rows : T ARow} {nx n : Nat} {v : AV} {l : List S} (h : SlV rows nx 1 n v (strs l)) : n = l.length := by
  have := h.rd.1
  simp [strs] at this; omega

theorem tops_run {C : CallF} {LF nx0 : Nat} {rows : T ARow} {nx : Nat} {v : AV} {l : List Iv} (h : RdV rows nx0 3 l.length v (encL l)) (hnx : nx0 ≤ nx) (hl : l.length ≤ 200) (hLF : 200 < LF)
    (hLog : oR (C (.f 29) [v] rows nx) fun r rows' nx' => r = .int .i64 (.ofNat 0) ∧ Keep rows nx rows' nx')
    (hCn : ∀ v' (us : List S) x rows nx, RdV rows nx 1 us.length v' (strs us) → us.length ≤ 200 → C (.f 37) [v', .str x] rows nx = some ⟨.bool (decide (x ∈ us)), rows, nx⟩) :
    oR (evFn C LF I.I10 [v] rows nx) fun r rows' nx' => ∃ vu vd, r = .tup [vu, vd, .int .i64 (.ofNat 0)] ∧ SlV rows' nx' 1 (topsF [] [] l).1.length vu (strs (topsF [] [] l).1) ∧ SlV rows' nx' 1 (topsF [] [] l).2.length vd (strs (topsF [] [] l).2) ∧ Keep rows nx rows' nx' := by
  refine fn_w rfl ?_
  have h0 : (argsT [v] 0 .nil).get 0 = some v := rfl
  generalize argsT [v] 0 .nil = tm at h0
  have hlen := fun rows' nx' => h.len (C := C) (rows' := rows') (nx' := nx')
  obtain ⟨⟨r1, rows1, nx1⟩, hL, hr1, hK1⟩ := hLog
  simp only at hr1 hK1
  subst hr1
  simp only [I.I10]
  simp only [w_nil, w_cons, w_g, w_gt, w_if1, w_if0, w_k, w_set, w_ops, w_kN, w_seq, w_seqN, w_seqR, w_seqE, w_block, w_blkN, w_blkR, w_blkE, w_lpN, w_lpR, w_lpE, w_exit, w_ret, w_skip, w_cond, w_cT, w_cF, w_res, w_resN, w_ret1, w_ret2, w_ret3, r_res0, r_resT, oR_some, oW_some, x_nil, x_cons, x_c, s_ev, x_bo, x_gd, x_mv, s_box, s_stA, s_ceA, z_store3, z_put3, s_asCells, s_load, z_loadO, s_rd1, s_rd2, s_ext, x_not, x_pick, s_wantT, s_wantF, Bool.not_not, y_wantU, s_cond, n_lss, n_leq, n_gtr, n_geq, n_eql, n_neq, y_eqS, y_neqS, y_lenStr, y_idxSl, y_fieldAddr, y_call, x_lenS, w_lenN, y_build3, y_lit3, y_litS, w_draw, dr_nil, dr_cons, dr_end, dk_p, dk_l, dk_lT, dk_a, dk_c, du_p, du_l, du_a, du_c, dr_n, dr_g, dr_kP, dr_kL, dr_kA, dr_kA2, dr_kC, d_lg, d_ac0, d_acc, d_accS, d_find, d_chk, d_all0, d_all1, d_one, d_chkV, d_sameS, dr_ok, Bool.or_true, Bool.or_false, Bool.true_or, Bool.false_or, Nat.reduceLeDiff, T.get_set, Option.getD_some, reduceIte, Nat.reduceEqDiff, eq_self, if_true, if_false, List.getElem?_cons_zero, List.getElem?_cons_succ, Option.getD_none, beq_self_eq_true, Nat.reduceLT, Nat.reduceMul, Nat.reduceAdd, Nat.zero_add, Nat.mul_one, Nat.one_mul, Nat.zero_mul, Bool.false_eq_true, Bool.not_false, Bool.not_true, Bool.and_true, Bool.and_false, Bool.true_and, Bool.false_and, decide_true, decide_false, h0, hL, hlen]
  refine w_loop (fun k s => ∃ i us ds vu vd, i + k = l.length ∧ topsF us ds (l.drop i) = topsF [] [] l ∧ us.length ≤ i ∧ ds.length = us.length ∧ SlV s.rows s.nx 1 us.length vu (strs us) ∧ SlV s.rows s.nx 1 ds.length vd (strs ds) ∧ (∀ b, blkOf vu = some b → nx ≤ b) ∧ (∀ b, blkOf vd = some b → nx ≤ b) ∧ (∀ b c, blkOf vu = some b → blkOf vd = some c → b ≠ c) ∧ Keep rows nx s.rows s.nx ∧
    s.tm.get 13 = some v ∧ s.tm.get 14 = some (.int .i64 (.ofNat l.length)) ∧ s.tm.get 15 = some (.int .i64 (.ofNat i)) ∧ s.tm.get 2 = some vu ∧ s.tm.get 3 = some vd) l.length (by omega) ?_ ?_
  · refine ⟨0, [], [], .nil .slice, .nil .slice, by omega, rfl, by simp, rfl, .inl ⟨rfl, rfl, rfl⟩, .inl ⟨rfl, rfl, rfl⟩, ?_, ?_, ?_, hK1, ?_, ?_, ?_, ?_, ?_⟩
    · intro b hb; cases hb
    · intro b hb; cases hb
    · intro b c hb; cases hb
    all_goals simp only [T.get_set, Nat.reduceEqDiff, if_true, if_false, reduceIte, h0]
  · rintro k ⟨tm, rows', nx'⟩ ⟨i, us, ds, vu, vd, hik, hT, hul, hdl, hSu, hSd, hbu, hbd, hbc, hK, g13, g14, g15, g2, g3⟩
    simp only at hSu hSd hK g13 g14 g15 g2 g3
    by_cases hi : i < l.length
    · have hd1 : decide (i < l.length) = true := decide_eq_true hi
      obtain ⟨b, o, hb, hix, hld, _⟩ := h.at (C := C) hi
      have hli : l[i]? = some l[i] := List.getElem?_eq_getElem hi
      have hld := fun nx' => hld _ rows' nx' (hK.2 b (by omega)) (encL_get l i _ hli)
      have hdrop : l.drop i = l[i] :: l.drop (i + 1) := List.drop_eq_getElem_cons hi
      rw [hdrop] at hT
      generalize hx : l[i] = x at *
      obtain ⟨u, f, t⟩ := x
      simp only [encI] at hld
      have hadd := fun rows nx => n_add (C := C) (rows := rows) (nx := nx) .i64 i 1 (by show _ < 9223372036854775808; omega)
      generalize hR : ((rows'.set nx' (some (.cells 34 [.str [], .str [], .str []]))).set nx' (some (.cells 34 [.str u, .str f, .str t]))) = R2
      have hKR : Keep rows' nx' R2 (nx' + 1) := by rw [← hR]; exact ((Keep.refl _ _).set (Nat.le_refl _) (Nat.le_refl _)).set (Nat.le_refl _) (Nat.le_succ _)
      have hRg : R2.get nx' = some (.cells 34 [.str u, .str f, .str t]) := by rw [← hR, T.get_set, if_pos rfl]
      have hK2 : Keep rows nx R2 (nx' + 1) := hK.trans hKR
      have hSu2 : SlV R2 (nx' + 1) 1 us.length vu (strs us) := hSu.mono (Nat.le_succ _) fun b _ hb => hKR.2 b hb
      have hSd2 : SlV R2 (nx' + 1) 1 ds.length vd (strs ds) := hSd.mono (Nat.le_succ _) fun b _ hb => hKR.2 b hb
      have hcn := hCn vu us u R2 (nx' + 1) hSu2.rd (by omega)
      simp only [topsF] at hT
      simp only [w_nil, w_cons, w_g, w_gt, w_if1, w_if0, w_k, w_set, w_ops, w_kN, w_seq, w_seqN, w_seqR, w_seqE, w_block, w_blkN, w_blkR, w_blkE, w_lpN, w_lpR, w_lpE, w_exit, w_ret, w_skip, w_cond, w_cT, w_cF, w_res, w_resN, w_ret1, w_ret2, w_ret3, r_res0, r_resT, oR_some, oW_some, x_nil, x_cons, x_c, s_ev, x_bo, x_gd, x_mv, s_box, s_stA, s_ceA, z_store3, z_put3, s_asCells, s_load, z_loadO, s_rd1, s_rd2, s_ext, x_not, x_pick, s_wantT, s_wantF, Bool.not_not, y_wantU, s_cond, n_lss, n_leq, n_gtr, n_geq, n_eql, n_neq, y_eqS, y_neqS, y_lenStr, y_idxSl, y_fieldAddr, y_call, x_lenS, w_lenN, y_build3, y_lit3, y_litS, w_draw, dr_nil, dr_cons, dr_end, dk_p, dk_l, dk_lT, dk_a, dk_c, du_p, du_l, du_a, du_c, dr_n, dr_g, dr_kP, dr_kL, dr_kA, dr_kA2, dr_kC, d_lg, d_ac0, d_acc, d_accS, d_find, d_chk, d_all0, d_all1, d_one, d_chkV, d_sameS, dr_ok, Bool.or_true, Bool.or_false, Bool.true_or, Bool.false_or, Nat.reduceLeDiff, T.get_set, Option.getD_some, reduceIte, Nat.reduceEqDiff, eq_self, if_true, if_false, List.getElem?_cons_zero, List.getElem?_cons_succ, Option.getD_none, beq_self_eq_true, Nat.reduceLT, Nat.reduceMul, Nat.reduceAdd, Nat.zero_add, Nat.mul_one, Nat.one_mul, Nat.zero_mul, Bool.false_eq_true, Bool.not_false, Bool.not_true, Bool.and_true, Bool.and_false, Bool.true_and, Bool.false_and, decide_true, decide_false, g13, g14, g15, g2, hd1, hix, hld, hR, hRg, hcn]
      refine w_cN (fun q => ?_) (fun q => ?_)
      · -- a new unit
        have hub : ∀ b, blkOf vu = some b → b < nx' := fun b hb => hSu.blk hb
        have hdb : ∀ b, blkOf vd = some b → b < nx' := fun b hb => hSd.blk hb
        -- the first append
        obtain ⟨t1, ha1⟩ := SlV.append (C := C) (rows := R2.set (nx' + 1 + 3) (some (.cells 0 [.str u]))) (nx0 := nx' + 1) (nx := nx' + 1 + 12) (bytes := 16) (t := 10) (n := us.length) (s := nx' + 1 + 3) (v := vu) (l := strs us) (src := [.str u]) (g := 0)
          (hSu2.mono (Nat.le_refl _) fun b _ hb => by rw [T.get_set, if_neg (by omega)]) (by omega) (by rw [T.get_set, if_pos rfl]) rfl (by omega) (by omega) (by omega)
        generalize hR3 : R2.set (nx' + 1 + 3) (some (.cells 0 [.str u])) = R3 at ha1
        have hR3g : R3.get (nx' + 1 + 3) = some (.cells 0 [.str u]) := by rw [← hR3, T.get_set, if_pos rfl]
        have hK3 : Keep R2 (nx' + 1) R3 (nx' + 1 + 12) := by rw [← hR3]; exact (Keep.refl _ _).set (by omega) (by omega)
        generalize hR4 : (appRows vu R3).set (nx' + 1 + 12) (some (.cells t1 (strs us ++ [.str u]))) = R4 at ha1
        have hR4g : ∀ b, b < nx' + 1 → blkOf vu ≠ some b → R4.get b = R2.get b := fun b hb hv => by
          rw [← hR4, T.get_set, if_neg (by omega), appRows_get hv]
          exact hK3.2 b hb
        have hR4x : R4.get nx' = some (.cells 34 [.str u, .str f, .str t]) := by
          rw [hR4g nx' (by omega) (fun e => by have := hub _ e; omega)]; exact hRg
        have hSd4 : SlV R4 (nx' + 1) 1 ds.length vd (strs ds) := hSd2.mono (Nat.le_refl _) fun b hb hlt => hR4g b hlt fun e => hbc b b e hb rfl
        obtain ⟨t2, ha2⟩ := SlV.append (C := C) (rows := R4.set (nx' + 1 + 8) (some (.cells 0 [.str f]))) (nx0 := nx' + 1) (nx := nx' + 1 + 12 + 1) (bytes := 16) (t := 32) (n := ds.length) (s := nx' + 1 + 8) (v := vd) (l := strs ds) (src := [.str f]) (g := 0)
          (hSd4.mono (Nat.le_refl _) fun b _ hb => by rw [T.get_set, if_neg (by omega)]) (by omega) (by rw [T.get_set, if_pos rfl]) rfl (by omega) (by omega) (by omega)
        generalize hR5 : R4.set (nx' + 1 + 8) (some (.cells 0 [.str f])) = R5 at ha2
        have hR5g : R5.get (nx' + 1 + 8) = some (.cells 0 [.str f]) := by rw [← hR5, T.get_set, if_pos rfl]
        generalize hR6 : (appRows vd R5).set (nx' + 1 + 12 + 1) (some (.cells t2 (strs ds ++ [.str f]))) = R6 at ha2
        have hR6u : R6.get (nx' + 1 + 12) = some (.cells t1 (strs us ++ [.str u])) := by
          rw [← hR6, T.get_set, if_neg (by omega), appRows_get (fun e => by have := hdb _ e; omega), ← hR5, T.get_set, if_neg (by omega), ← hR4, T.get_set, if_pos rfl]
        have hR6d : R6.get (nx' + 1 + 12 + 1) = some (.cells t2 (strs ds ++ [.str f])) := by rw [← hR6, T.get_set, if_pos rfl]
        have hK6 : Keep rows nx R6 (nx' + 1 + 12 + 1 + 1) := by
          have k1 : Keep rows nx R4 (nx' + 1 + 12 + 1) := by
            rw [← hR4]
            exact ((hK2.trans (hK3.up (Nat.le_refl _))).app hbu).set (by have := hK.1; omega) (by omega)
          rw [← hR6]
          refine (Keep.app ?_ hbd).set (by have := hK.1; omega) (Nat.le_succ _)
          rw [← hR5]
          exact k1.set (by have := hK.1; omega) (Nat.le_refl _)
        simp only [w_nil, w_cons, w_g, w_gt, w_if1, w_if0, w_k, w_set, w_ops, w_kN, w_seq, w_seqN, w_seqR, w_seqE, w_block, w_blkN, w_blkR, w_blkE, w_lpN, w_lpR, w_lpE, w_exit, w_ret, w_skip, w_cond, w_cT, w_cF, w_res, w_resN, w_ret1, w_ret2, w_ret3, r_res0, r_resT, oR_some, oW_some, x_nil, x_cons, x_c, s_ev, x_bo, x_gd, x_mv, s_box, s_stA, s_ceA, z_store3, z_put3, s_asCells, s_load, z_loadO, s_rd1, s_rd2, s_ext, x_not, x_pick, s_wantT, s_wantF, Bool.not_not, y_wantU, s_cond, n_lss, n_leq, n_gtr, n_geq, n_eql, n_neq, y_eqS, y_neqS, y_lenStr, y_idxSl, y_fieldAddr, y_call, x_lenS, w_lenN, y_build3, y_lit3, y_litS, w_draw, dr_nil, dr_cons, dr_end, dk_p, dk_l, dk_lT, dk_a, dk_c, du_p, du_l, du_a, du_c, dr_n, dr_g, dr_kP, dr_kL, dr_kA, dr_kA2, dr_kC, d_lg, d_ac0, d_acc, d_accS, d_find, d_chk, d_all0, d_all1, d_one, d_chkV, d_sameS, dr_ok, Bool.or_true, Bool.or_false, Bool.true_or, Bool.false_or, Nat.reduceLeDiff, T.get_set, Option.getD_some, reduceIte, Nat.reduceEqDiff, eq_self, if_true, if_false, List.getElem?_cons_zero, List.getElem?_cons_succ, Option.getD_none, beq_self_eq_true, Nat.reduceLT, Nat.reduceMul, Nat.reduceAdd, Nat.zero_add, Nat.mul_one, Nat.one_mul, Nat.zero_mul, Bool.false_eq_true, Bool.not_false, Bool.not_true, Bool.and_true, Bool.and_false, Bool.true_and, Bool.false_and, decide_true, decide_false, q, g2, g3, g15, hRg, hR3, hR3g, ha1, hR4x, hR5, hR5g, ha2, hadd]
        refine ⟨k - 1, by omega, i + 1, us ++ [u], ds ++ [f], _, _, by omega, ?_, ?_, ?_, .inr ⟨?_, ?_, nx' + 1 + 12, t1, rfl, ?_, ?_⟩, .inr ⟨?_, ?_, nx' + 1 + 12 + 1, t2, rfl, ?_, ?_⟩, ?_, ?_, ?_, hK6, ?_, ?_, ?_, ?_, ?_⟩
        · rw [← hT, q]; rfl
        · simp; omega
        · simp [hdl]
        · simp
        · simp [strs]
        · omega
        · rw [hR6u]; simp [strs]
        · simp
        · simp [strs]
        · omega
        · rw [hR6d]; simp [strs]
        · intro b hb
          simp only [blkOf, Option.some.injEq] at hb
          have := hK.1; omega
        · intro b hb
          simp only [blkOf, Option.some.injEq] at hb
          have := hK.1; omega
        · intro b c hb hc
          simp only [blkOf, Option.some.injEq] at hb hc
          omega
        all_goals simp only [T.get_set, Nat.reduceEqDiff, if_true, if_false, reduceIte, g13, g14, g2, g3, List.length_append, List.length_singleton]
      · simp only [w_nil, w_cons, w_g, w_gt, w_if1, w_if0, w_k, w_set, w_ops, w_kN, w_seq, w_seqN, w_seqR, w_seqE, w_block, w_blkN, w_blkR, w_blkE, w_lpN, w_lpR, w_lpE, w_exit, w_ret, w_skip, w_cond, w_cT, w_cF, w_res, w_resN, w_ret1, w_ret2, w_ret3, r_res0, r_resT, oR_some, oW_some, x_nil, x_cons, x_c, s_ev, x_bo, x_gd, x_mv, s_box, s_stA, s_ceA, z_store3, z_put3, s_asCells, s_load, z_loadO, s_rd1, s_rd2, s_ext, x_not, x_pick, s_wantT, s_wantF, Bool.not_not, y_wantU, s_cond, n_lss, n_leq, n_gtr, n_geq, n_eql, n_neq, y_eqS, y_neqS, y_lenStr, y_idxSl, y_fieldAddr, y_call, x_lenS, w_lenN, y_build3, y_lit3, y_litS, w_draw, dr_nil, dr_cons, dr_end, dk_p, dk_l, dk_lT, dk_a, dk_c, du_p, du_l, du_a, du_c, dr_n, dr_g, dr_kP, dr_kL, dr_kA, dr_kA2, dr_kC, d_lg, d_ac0, d_acc, d_accS, d_find, d_chk, d_all0, d_all1, d_one, d_chkV, d_sameS, dr_ok, Bool.or_true, Bool.or_false, Bool.true_or, Bool.false_or, Nat.reduceLeDiff, T.get_set, Option.getD_some, reduceIte, Nat.reduceEqDiff, eq_self, if_true, if_false, List.getElem?_cons_zero, List.getElem?_cons_succ, Option.getD_none, beq_self_eq_true, Nat.reduceLT, Nat.reduceMul, Nat.reduceAdd, Nat.zero_add, Nat.mul_one, Nat.one_mul, Nat.zero_mul, Bool.false_eq_true, Bool.not_false, Bool.not_true, Bool.and_true, Bool.and_false, Bool.true_and, Bool.false_and, decide_true, decide_false, g15, hadd]
        refine ⟨k - 1, by omega, i + 1, us, ds, vu, vd, by omega, ?_, by omega, hdl, hSu2, hSd2, hbu, hbd, hbc, hK2, ?_, ?_, ?_, ?_, ?_⟩
        · rw [← hT, q]; rfl
        all_goals simp only [T.get_set, Nat.reduceEqDiff, if_true, if_false, reduceIte, g13, g14, g2, g3]
    · have hd1 : decide (i < l.length) = false := decide_eq_false hi
      rw [List.drop_eq_nil_of_le (by omega)] at hT
      simp only [topsF] at hT
      simp only [w_nil, w_cons, w_g, w_gt, w_if1, w_if0, w_k, w_set, w_ops, w_kN, w_seq, w_seqN, w_seqR, w_seqE, w_block, w_blkN, w_blkR, w_blkE, w_lpN, w_lpR, w_lpE, w_exit, w_ret, w_skip, w_cond, w_cT, w_cF, w_res, w_resN, w_ret1, w_ret2, w_ret3, r_res0, r_resT, oR_some, oW_some, x_nil, x_cons, x_c, s_ev, x_bo, x_gd, x_mv, s_box, s_stA, s_ceA, z_store3, z_put3, s_asCells, s_load, z_loadO, s_rd1, s_rd2, s_ext, x_not, x_pick, s_wantT, s_wantF, Bool.not_not, y_wantU, s_cond, n_lss, n_leq, n_gtr, n_geq, n_eql, n_neq, y_eqS, y_neqS, y_lenStr, y_idxSl, y_fieldAddr, y_call, x_lenS, w_lenN, y_build3, y_lit3, y_litS, w_draw, dr_nil, dr_cons, dr_end, dk_p, dk_l, dk_lT, dk_a, dk_c, du_p, du_l, du_a, du_c, dr_n, dr_g, dr_kP, dr_kL, dr_kA, dr_kA2, dr_kC, d_lg, d_ac0, d_acc, d_accS, d_find, d_chk, d_all0, d_all1, d_one, d_chkV, d_sameS, dr_ok, Bool.or_true, Bool.or_false, Bool.true_or, Bool.false_or, Nat.reduceLeDiff, T.get_set, Option.getD_some, reduceIte, Nat.reduceEqDiff, eq_self, if_true, if_false, List.getElem?_cons_zero, List.getElem?_cons_succ, Option.getD_none, beq_self_eq_true, Nat.reduceLT, Nat.reduceMul, Nat.reduceAdd, Nat.zero_add, Nat.mul_one, Nat.one_mul, Nat.zero_mul, Bool.false_eq_true, Bool.not_false, Bool.not_true, Bool.and_true, Bool.and_false, Bool.true_and, Bool.false_and, decide_true, decide_false, g13, g14, g15, g2, g3, hd1]
      rw [← hT]
      exact ⟨_, _, rfl, hSu, hSd, hK⟩
end Ev.Tp
end

/- The law of tops, as the program runs it. -/
section
namespace Ev.Tp
open Go Ev
set_option maxRecDepth 100000
set_option maxHeartbeats 2000000

/-- The first intervals of their units. -/
def fiF : List Iv → List Iv → List Iv
  | acc, [] => acc
  | acc, x :: l => if decide (x.u ∈ acc.map Iv.u) = true then fiF acc l else fiF (acc ++ [x]) l
theorem topsF_fi : ∀ (acc l : List Iv), topsF (acc.map Iv.u) (acc.map Iv.f) l = ((fiF acc l).map Iv.u, (fiF acc l).map Iv.f)
  | acc, [] => rfl
  | acc, x :: l => by
    unfold topsF fiF
    cases decide (x.u ∈ acc.map Iv.u) with
    | true => simp only [if_true]; exact topsF_fi acc l
    | false =>
      simp only [Bool.false_eq_true, if_false]
      have := topsF_fi (acc ++ [x]) l
      simpa using this
theorem fiF_pre : ∀ (acc l : List Iv) (k : Nat), k < acc.length → (fiF acc l)[k]? = acc[k]?
  | acc, [], k, _ => rfl
  | acc, x :: l, k, h => by
    unfold fiF
    cases decide (x.u ∈ acc.map Iv.u) with
    | true => simp only [if_true]; exact fiF_pre acc l k h
    | false =>
      simp only [Bool.false_eq_true, if_false]
      rw [fiF_pre (acc ++ [x]) l k (by simp; omega), List.getElem?_append_left h]

theorem fiF_len : ∀ (acc l : List Iv), (fiF acc l).length ≤ acc.length + l.length
  | acc, [] => by simp [fiF]
  | acc, x :: l => by
    unfold fiF
    cases decide (x.u ∈ acc.map Iv.u) with
    | true => simp only [if_true]; have := fiF_len acc l; simp; omega
    | false => simp only [Bool.false_eq_true, if_false]; have := fiF_len (acc ++ [x]) l; simp at this; simp; omega

theorem inner_run {C : CallF} {LF : Nat} {nx0 : Nat} {rows : T ARow} {l : List Iv} {b i px : Nat} {t : Nat} {u f e : S} {tm0 : T AV} {rows0 : T ARow} {nx1 : Nat} {Q : QX} (hi : i < l.length) (hl : l.length ≤ 200) (hLF : 200 < LF)
    (hg : rows.get b = some (.cells t (encL l))) (hb : b < nx0) (hpx : px < nx0) (hx : rows.get px = some (.cells 34 [.str u, .str f, .str e]))
    (h47 : tm0.get 47 = some (.slice b 0 i (.op 3))) (h48 : tm0.get 48 = some (.int .i64 (.ofNat i))) (h49 : tm0.get 49 = some (.int .i64 (.ofNat 0))) (h9 : tm0.get 9 = some (.ptr px 0)) (h10 : tm0.get 10 = some (.bool true)) (hK0 : Keep rows nx0 rows0 nx1)
    (hQ : ∀ tm rows' nx', Keep rows nx0 rows' nx' → tm.get 10 = some (.bool (!decide (u ∈ (l.take i).map Iv.u))) → (∀ k, k = 2 ∨ k = 3 ∨ k = 4 ∨ k = 5 ∨ k = 7 ∨ k = 8 ∨ k = 9 ∨ k = 38 ∨ k = 39 ∨ k = 40 → tm.get k = tm0.get k) → Q (.exit 2) ⟨tm, rows', nx'⟩) :
    w C LF (.loop (.seq (.ops [⟨none,50,.binI .lss,[.t 49,.t 48]⟩]) (.seq (.cond (.t 50) (.skip) (.exit 2)) (.seq (.block 3 (.seq (.ops [⟨none,51,.indexSl 3,[.t 47,.t 49]⟩,⟨none,52,.load (.many 3),[.t 51]⟩,⟨none,12,.box 34,[.c (.agg [(.str []),(.str []),(.str [])])]⟩,⟨none,93,.store (.many 3),[.t 12,.t 52]⟩]) (.ops [⟨none,53,.mv,[.t 10]⟩,⟨none,54,.mv,[.t 53]⟩,⟨(some (54,true)),55,.fieldAddr 0,[.t 12]⟩,⟨(some (54,true)),56,.load .one,[.t 55]⟩,⟨(some (54,true)),57,.fieldAddr 0,[.t 9]⟩,⟨(some (54,true)),58,.load .one,[.t 57]⟩,⟨(some (54,true)),59,.binS .neq,[.t 56,.t 58]⟩,⟨none,60,.pick,[.t 54,.t 59,.c (.bool false)]⟩,⟨none,10,.mv,[.t 60]⟩]))) (.ops [⟨none,61,.binI .add,[.t 49,.c (.int .i64 (.ofNat 1))]⟩,⟨none,49,.mv,[.t 61]⟩]))))) Q ⟨tm0, rows0, nx1⟩ := by
  refine w_loop (fun k s => ∃ j, j + k = i ∧ Keep rows nx0 s.rows s.nx ∧ s.tm.get 47 = some (.slice b 0 i (.op 3)) ∧ s.tm.get 48 = some (.int .i64 (.ofNat i)) ∧ s.tm.get 49 = some (.int .i64 (.ofNat j)) ∧ s.tm.get 10 = some (.bool (!decide (u ∈ (l.take j).map Iv.u))) ∧ (∀ k, k = 2 ∨ k = 3 ∨ k = 4 ∨ k = 5 ∨ k = 7 ∨ k = 8 ∨ k = 9 ∨ k = 38 ∨ k = 39 ∨ k = 40 → s.tm.get k = tm0.get k)) i (by omega) ?_ ?_
  · refine ⟨0, by omega, hK0, h47, h48, h49, ?_, fun _ _ => rfl⟩
    rw [h10]; simp
  · rintro k ⟨tm, rows', nx'⟩ ⟨j, hjk, hK, g47, g48, g49, g10, gk⟩
    simp only at hK g47 g48 g49 g10 gk
    have g9 := (gk 9 (by simp)).trans h9
    by_cases hj : j < i
    · have hd : decide (j < i) = true := decide_eq_true hj
      have hjl : j < l.length := by omega
      have hlj : l[j]? = some l[j] := List.getElem?_eq_getElem hjl
      have hR : RdV rows nx0 3 l.length (.slice b 0 l.length (.op 3)) (encL l) := ⟨encL_len l, .inr ⟨b, 0, _, _, [], rfl, hb, by rw [hg]; rfl, by simp⟩⟩
      obtain ⟨b', o', _, hix', hld', _⟩ := hR.at (C := C) hjl
      have hbo := hix' rows' nx'
      rw [y_idxSl, if_pos hjl] at hbo
      simp only [Option.some.injEq, R.mk.injEq, AV.ptr.injEq, and_true] at hbo
      obtain ⟨rfl, hbo⟩ := hbo
      have hld := fun nx' => hld' _ rows' nx' (hK.2 b hb) (encL_get l j _ hlj)
      rw [← hbo] at hld
      have htk : l.take (j + 1) = l.take j ++ [l[j]] := by rw [List.take_add_one, hlj]; rfl
      generalize hy : l[j] = y at *
      obtain ⟨yu, yf, ye⟩ := y
      simp only [encI, Nat.zero_add] at hld
      have hadd := fun rows nx => n_add (C := C) (rows := rows) (nx := nx) .i64 j 1 (by show _ < 9223372036854775808; omega)
      generalize hR2 : ((rows'.set nx' (some (.cells 34 [.str [], .str [], .str []]))).set nx' (some (.cells 34 [.str yu, .str yf, .str ye]))) = R2
      have hKR : Keep rows' nx' R2 (nx' + 1) := by rw [← hR2]; exact ((Keep.refl _ _).set (Nat.le_refl _) (Nat.le_refl _)).set (Nat.le_refl _) (Nat.le_succ _)
      have hRy : R2.get nx' = some (.cells 34 [.str yu, .str yf, .str ye]) := by rw [← hR2, T.get_set, if_pos rfl]
      have hRx : R2.get px = some (.cells 34 [.str u, .str f, .str e]) := by
        have := hK.1
        rw [hKR.2 px (by omega), hK.2 px hpx]; exact hx
      simp only [w_nil, w_cons, w_g, w_gt, w_if1, w_if0, w_k, w_set, w_ops, w_kN, w_seq, w_seqN, w_seqR, w_seqE, w_block, w_blkN, w_blkR, w_blkE, w_lpN, w_lpR, w_lpE, w_exit, w_ret, w_skip, w_cond, w_cT, w_cF, w_res, w_resN, w_ret1, w_ret2, w_ret3, r_res0, r_resT, oR_some, oW_some, x_nil, x_cons, x_c, s_ev, x_bo, x_gd, x_mv, s_box, s_stA, s_ceA, z_store3, z_put3, s_asCells, s_load, z_loadO, s_rd1, s_rd2, s_ext, x_not, x_pick, s_wantT, s_wantF, Bool.not_not, y_wantU, s_cond, n_lss, n_leq, n_gtr, n_geq, n_eql, n_neq, y_eqS, y_neqS, y_lenStr, y_idxSl, y_fieldAddr, y_call, x_lenS, w_lenN, y_build3, y_lit3, y_litS, w_draw, dr_nil, dr_cons, dr_end, dk_p, dk_l, dk_lT, dk_a, dk_c, du_p, du_l, du_a, du_c, dr_n, dr_g, dr_kP, dr_kL, dr_kA, dr_kA2, dr_kC, d_lg, d_ac0, d_acc, d_accS, d_find, d_chk, d_all0, d_all1, d_one, d_chkV, d_sameS, dr_ok, Bool.or_true, Bool.or_false, Bool.true_or, Bool.false_or, Nat.reduceLeDiff, T.get_set, Option.getD_some, reduceIte, Nat.reduceEqDiff, eq_self, if_true, if_false, List.getElem?_cons_zero, List.getElem?_cons_succ, Option.getD_none, beq_self_eq_true, Nat.reduceLT, Nat.reduceMul, Nat.reduceAdd, Nat.zero_add, Nat.mul_one, Nat.one_mul, Nat.zero_mul, Bool.false_eq_true, Bool.not_false, Bool.not_true, Bool.and_true, Bool.and_false, Bool.true_and, Bool.false_and, decide_true, decide_false, g47, g48, g49, g10, g9, hd, hj, hld, hR2, hRy, hRx, hadd]
      refine w_ifN (fun q => ?_) (fun q => ?_) <;> simp only [w_nil, w_cons, w_g, w_gt, w_if1, w_if0, w_k, w_set, w_ops, w_kN, w_seq, w_seqN, w_seqR, w_seqE, w_block, w_blkN, w_blkR, w_blkE, w_lpN, w_lpR, w_lpE, w_exit, w_ret, w_skip, w_cond, w_cT, w_cF, w_res, w_resN, w_ret1, w_ret2, w_ret3, r_res0, r_resT, oR_some, oW_some, x_nil, x_cons, x_c, s_ev, x_bo, x_gd, x_mv, s_box, s_stA, s_ceA, z_store3, z_put3, s_asCells, s_load, z_loadO, s_rd1, s_rd2, s_ext, x_not, x_pick, s_wantT, s_wantF, Bool.not_not, y_wantU, s_cond, n_lss, n_leq, n_gtr, n_geq, n_eql, n_neq, y_eqS, y_neqS, y_lenStr, y_idxSl, y_fieldAddr, y_call, x_lenS, w_lenN, y_build3, y_lit3, y_litS, w_draw, dr_nil, dr_cons, dr_end, dk_p, dk_l, dk_lT, dk_a, dk_c, du_p, du_l, du_a, du_c, dr_n, dr_g, dr_kP, dr_kL, dr_kA, dr_kA2, dr_kC, d_lg, d_ac0, d_acc, d_accS, d_find, d_chk, d_all0, d_all1, d_one, d_chkV, d_sameS, dr_ok, Bool.or_true, Bool.or_false, Bool.true_or, Bool.false_or, Nat.reduceLeDiff, T.get_set, Option.getD_some, reduceIte, Nat.reduceEqDiff, eq_self, if_true, if_false, List.getElem?_cons_zero, List.getElem?_cons_succ, Option.getD_none, beq_self_eq_true, Nat.reduceLT, Nat.reduceMul, Nat.reduceAdd, Nat.zero_add, Nat.mul_one, Nat.one_mul, Nat.zero_mul, Bool.false_eq_true, Bool.not_false, Bool.not_true, Bool.and_true, Bool.and_false, Bool.true_and, Bool.false_and, decide_true, decide_false, q, g47, g48, g49, g10, g9, hRy, hRx, hadd]
      · refine ⟨k - 1, by omega, j + 1, by omega, hK.trans hKR, ?_, ?_, ?_, ?_, ?_⟩
        · simp only [T.get_set, Nat.reduceEqDiff, if_true, if_false, reduceIte, g47]
        · simp only [T.get_set, Nat.reduceEqDiff, if_true, if_false, reduceIte, g48]
        · simp only [T.get_set, Nat.reduceEqDiff, if_true, if_false, reduceIte]
        · rw [htk]
          simp only [List.map_append, List.map_cons, List.map_nil, List.mem_append, List.mem_singleton]
          simp only [decide_eq_false_iff_not] at q
          by_cases hu : yu = u
          · subst hu; simp
          · rw [decide_eq_false hu, decide_eq_false (by
              rintro (h1 | h1)
              · exact q h1
              · exact hu h1.symm)]
        · rintro k (rfl | rfl | rfl | rfl | rfl | rfl | rfl | rfl | rfl | rfl) <;> simp only [T.get_set, Nat.reduceEqDiff, if_true, if_false, reduceIte] <;> exact gk _ (by simp)
      · refine ⟨k - 1, by omega, j + 1, by omega, hK.trans hKR, ?_, ?_, ?_, ?_, ?_⟩
        · simp only [T.get_set, Nat.reduceEqDiff, if_true, if_false, reduceIte, g47]
        · simp only [T.get_set, Nat.reduceEqDiff, if_true, if_false, reduceIte, g48]
        · simp only [T.get_set, Nat.reduceEqDiff, if_true, if_false, reduceIte]
        · rw [htk]
          simp only [decide_eq_true_eq] at q
          rw [decide_eq_true (by simp only [List.map_append, List.mem_append]; exact .inl q)]
          rfl
        · rintro k (rfl | rfl | rfl | rfl | rfl | rfl | rfl | rfl | rfl | rfl) <;> simp only [T.get_set, Nat.reduceEqDiff, if_true, if_false, reduceIte] <;> exact gk _ (by simp)
    · have hd : decide (j < i) = false := decide_eq_false hj
      simp only [w_nil, w_cons, w_g, w_gt, w_if1, w_if0, w_k, w_set, w_ops, w_kN, w_seq, w_seqN, w_seqR, w_seqE, w_block, w_blkN, w_blkR, w_blkE, w_lpN, w_lpR, w_lpE, w_exit, w_ret, w_skip, w_cond, w_cT, w_cF, w_res, w_resN, w_ret1, w_ret2, w_ret3, r_res0, r_resT, oR_some, oW_some, x_nil, x_cons, x_c, s_ev, x_bo, x_gd, x_mv, s_box, s_stA, s_ceA, z_store3, z_put3, s_asCells, s_load, z_loadO, s_rd1, s_rd2, s_ext, x_not, x_pick, s_wantT, s_wantF, Bool.not_not, y_wantU, s_cond, n_lss, n_leq, n_gtr, n_geq, n_eql, n_neq, y_eqS, y_neqS, y_lenStr, y_idxSl, y_fieldAddr, y_call, x_lenS, w_lenN, y_build3, y_lit3, y_litS, w_draw, dr_nil, dr_cons, dr_end, dk_p, dk_l, dk_lT, dk_a, dk_c, du_p, du_l, du_a, du_c, dr_n, dr_g, dr_kP, dr_kL, dr_kA, dr_kA2, dr_kC, d_lg, d_ac0, d_acc, d_accS, d_find, d_chk, d_all0, d_all1, d_one, d_chkV, d_sameS, dr_ok, Bool.or_true, Bool.or_false, Bool.true_or, Bool.false_or, Nat.reduceLeDiff, T.get_set, Option.getD_some, reduceIte, Nat.reduceEqDiff, eq_self, if_true, if_false, List.getElem?_cons_zero, List.getElem?_cons_succ, Option.getD_none, beq_self_eq_true, Nat.reduceLT, Nat.reduceMul, Nat.reduceAdd, Nat.zero_add, Nat.mul_one, Nat.one_mul, Nat.zero_mul, Bool.false_eq_true, Bool.not_false, Bool.not_true, Bool.and_true, Bool.and_false, Bool.true_and, Bool.false_and, decide_true, decide_false, g47, g48, g49, g10, hd]
      have hji : j = i := by omega
      subst hji
      refine hQ _ _ _ hK ?_ ?_
      · simp only [T.get_set, Nat.reduceEqDiff, if_true, if_false, reduceIte, g10]
      · rintro k (rfl | rfl | rfl | rfl | rfl | rfl | rfl | rfl | rfl | rfl) <;> simp only [T.get_set, Nat.reduceEqDiff, if_true, if_false, reduceIte] <;> exact gk _ (by simp)
end Ev.Tp

namespace Ev.Tp
open Go Ev
theorem check_run {C : CallF} {LF : Nat} {rows2 rows3 : T ARow} {nx2 nx3 px n m : Nat} {vu vd : AV} {us ds : List S} {u f e : S} {tm3 : T AV} {Q : QX} (hn : n < us.length) (hm : us.length = m) (hm2 : ds.length = m) (hms : m ≤ 1000000)
    (hSu : SlV rows2 nx2 1 us.length vu (strs us)) (hSd : SlV rows2 nx2 1 ds.length vd (strs ds)) (hu : us[n]? = some u) (hf : ds[n]? = some f) (hK : Keep rows2 nx2 rows3 nx3) (hx : rows3.get px = some (.cells 34 [.str u, .str f, .str e]))
    (k4 : tm3.get 4 = some vu) (k5 : tm3.get 5 = some vd) (k7 : tm3.get 7 = some (.int .i64 (.ofNat n))) (k9 : tm3.get 9 = some (.ptr px 0))
    (hQ : ∀ tm, tm.get 7 = some (.int .i64 (.ofNat (n + 1))) → (∀ k, k = 3 ∨ k = 4 ∨ k = 5 ∨ k = 38 ∨ k = 39 ∨ k = 40 → tm.get k = tm3.get k) → Q .normal ⟨tm, rows3, nx3 + 22⟩) :
    w C LF (.seq (.seq (.draw 22 [⟨0,.p,[],22,22,false,⟨none,64,.mv,[.t 7]⟩⟩,⟨1,.p,[],22,22,false,⟨none,65,.mv,[.t 4]⟩⟩,⟨2,.p,[],22,22,false,⟨none,66,.len .sl,[.t 65]⟩⟩,⟨3,.p,[],22,22,false,⟨none,67,.binI .geq,[.t 64,.t 66]⟩⟩,⟨4,.p,[],22,22,false,⟨none,68,.mv,[.t 67]⟩⟩,⟨5,.p,[],22,22,false,⟨(some (68,false)),69,.mv,[.t 4]⟩⟩,⟨6,.p,[],22,22,false,⟨(some (68,false)),70,.mv,[.t 7]⟩⟩,⟨7,.p,[],22,22,false,⟨(some (68,false)),71,.indexSl 1,[.t 69,.t 70]⟩⟩,⟨8,.l,[],22,22,false,⟨(some (68,false)),72,.load .one,[.t 71]⟩⟩,⟨9,.p,[],22,22,false,⟨(some (68,false)),73,.fieldAddr 0,[.t 9]⟩⟩,⟨10,.l,[],22,22,false,⟨(some (68,false)),74,.load .one,[.t 73]⟩⟩,⟨11,.p,[],22,22,false,⟨(some (68,false)),75,.binS .neq,[.t 72,.t 74]⟩⟩,⟨12,.p,[],22,22,false,⟨none,76,.pick,[.t 68,.c (.bool true),.t 75]⟩⟩,⟨13,.p,[],22,22,false,⟨none,77,.mv,[.t 76]⟩⟩,⟨14,.p,[],22,22,false,⟨(some (77,false)),78,.mv,[.t 5]⟩⟩,⟨15,.p,[],22,22,false,⟨(some (77,false)),79,.mv,[.t 7]⟩⟩,⟨16,.p,[],22,22,false,⟨(some (77,false)),80,.indexSl 1,[.t 78,.t 79]⟩⟩,⟨17,.l,[],22,22,false,⟨(some (77,false)),81,.load .one,[.t 80]⟩⟩,⟨18,.p,[],22,22,false,⟨(some (77,false)),82,.fieldAddr 1,[.t 9]⟩⟩,⟨19,.l,[],22,22,false,⟨(some (77,false)),83,.load .one,[.t 82]⟩⟩,⟨20,.p,[],22,22,false,⟨(some (77,false)),84,.binS .neq,[.t 81,.t 83]⟩⟩,⟨21,.p,[],22,22,false,⟨none,85,.pick,[.t 77,.c (.bool true),.t 84]⟩⟩] []) (.cond (.t 85) (.seq (.ops [⟨none,2,.mv,[.c (.bool false)]⟩]) (.ret)) (.skip))) (.ops [⟨none,86,.mv,[.t 7]⟩,⟨none,87,.binI .add,[.t 86,.c (.int .i64 (.ofNat 1))]⟩,⟨none,7,.mv,[.t 87]⟩])) Q ⟨tm3, rows3, nx3⟩ := by
  have hge : decide (m ≤ n) = false := decide_eq_false (by omega)
  have hlu := fun rows' nx' => hSu.len (C := C) (rows' := rows') (nx' := nx')
  rw [hm] at hlu
  obtain ⟨bu, ou, hbu, hixu, _, hldu⟩ := hSu.rd.at (C := C) (i := n) hn
  obtain ⟨bd, od, hbd, hixd, _, hldd⟩ := hSd.rd.at (C := C) (i := n) (by omega)
  have hldu := fun nx' => hldu 0 (.str u) rows3 nx' (hK.2 bu hbu) (by simp [strs, hu])
  have hldd := fun nx' => hldd 0 (.str f) rows3 nx' (hK.2 bd hbd) (by simp [strs, hf])
  simp only [Nat.mul_one, Nat.add_zero] at hldu hldd hixu hixd
  have hadd7 := fun rows nx => n_add (C := C) (rows := rows) (nx := nx) .i64 n 1 (by show _ < 9223372036854775808; omega)
  simp only [w_nil, w_cons, w_g, w_gt, w_if1, w_if0, w_k, w_set, w_ops, w_kN, w_seq, w_seqN, w_seqR, w_seqE, w_block, w_blkN, w_blkR, w_blkE, w_lpN, w_lpR, w_lpE, w_exit, w_ret, w_skip, w_cond, w_cT, w_cF, w_res, w_resN, w_ret1, w_ret2, w_ret3, r_res0, r_resT, oR_some, oW_some, x_nil, x_cons, x_c, s_ev, x_bo, x_gd, x_mv, s_box, s_stA, s_ceA, z_store3, z_put3, s_asCells, s_load, z_loadO, s_rd1, s_rd2, s_ext, x_not, x_pick, s_wantT, s_wantF, Bool.not_not, y_wantU, s_cond, n_lss, n_leq, n_gtr, n_geq, n_eql, n_neq, y_eqS, y_neqS, y_lenStr, y_idxSl, y_fieldAddr, y_call, x_lenS, w_lenN, y_build3, y_lit3, y_litS, w_draw, dr_nil, dr_cons, dr_end, dk_p, dk_l, dk_lT, dk_a, dk_c, du_p, du_l, du_a, du_c, dr_n, dr_g, dr_kP, dr_kL, dr_kA, dr_kA2, dr_kC, d_lg, d_ac0, d_acc, d_accS, d_find, d_chk, d_all0, d_all1, d_one, d_chkV, d_sameS, dr_ok, Bool.or_true, Bool.or_false, Bool.true_or, Bool.false_or, Nat.reduceLeDiff, T.get_set, Option.getD_some, reduceIte, Nat.reduceEqDiff, eq_self, if_true, if_false, List.getElem?_cons_zero, List.getElem?_cons_succ, Option.getD_none, beq_self_eq_true, Nat.reduceLT, Nat.reduceMul, Nat.reduceAdd, Nat.zero_add, Nat.mul_one, Nat.one_mul, Nat.zero_mul, Bool.false_eq_true, Bool.not_false, Bool.not_true, Bool.and_true, Bool.and_false, Bool.true_and, Bool.false_and, decide_true, decide_false, k4, k5, k7, k9, hlu, hge, hixu, hldu, hixd, hldd, hx, hadd7]
  refine hQ _ ?_ ?_
  · simp only [T.get_set, Nat.reduceEqDiff, if_true, if_false, reduceIte]
  · rintro k (rfl | rfl | rfl | rfl | rfl | rfl) <;> simp only [T.get_set, Nat.reduceEqDiff, if_true, if_false, reduceIte]

theorem law_run {C : CallF} {LF : Nat} {rows : T ARow} {nx : Nat} {v : AV} {n : Nat} {l : List Bit} (hLF : 200 < LF) (hlen : ∀ rows' nx', evK [v] rows' nx' C (.len .sl) = some ⟨.int .i64 (.ofNat n), rows', nx'⟩)
    (h8 : ∀ rows nx, C (.f 8) [] rows nx = some ⟨.bool true, rows, nx⟩)
    (h9 : n ≤ 8 → l.length = n ∧ oR (C (.f 9) [v] rows nx) fun r rows' nx' => SlV rows' nx' 3 n r (encL (mk 0 l)) ∧ Keep rows nx rows' nx' ∧ ∀ b, blkOf r = some b → nx ≤ b)
    (h10 : ∀ a rows nx, SlV rows nx 3 (mk 0 l).length a (encL (mk 0 l)) → oR (C (.f 10) [a] rows nx) fun r rows' nx' => ∃ vu vd, r = .tup [vu, vd, .int .i64 (.ofNat 0)] ∧ SlV rows' nx' 1 (topsF [] [] (mk 0 l)).1.length vu (strs (topsF [] [] (mk 0 l)).1) ∧ SlV rows' nx' 1 (topsF [] [] (mk 0 l)).2.length vd (strs (topsF [] [] (mk 0 l)).2) ∧ Keep rows nx rows' nx') :
    oR (evFn C LF I.I3 [v] rows nx) fun r rows' nx' => r = .bool true := by
  refine fn_w rfl ?_
  have h0 : (argsT [v] 0 .nil).get 0 = some v := rfl
  generalize argsT [v] 0 .nil = tm at h0
  cases hn : decide (8 < n) with
  | true =>
    simp only [I.I3]
    simp only [w_nil, w_cons, w_g, w_gt, w_if1, w_if0, w_k, w_set, w_ops, w_kN, w_seq, w_seqN, w_seqR, w_seqE, w_block, w_blkN, w_blkR, w_blkE, w_lpN, w_lpR, w_lpE, w_exit, w_ret, w_skip, w_cond, w_cT, w_cF, w_res, w_resN, w_ret1, w_ret2, w_ret3, r_res0, r_resT, oR_some, oW_some, x_nil, x_cons, x_c, s_ev, x_bo, x_gd, x_mv, s_box, s_stA, s_ceA, z_store3, z_put3, s_asCells, s_load, z_loadO, s_rd1, s_rd2, s_ext, x_not, x_pick, s_wantT, s_wantF, Bool.not_not, y_wantU, s_cond, n_lss, n_leq, n_gtr, n_geq, n_eql, n_neq, y_eqS, y_neqS, y_lenStr, y_idxSl, y_fieldAddr, y_call, x_lenS, w_lenN, y_build3, y_lit3, y_litS, w_draw, dr_nil, dr_cons, dr_end, dk_p, dk_l, dk_lT, dk_a, dk_c, du_p, du_l, du_a, du_c, dr_n, dr_g, dr_kP, dr_kL, dr_kA, dr_kA2, dr_kC, d_lg, d_ac0, d_acc, d_accS, d_find, d_chk, d_all0, d_all1, d_one, d_chkV, d_sameS, dr_ok, Bool.or_true, Bool.or_false, Bool.true_or, Bool.false_or, Nat.reduceLeDiff, T.get_set, Option.getD_some, reduceIte, Nat.reduceEqDiff, eq_self, if_true, if_false, List.getElem?_cons_zero, List.getElem?_cons_succ, Option.getD_none, beq_self_eq_true, Nat.reduceLT, Nat.reduceMul, Nat.reduceAdd, Nat.zero_add, Nat.mul_one, Nat.one_mul, Nat.zero_mul, Bool.false_eq_true, Bool.not_false, Bool.not_true, Bool.and_true, Bool.and_false, Bool.true_and, Bool.false_and, decide_true, decide_false, h0, h8, hlen, hn]
  | false =>
    have hn8 : n ≤ 8 := by simp only [decide_eq_false_iff_not] at hn; omega
    obtain ⟨hln, ⟨va, rows1, nx1⟩, hM, hS1, hK1, _⟩ := h9 hn8
    simp only at hS1 hK1
    have hL : (mk 0 l).length = n := by rw [mk_len]; exact hln
    rw [← hL] at hS1
    obtain ⟨⟨r2, rows2, nx2⟩, hT, vu, vd, hr2, hSu, hSd, hK2⟩ := h10 va rows1 nx1 hS1
    simp only at hr2 hSu hSd hK2
    subst hr2
    have hfi := topsF_fi [] (mk 0 l)
    simp only [List.map_nil] at hfi
    rw [hfi] at hSu hSd
    simp only at hSu hSd
    have hS2 : SlV rows2 nx2 3 (mk 0 l).length va (encL (mk 0 l)) := hS1.mono hK2.1 fun b _ hb => hK2.2 b hb
    have hms : (fiF [] (mk 0 l)).length ≤ 1000000 := by
      have := fiF_len [] (mk 0 l)
      simp only [List.length_nil, Nat.zero_add] at this; omega
    generalize hall : fiF [] (mk 0 l) = all at *
    generalize mk 0 l = ivs at *
    have hlu := fun rows' nx' => hSu.len (C := C) (rows' := rows') (nx' := nx')
    have hld := fun rows' nx' => hSd.len (C := C) (rows' := rows') (nx' := nx')
    have hla := fun rows' nx' => hS2.len (C := C) (rows' := rows') (nx' := nx')
    simp only [List.length_map] at hlu hld
    simp only [I.I3]
    simp only [w_nil, w_cons, w_g, w_gt, w_if1, w_if0, w_k, w_set, w_ops, w_kN, w_seq, w_seqN, w_seqR, w_seqE, w_block, w_blkN, w_blkR, w_blkE, w_lpN, w_lpR, w_lpE, w_exit, w_ret, w_skip, w_cond, w_cT, w_cF, w_res, w_resN, w_ret1, w_ret2, w_ret3, r_res0, r_resT, oR_some, oW_some, x_nil, x_cons, x_c, s_ev, x_bo, x_gd, x_mv, s_box, s_stA, s_ceA, z_store3, z_put3, s_asCells, s_load, z_loadO, s_rd1, s_rd2, s_ext, x_not, x_pick, s_wantT, s_wantF, Bool.not_not, y_wantU, s_cond, n_lss, n_leq, n_gtr, n_geq, n_eql, n_neq, y_eqS, y_neqS, y_lenStr, y_idxSl, y_fieldAddr, y_call, x_lenS, w_lenN, y_build3, y_lit3, y_litS, w_draw, dr_nil, dr_cons, dr_end, dk_p, dk_l, dk_lT, dk_a, dk_c, du_p, du_l, du_a, du_c, dr_n, dr_g, dr_kP, dr_kL, dr_kA, dr_kA2, dr_kC, d_lg, d_ac0, d_acc, d_accS, d_find, d_chk, d_all0, d_all1, d_one, d_chkV, d_sameS, dr_ok, Bool.or_true, Bool.or_false, Bool.true_or, Bool.false_or, Nat.reduceLeDiff, T.get_set, Option.getD_some, reduceIte, Nat.reduceEqDiff, eq_self, if_true, if_false, List.getElem?_cons_zero, List.getElem?_cons_succ, Option.getD_none, beq_self_eq_true, Nat.reduceLT, Nat.reduceMul, Nat.reduceAdd, Nat.zero_add, Nat.mul_one, Nat.one_mul, Nat.zero_mul, Bool.false_eq_true, Bool.not_false, Bool.not_true, Bool.and_true, Bool.and_false, Bool.true_and, Bool.false_and, decide_true, decide_false, h0, h8, hlen, hn, hM, hT, hlu, hld, hla]
    refine w_loop (fun k s => ∃ i acc, i + k = ivs.length ∧ fiF acc (ivs.drop i) = all ∧ (∀ u, u ∈ acc.map Iv.u ↔ u ∈ (ivs.take i).map Iv.u) ∧ Keep rows2 nx2 s.rows s.nx ∧
      s.tm.get 3 = some va ∧ s.tm.get 4 = some vu ∧ s.tm.get 5 = some vd ∧ s.tm.get 7 = some (.int .i64 (.ofNat acc.length)) ∧ s.tm.get 38 = some va ∧ s.tm.get 39 = some (.int .i64 (.ofNat ivs.length)) ∧ s.tm.get 40 = some (.int .i64 (.ofNat i))) ivs.length (by omega) ?_ ?_
    · refine ⟨0, [], by omega, hall, by simp, .refl _ _, ?_, ?_, ?_, ?_, ?_, ?_, ?_⟩ <;> simp only [T.get_set, Nat.reduceEqDiff, if_true, if_false, reduceIte] <;> rfl
    · rintro k ⟨tm, rows', nx'⟩ ⟨i, acc, hik, hF, hacc, hK, g3, g4, g5, g7, g38, g39, g40⟩
      simp only at hK g3 g4 g5 g7 g38 g39 g40
      by_cases hi : i < ivs.length
      · have hd : decide (i < ivs.length) = true := decide_eq_true hi
        rcases hS2 with ⟨h, _⟩ | ⟨_, _, b, t, rfl, hb, hg⟩
        · omega
        have hR : RdV rows2 nx2 3 ivs.length (.slice b 0 ivs.length (.op 3)) (encL ivs) := ⟨encL_len ivs, .inr ⟨b, 0, _, _, [], rfl, hb, by rw [hg]; rfl, by simp⟩⟩
        obtain ⟨b', o', _, hix, hld', _⟩ := hR.at (C := C) hi
        have hli : ivs[i]? = some ivs[i] := List.getElem?_eq_getElem hi
        have hbo := hix rows' nx'
        rw [y_idxSl, if_pos hi] at hbo
        simp only [Option.some.injEq, R.mk.injEq, AV.ptr.injEq, and_true] at hbo
        obtain ⟨rfl, hbo⟩ := hbo
        have hld3 := fun nx' => hld' _ rows' nx' (hK.2 b hb) (encL_get ivs i _ hli)
        have hdrop : ivs.drop i = ivs[i] :: ivs.drop (i + 1) := List.drop_eq_getElem_cons hi
        have htk : ivs.take (i + 1) = ivs.take i ++ [ivs[i]] := by rw [List.take_add_one, hli]; rfl
        rw [hdrop] at hF
        generalize hx : ivs[i] = x at *
        obtain ⟨u, f, e⟩ := x
        simp only [encI] at hld3
        have hsl := fun rows nx => y_slTo (C := C) (rows := rows) (nx := nx) b ivs.length i 3 (by omega)
        have hadd := fun rows nx => n_add (C := C) (rows := rows) (nx := nx) .i64 i 1 (by show _ < 9223372036854775808; omega)
        generalize hR2 : ((rows'.set nx' (some (.cells 34 [.str [], .str [], .str []]))).set nx' (some (.cells 34 [.str u, .str f, .str e]))) = R2
        have hKR : Keep rows' nx' R2 (nx' + 1) := by rw [← hR2]; exact ((Keep.refl _ _).set (Nat.le_refl _) (Nat.le_refl _)).set (Nat.le_refl _) (Nat.le_succ _)
        have hRx : R2.get nx' = some (.cells 34 [.str u, .str f, .str e]) := by rw [← hR2, T.get_set, if_pos rfl]
        simp only [w_nil, w_cons, w_g, w_gt, w_if1, w_if0, w_k, w_set, w_ops, w_kN, w_seq, w_seqN, w_seqR, w_seqE, w_block, w_blkN, w_blkR, w_blkE, w_lpN, w_lpR, w_lpE, w_exit, w_ret, w_skip, w_cond, w_cT, w_cF, w_res, w_resN, w_ret1, w_ret2, w_ret3, r_res0, r_resT, oR_some, oW_some, x_nil, x_cons, x_c, s_ev, x_bo, x_gd, x_mv, s_box, s_stA, s_ceA, z_store3, z_put3, s_asCells, s_load, z_loadO, s_rd1, s_rd2, s_ext, x_not, x_pick, s_wantT, s_wantF, Bool.not_not, y_wantU, s_cond, n_lss, n_leq, n_gtr, n_geq, n_eql, n_neq, y_eqS, y_neqS, y_lenStr, y_idxSl, y_fieldAddr, y_call, x_lenS, w_lenN, y_build3, y_lit3, y_litS, w_draw, dr_nil, dr_cons, dr_end, dk_p, dk_l, dk_lT, dk_a, dk_c, du_p, du_l, du_a, du_c, dr_n, dr_g, dr_kP, dr_kL, dr_kA, dr_kA2, dr_kC, d_lg, d_ac0, d_acc, d_accS, d_find, d_chk, d_all0, d_all1, d_one, d_chkV, d_sameS, dr_ok, Bool.or_true, Bool.or_false, Bool.true_or, Bool.false_or, Nat.reduceLeDiff, T.get_set, Option.getD_some, reduceIte, Nat.reduceEqDiff, eq_self, if_true, if_false, List.getElem?_cons_zero, List.getElem?_cons_succ, Option.getD_none, beq_self_eq_true, Nat.reduceLT, Nat.reduceMul, Nat.reduceAdd, Nat.zero_add, Nat.mul_one, Nat.one_mul, Nat.zero_mul, Bool.false_eq_true, Bool.not_false, Bool.not_true, Bool.and_true, Bool.and_false, Bool.true_and, Bool.false_and, decide_true, decide_false, g3, g38, g39, g40, hd, hix, hld3, hR2, hsl]
        refine inner_run (nx0 := nx' + 1) (rows := R2) (b := b) (i := i) (px := nx') (t := t) (u := u) (f := f) (e := e) hi (by omega) hLF (by have := hK.1; rw [hKR.2 b (by omega), hK.2 b hb]; exact hg) (by have := hK.1; omega) (Nat.lt_succ_self _) hRx (by simp only [T.get_set, Nat.reduceEqDiff, if_true, if_false, reduceIte]) (by simp only [T.get_set, Nat.reduceEqDiff, if_true, if_false, reduceIte]) (by simp only [T.get_set, Nat.reduceEqDiff, if_true, if_false, reduceIte]) (by simp only [T.get_set, Nat.reduceEqDiff, if_true, if_false, reduceIte]) (by simp only [T.get_set, Nat.reduceEqDiff, if_true, if_false, reduceIte]) (.refl _ _) ?_
        intro tm3 rows3 nx3 hK3 g10 gk
        have k3 : tm3.get 3 = some (.slice b 0 ivs.length (.op 3)) := (gk 3 (by simp)).trans (by simp only [T.get_set, Nat.reduceEqDiff, if_true, if_false, reduceIte, g3])
        have k4 : tm3.get 4 = some vu := (gk 4 (by simp)).trans (by simp only [T.get_set, Nat.reduceEqDiff, if_true, if_false, reduceIte, g4])
        have k5 : tm3.get 5 = some vd := (gk 5 (by simp)).trans (by simp only [T.get_set, Nat.reduceEqDiff, if_true, if_false, reduceIte, g5])
        have k7 : tm3.get 7 = some (.int .i64 (.ofNat acc.length)) := (gk 7 (by simp)).trans (by simp only [T.get_set, Nat.reduceEqDiff, if_true, if_false, reduceIte, g7])
        have k9 : tm3.get 9 = some (.ptr nx' 0) := (gk 9 (by simp)).trans (by simp only [T.get_set, Nat.reduceEqDiff, if_true, if_false, reduceIte])
        have k38 : tm3.get 38 = some (.slice b 0 ivs.length (.op 3)) := (gk 38 (by simp)).trans (by simp only [T.get_set, Nat.reduceEqDiff, if_true, if_false, reduceIte, g38])
        have k39 : tm3.get 39 = some (.int .i64 (.ofNat ivs.length)) := (gk 39 (by simp)).trans (by simp only [T.get_set, Nat.reduceEqDiff, if_true, if_false, reduceIte, g39])
        have k40 : tm3.get 40 = some (.int .i64 (.ofNat i)) := (gk 40 (by simp)).trans (by simp only [T.get_set, Nat.reduceEqDiff, if_true, if_false, reduceIte, g40])
        have hRx3 : rows3.get nx' = some (.cells 34 [.str u, .str f, .str e]) := by rw [hK3.2 nx' (by omega)]; exact hRx
        have hKK : Keep rows2 nx2 rows3 nx3 := (hK.trans hKR).trans hK3
        simp only [fiF] at hF
        have hmem : ∀ u', u' ∈ (ivs.take (i + 1)).map Iv.u ↔ (u' ∈ acc.map Iv.u ∨ u' = u) := fun u' => by
          rw [htk, List.map_append, List.mem_append, ← hacc]; simp
        simp only [w_nil, w_cons, w_g, w_gt, w_if1, w_if0, w_k, w_set, w_ops, w_kN, w_seq, w_seqN, w_seqR, w_seqE, w_block, w_blkN, w_blkR, w_blkE, w_lpN, w_lpR, w_lpE, w_exit, w_ret, w_skip, w_cond, w_cT, w_cF, w_res, w_resN, w_ret1, w_ret2, w_ret3, r_res0, r_resT, oR_some, oW_some, x_nil, x_cons, x_c, s_ev, x_bo, x_gd, x_mv, s_box, s_stA, s_ceA, z_store3, z_put3, s_asCells, s_load, z_loadO, s_rd1, s_rd2, s_ext, x_not, x_pick, s_wantT, s_wantF, Bool.not_not, y_wantU, s_cond, n_lss, n_leq, n_gtr, n_geq, n_eql, n_neq, y_eqS, y_neqS, y_lenStr, y_idxSl, y_fieldAddr, y_call, x_lenS, w_lenN, y_build3, y_lit3, y_litS, w_draw, dr_nil, dr_cons, dr_end, dk_p, dk_l, dk_lT, dk_a, dk_c, du_p, du_l, du_a, du_c, dr_n, dr_g, dr_kP, dr_kL, dr_kA, dr_kA2, dr_kC, d_lg, d_ac0, d_acc, d_accS, d_find, d_chk, d_all0, d_all1, d_one, d_chkV, d_sameS, dr_ok, Bool.or_true, Bool.or_false, Bool.true_or, Bool.false_or, Nat.reduceLeDiff, T.get_set, Option.getD_some, reduceIte, Nat.reduceEqDiff, eq_self, if_true, if_false, List.getElem?_cons_zero, List.getElem?_cons_succ, Option.getD_none, beq_self_eq_true, Nat.reduceLT, Nat.reduceMul, Nat.reduceAdd, Nat.zero_add, Nat.mul_one, Nat.one_mul, Nat.zero_mul, Bool.false_eq_true, Bool.not_false, Bool.not_true, Bool.and_true, Bool.and_false, Bool.true_and, Bool.false_and, decide_true, decide_false, g10]
        cases q : decide (u ∈ (ivs.take i).map Iv.u) with
        | true =>
          have q' : u ∈ acc.map Iv.u := (hacc u).2 (of_decide_eq_true q)
          rw [decide_eq_true q', if_pos rfl] at hF
          simp only [w_nil, w_cons, w_g, w_gt, w_if1, w_if0, w_k, w_set, w_ops, w_kN, w_seq, w_seqN, w_seqR, w_seqE, w_block, w_blkN, w_blkR, w_blkE, w_lpN, w_lpR, w_lpE, w_exit, w_ret, w_skip, w_cond, w_cT, w_cF, w_res, w_resN, w_ret1, w_ret2, w_ret3, r_res0, r_resT, oR_some, oW_some, x_nil, x_cons, x_c, s_ev, x_bo, x_gd, x_mv, s_box, s_stA, s_ceA, z_store3, z_put3, s_asCells, s_load, z_loadO, s_rd1, s_rd2, s_ext, x_not, x_pick, s_wantT, s_wantF, Bool.not_not, y_wantU, s_cond, n_lss, n_leq, n_gtr, n_geq, n_eql, n_neq, y_eqS, y_neqS, y_lenStr, y_idxSl, y_fieldAddr, y_call, x_lenS, w_lenN, y_build3, y_lit3, y_litS, w_draw, dr_nil, dr_cons, dr_end, dk_p, dk_l, dk_lT, dk_a, dk_c, du_p, du_l, du_a, du_c, dr_n, dr_g, dr_kP, dr_kL, dr_kA, dr_kA2, dr_kC, d_lg, d_ac0, d_acc, d_accS, d_find, d_chk, d_all0, d_all1, d_one, d_chkV, d_sameS, dr_ok, Bool.or_true, Bool.or_false, Bool.true_or, Bool.false_or, Nat.reduceLeDiff, T.get_set, Option.getD_some, reduceIte, Nat.reduceEqDiff, eq_self, if_true, if_false, List.getElem?_cons_zero, List.getElem?_cons_succ, Option.getD_none, beq_self_eq_true, Nat.reduceLT, Nat.reduceMul, Nat.reduceAdd, Nat.zero_add, Nat.mul_one, Nat.one_mul, Nat.zero_mul, Bool.false_eq_true, Bool.not_false, Bool.not_true, Bool.and_true, Bool.and_false, Bool.true_and, Bool.false_and, decide_true, decide_false, q, k40, hadd]
          refine ⟨k - 1, by omega, i + 1, acc, by omega, hF, fun u' => ?_, hKK, ?_, ?_, ?_, ?_, ?_, ?_, ?_⟩
          · rw [hmem]
            exact ⟨.inl, fun h => h.elim id fun e => e ▸ q'⟩
          all_goals simp only [T.get_set, Nat.reduceEqDiff, if_true, if_false, reduceIte, k3, k4, k5, k7, k38, k39]
        | false =>
          have q' : ¬ u ∈ acc.map Iv.u := fun h => (of_decide_eq_false q) ((hacc u).1 h)
          rw [decide_eq_false q', if_neg (by simp)] at hF
          have hall1 : all[acc.length]? = some ⟨u, f, e⟩ := by
            rw [← hF, fiF_pre _ _ _ (by simp)]; simp
          have hlt : acc.length < all.length := (List.getElem?_eq_some_iff.1 hall1).1
          simp only [q, w_cF, w_skip, w_seqN]
          refine check_run (m := all.length) (n := acc.length) (us := all.map Iv.u) (ds := all.map Iv.f) (u := u) (f := f) (e := e) (by simpa using hlt) (by simp) (by simp) hms hSu hSd (by simp [hall1]) (by simp [hall1]) hKK hRx3 (by simp only [T.get_set, Nat.reduceEqDiff, if_true, if_false, reduceIte, k4]) (by simp only [T.get_set, Nat.reduceEqDiff, if_true, if_false, reduceIte, k5]) (by simp only [T.get_set, Nat.reduceEqDiff, if_true, if_false, reduceIte, k7]) (by simp only [T.get_set, Nat.reduceEqDiff, if_true, if_false, reduceIte, k9]) ?_
          intro tm4 j7 jk
          have j3 : tm4.get 3 = some (.slice b 0 ivs.length (.op 3)) := (jk 3 (by simp)).trans (by simp only [T.get_set, Nat.reduceEqDiff, if_true, if_false, reduceIte, k3])
          have j4 : tm4.get 4 = some vu := (jk 4 (by simp)).trans (by simp only [T.get_set, Nat.reduceEqDiff, if_true, if_false, reduceIte, k4])
          have j5 : tm4.get 5 = some vd := (jk 5 (by simp)).trans (by simp only [T.get_set, Nat.reduceEqDiff, if_true, if_false, reduceIte, k5])
          have j38 : tm4.get 38 = some (.slice b 0 ivs.length (.op 3)) := (jk 38 (by simp)).trans (by simp only [T.get_set, Nat.reduceEqDiff, if_true, if_false, reduceIte, k38])
          have j39 : tm4.get 39 = some (.int .i64 (.ofNat ivs.length)) := (jk 39 (by simp)).trans (by simp only [T.get_set, Nat.reduceEqDiff, if_true, if_false, reduceIte, k39])
          have j40 : tm4.get 40 = some (.int .i64 (.ofNat i)) := (jk 40 (by simp)).trans (by simp only [T.get_set, Nat.reduceEqDiff, if_true, if_false, reduceIte, k40])
          simp only [w_nil, w_cons, w_g, w_gt, w_if1, w_if0, w_k, w_set, w_ops, w_kN, w_seq, w_seqN, w_seqR, w_seqE, w_block, w_blkN, w_blkR, w_blkE, w_lpN, w_lpR, w_lpE, w_exit, w_ret, w_skip, w_cond, w_cT, w_cF, w_res, w_resN, w_ret1, w_ret2, w_ret3, r_res0, r_resT, oR_some, oW_some, x_nil, x_cons, x_c, s_ev, x_bo, x_gd, x_mv, s_box, s_stA, s_ceA, z_store3, z_put3, s_asCells, s_load, z_loadO, s_rd1, s_rd2, s_ext, x_not, x_pick, s_wantT, s_wantF, Bool.not_not, y_wantU, s_cond, n_lss, n_leq, n_gtr, n_geq, n_eql, n_neq, y_eqS, y_neqS, y_lenStr, y_idxSl, y_fieldAddr, y_call, x_lenS, w_lenN, y_build3, y_lit3, y_litS, w_draw, dr_nil, dr_cons, dr_end, dk_p, dk_l, dk_lT, dk_a, dk_c, du_p, du_l, du_a, du_c, dr_n, dr_g, dr_kP, dr_kL, dr_kA, dr_kA2, dr_kC, d_lg, d_ac0, d_acc, d_accS, d_find, d_chk, d_all0, d_all1, d_one, d_chkV, d_sameS, dr_ok, Bool.or_true, Bool.or_false, Bool.true_or, Bool.false_or, Nat.reduceLeDiff, T.get_set, Option.getD_some, reduceIte, Nat.reduceEqDiff, eq_self, if_true, if_false, List.getElem?_cons_zero, List.getElem?_cons_succ, Option.getD_none, beq_self_eq_true, Nat.reduceLT, Nat.reduceMul, Nat.reduceAdd, Nat.zero_add, Nat.mul_one, Nat.one_mul, Nat.zero_mul, Bool.false_eq_true, Bool.not_false, Bool.not_true, Bool.and_true, Bool.and_false, Bool.true_and, Bool.false_and, decide_true, decide_false, j40, hadd]
          refine ⟨k - 1, by omega, i + 1, acc ++ [⟨u, f, e⟩], by omega, hF, fun u' => ?_, hKK.up (Nat.le_add_right _ _), ?_, ?_, ?_, ?_, ?_, ?_, ?_⟩
          · rw [hmem]; simp
          all_goals simp only [T.get_set, Nat.reduceEqDiff, if_true, if_false, reduceIte, j3, j4, j5, j7, j38, j39, List.length_append, List.length_singleton]
      · have hd : decide (i < ivs.length) = false := decide_eq_false hi
        rw [List.drop_eq_nil_of_le (by omega)] at hF
        simp only [fiF] at hF
        simp only [w_nil, w_cons, w_g, w_gt, w_if1, w_if0, w_k, w_set, w_ops, w_kN, w_seq, w_seqN, w_seqR, w_seqE, w_block, w_blkN, w_blkR, w_blkE, w_lpN, w_lpR, w_lpE, w_exit, w_ret, w_skip, w_cond, w_cT, w_cF, w_res, w_resN, w_ret1, w_ret2, w_ret3, r_res0, r_resT, oR_some, oW_some, x_nil, x_cons, x_c, s_ev, x_bo, x_gd, x_mv, s_box, s_stA, s_ceA, z_store3, z_put3, s_asCells, s_load, z_loadO, s_rd1, s_rd2, s_ext, x_not, x_pick, s_wantT, s_wantF, Bool.not_not, y_wantU, s_cond, n_lss, n_leq, n_gtr, n_geq, n_eql, n_neq, y_eqS, y_neqS, y_lenStr, y_idxSl, y_fieldAddr, y_call, x_lenS, w_lenN, y_build3, y_lit3, y_litS, w_draw, dr_nil, dr_cons, dr_end, dk_p, dk_l, dk_lT, dk_a, dk_c, du_p, du_l, du_a, du_c, dr_n, dr_g, dr_kP, dr_kL, dr_kA, dr_kA2, dr_kC, d_lg, d_ac0, d_acc, d_accS, d_find, d_chk, d_all0, d_all1, d_one, d_chkV, d_sameS, dr_ok, Bool.or_true, Bool.or_false, Bool.true_or, Bool.false_or, Nat.reduceLeDiff, T.get_set, Option.getD_some, reduceIte, Nat.reduceEqDiff, eq_self, if_true, if_false, List.getElem?_cons_zero, List.getElem?_cons_succ, Option.getD_none, beq_self_eq_true, Nat.reduceLT, Nat.reduceMul, Nat.reduceAdd, Nat.zero_add, Nat.mul_one, Nat.one_mul, Nat.zero_mul, Bool.false_eq_true, Bool.not_false, Bool.not_true, Bool.and_true, Bool.and_false, Bool.true_and, Bool.false_and, decide_true, decide_false, g39, g40, g7, g4, hlu, hd]
        rw [hF]
        show AV.bool (decide (all.length = all.length)) = .bool true
        simp
end Ev.Tp
end
