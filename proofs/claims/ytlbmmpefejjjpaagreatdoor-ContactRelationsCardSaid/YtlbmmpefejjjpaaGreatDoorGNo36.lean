/- A name, as the program sees it: the whole function. -/
import Derived.Test.YtlbmmpefejjjpaaGreatDoorNm36
import Derived.Test.YtlbmmpefejjjpaaGreatDoorGEwN
import Derived.Test.YtlbmmpefejjjpaaGreatDoorGEwD
import Derived.Test.YtlbmmpefejjjpaaGreatDoorGEwP
import Derived.Test.YtlbmmpefejjjpaaGreatDoorIR36

set_option linter.unusedSimpArgs false
set_option linter.unusedVariables false
section
namespace Ev.Nm
open Go Ev

def nmFrom : Nat → List UInt8 → Bool
  | _, [] => true
  | i, c :: l => nameB c.toNat (decide (i = 0)) && nmFrom (i + 1) l
def nameV (s : List UInt8) : Bool := !(decide (s = [])) && (!(decide (32 < s.length)) && nmFrom 0 s)
def nameL (s : List UInt8) : Bool := decide (s = []) || decide (32 < s.length)

structure At (id n i : Nat) (s : List UInt8) (st : St) : Prop where
  t15 : st.tm.get 15 = some (.slice id 0 n (.op 1))
  t16 : st.tm.get 16 = some (.int .i64 (.ofNat n))
  t17 : st.tm.get 17 = some (.int .i64 (.ofNat i))
  row : st.rows.get id = some (.cells 0 (bytesAV s))

theorem round {C : CallF} {LF id n i : Nat} {s : List UInt8} {st : St} {c : UInt8} (h : At id n i s st) (hi : i < n) (hn : n < 1000000) (hc : s[i]? = some c) :
    ∃ st', runIC C LF lp st = some ⟨if nameB c.toNat (decide (i = 0)) = true then .normal else .ret, st'⟩ ∧ st'.rows = st.rows ∧ st'.nx = st.nx ∧ (nameB c.toNat (decide (i = 0)) = true → At id n (i + 1) s st') ∧ (nameB c.toNat (decide (i = 0)) = false → st'.tm.get 2 = some (.bool false)) := by
  obtain ⟨t15, t16, t17, row⟩ := h
  -- the head
  obtain ⟨s1, e1, k1, k2, k3, k4, k15, k16, k17⟩ : ∃ s1, runIC C LF (IC.lft lp) st = some ⟨.normal, s1⟩ ∧ s1.rows = st.rows ∧ s1.nx = st.nx ∧ s1.tm.get 18 = some (.bool true) ∧ True ∧ s1.tm.get 15 = st.tm.get 15 ∧ s1.tm.get 16 = st.tm.get 16 ∧ s1.tm.get 17 = st.tm.get 17 := by
    obtain ⟨tm, rows, nx⟩ := st
    simp only at t15 t16 t17 row
    have hlt : decide (Int.ofNat i < Int.ofNat n) = true := decide_eq_true (by simp only [Int.ofNat_eq_natCast]; omega)
    unfold lp
    simp only [I.I14, IC.rgt, IC.lft, IC.bod]
    simp only [x_ops_nil, x_ops, x_g, s_g, x_nil, x_cons, x_c, s_ev, x_bo, x_gd, x_mv, s_box, s_store2, s_put2, s_asCells, s_load, s_idx, s_ext, s_build2, s_lookup, s_update, s_lenM, y_lss, y_gtr, y_eql, y_neq, y_leq, y_eqS, y_lenStr, y_toBytes, y_idxSl, y_fieldAddr, x_lenS, x_not, x_pick, s_rd1, s_rd2, s_mp1, s_mp2, s_want, y_wantU, s_b1, s_b2, s_cond, s_stA, s_stI, s_ceA, x_iops, x_iseq, s_icond, x_iblock, x_iexit, x_iret, x_iskip, T.get_set, Option.getD_some, reduceIte, Nat.reduceEqDiff, eq_self, if_true, if_false, List.getElem?_cons_zero, List.getElem?_cons_succ, Option.getD_none, Option.isSome_some, Option.isSome_none, beq_self_eq_true, Nat.reduceLT, Nat.reduceMul, Nat.reduceAdd, Nat.zero_add, Nat.one_mul, Nat.zero_mul, Bool.false_eq_true, Bool.not_false, Bool.not_true, decide_true, decide_false, t16, t17, hlt]
    refine ⟨_, rfl, rfl, rfl, ?_⟩
    simp only [T.get_set, Nat.reduceEqDiff, if_true, if_false, reduceIte, t15, t16, t17, and_self]
  obtain ⟨s2, e2, m1, m2, m3, m4, m15, m16, m17⟩ : ∃ s2, evOps C r5 s1 = some s2 ∧ s2.rows = st.rows ∧ s2.nx = st.nx ∧ s2.tm.get 3 = some (.int .i64 (.ofNat i)) ∧ s2.tm.get 4 = some (.int .u8 (.ofNat c.toNat)) ∧ s2.tm.get 15 = st.tm.get 15 ∧ s2.tm.get 16 = st.tm.get 16 ∧ s2.tm.get 17 = st.tm.get 17 := by
    obtain ⟨tm, rows, nx⟩ := s1
    simp only at k1 k2 k15 k16 k17
    subst k1; subst k2
    rw [t15] at k15; rw [t17] at k17; rw [t16] at k16
    have hb : (bytesAV s)[0 + i * 1]? = some (.int .u8 (.ofNat c.toNat)) := by
      unfold bytesAV
      rw [List.getElem?_map, show 0 + i * 1 = i by omega, hc]; rfl
    unfold r5 b1 lp
    simp only [I.I14, IC.rgt, IC.lft, IC.bod, opsOf]
    simp only [Nat.zero_add, Nat.mul_one] at hb
    simp only [x_ops_nil, x_ops, x_g, s_g, x_nil, x_cons, x_c, s_ev, x_bo, x_gd, x_mv, s_box, s_store2, s_put2, s_asCells, s_load, s_idx, s_ext, s_build2, s_lookup, s_update, s_lenM, y_lss, y_gtr, y_eql, y_neq, y_leq, y_eqS, y_lenStr, y_toBytes, y_idxSl, y_fieldAddr, x_lenS, x_not, x_pick, s_rd1, s_rd2, s_mp1, s_mp2, s_want, y_wantU, s_b1, s_b2, s_cond, s_stA, s_stI, s_ceA, x_iops, x_iseq, s_icond, x_iblock, x_iexit, x_iret, x_iskip, T.get_set, Option.getD_some, reduceIte, Nat.reduceEqDiff, eq_self, if_true, if_false, List.getElem?_cons_zero, List.getElem?_cons_succ, Option.getD_none, Option.isSome_some, Option.isSome_none, beq_self_eq_true, Nat.reduceLT, Nat.reduceMul, Nat.reduceAdd, Nat.zero_add, Nat.one_mul, Nat.zero_mul, Bool.false_eq_true, Bool.not_false, Bool.not_true, decide_true, decide_false, Nat.mul_one, k15, k17, hi, row, hb]
    refine ⟨_, rfl, rfl, rfl, ?_⟩
    simp only [T.get_set, Nat.reduceEqDiff, if_true, if_false, reduceIte, k15, k16, k17, t15, t16, t17, and_self]
  obtain ⟨s3, e3, p1, p2, p5, pk⟩ := run6 (C := C) m4
  have p4 : s3.tm.get 4 = some (.int .u8 (.ofNat c.toNat)) := (pk 4 (by simp)).trans m4
  obtain ⟨s4, e4, q1, q2, q6, qk⟩ := run7 (C := C) p4
  have q3 : s4.tm.get 3 = some (.int .i64 (.ofNat i)) := (qk 3 (by simp)).trans ((pk 3 (by simp)).trans m3)
  have q5 := (qk 5 (by simp)).trans p5
  obtain ⟨s5, e5, u1, u2, u55, uk⟩ := run8 (C := C) q3 q5 q6
  have hnb : (!((decide ((97 : Int) ≤ .ofNat c.toNat) && decide ((Int.ofNat c.toNat) ≤ 122) || decide ((65 : Int) ≤ .ofNat c.toNat) && decide ((Int.ofNat c.toNat) ≤ 90)) || (!decide (i = 0) && (decide ((48 : Int) ≤ .ofNat c.toNat) && decide ((Int.ofNat c.toNat) ≤ 57) || decide ((Int.ofNat c.toNat) = 95))))) = !nameB c.toNat (decide (i = 0)) := rfl
  rw [hnb] at u55
  have keep : ∀ t, t = 15 ∨ t = 16 ∨ t = 17 → s5.tm.get t = st.tm.get t := by
    rintro t (rfl | rfl | rfl)
    · exact (uk 15 (by simp)).trans ((qk 15 (by simp)).trans ((pk 15 (by simp)).trans m15))
    · exact (uk 16 (by simp)).trans ((qk 16 (by simp)).trans ((pk 16 (by simp)).trans m16))
    · exact (uk 17 (by simp)).trans ((qk 17 (by simp)).trans ((pk 17 (by simp)).trans m17))
  have hrows : s5.rows = st.rows := by rw [u1, q1, p1, m1]
  have hnx : s5.nx = st.nx := by rw [u2, q2, p2, m2]
  have hb1 : runIC C LF b1 s1 = if nameB c.toNat (decide (i = 0)) = true then some ⟨.normal, s5⟩ else some ⟨.ret, ⟨s5.tm.set 2 (some (.bool false)), s5.rows, s5.nx⟩⟩ := by
    show bo (bo (evOps C r5 s1) fun s => some (XS.mk .normal s)) (fun x => match x.e with | .normal => bo (bo (evOps C r6 x.s) fun s => some (XS.mk .normal s)) (fun x => match x.e with | .normal => bo (bo (evOps C r7 x.s) fun s => some (XS.mk .normal s)) (fun x => match x.e with | .normal => bo (bo (evOps C r8 x.s) fun s => some (XS.mk .normal s)) (fun x => match x.e with | .normal => runIC C LF (.cond (.t 55) (.seq (.ops [⟨none, 2, .mv, [.c (.bool false)]⟩]) .ret) .skip) x.s | e => some ⟨e, x.s⟩) | e => some ⟨e, x.s⟩) | e => some ⟨e, x.s⟩) | e => some ⟨e, x.s⟩) = _
    rw [e2]
    show bo (bo (evOps C r6 s2) fun s => some (XS.mk .normal s)) _ = _
    rw [e3]
    show bo (bo (evOps C r7 s3) fun s => some (XS.mk .normal s)) _ = _
    rw [e4]
    show bo (bo (evOps C r8 s4) fun s => some (XS.mk .normal s)) _ = _
    rw [e5]
    show runIC C LF (.cond (.t 55) (.seq (.ops [⟨none, 2, .mv, [.c (.bool false)]⟩]) .ret) .skip) s5 = _
    rw [x_icond _ _ u55]
    cases nameB c.toNat (decide (i = 0)) <;> rfl
  have hlp : ∀ s, runIC C LF lp s = bo (runIC C LF (IC.lft lp) s) fun x => match x.e with | .normal => bo (runIC C LF (.cond (.t 18) .skip (.exit 0)) x.s) (fun x => match x.e with | .normal => bo (runIC C LF (.block 1 b1) x.s) (fun x => match x.e with | .normal => runIC C LF (.ops [⟨none, 56, .binI .add, [.t 17, .c (.int .i64 (.ofNat 1))]⟩, ⟨none, 17, .mv, [.t 56]⟩]) x.s | e => some ⟨e, x.s⟩) | e => some ⟨e, x.s⟩) | e => some ⟨e, x.s⟩ := fun _ => rfl
  rw [hlp, e1]
  show ∃ st', bo (runIC C LF (.cond (.t 18) .skip (.exit 0)) s1) _ = _ ∧ _
  rw [x_icond _ _ k3, if_pos rfl, x_iskip]
  show ∃ st', bo (runIC C LF (.block 1 b1) s1) _ = _ ∧ _
  rw [x_iblock, hb1]
  cases hnm : nameB c.toNat (decide (i = 0)) with
  | false =>
    refine ⟨_, rfl, hrows, hnx, fun h => (by cases h), fun _ => ?_⟩
    rw [T.get_set, if_pos rfl]
  | true =>
    obtain ⟨tm5, rows5, nx5⟩ := s5
    simp only at keep hrows hnx
    have w17 := (keep 17 (by simp)).trans t17
    have w15 := (keep 15 (by simp)).trans t15
    have w16 := (keep 16 (by simp)).trans t16
    show ∃ st', runIC C LF (.ops [⟨none, 56, .binI .add, [.t 17, .c (.int .i64 (.ofNat 1))]⟩, ⟨none, 17, .mv, [.t 56]⟩]) ⟨tm5, rows5, nx5⟩ = _ ∧ _
    have hadd := fun rows nx => y_add1 (C := C) (rows := rows) (nx := nx) i (by omega)
    simp only [x_ops_nil, x_ops, x_g, s_g, x_nil, x_cons, x_c, s_ev, x_bo, x_gd, x_mv, s_box, s_store2, s_put2, s_asCells, s_load, s_idx, s_ext, s_build2, s_lookup, s_update, s_lenM, y_lss, y_gtr, y_eql, y_neq, y_leq, y_eqS, y_lenStr, y_toBytes, y_idxSl, y_fieldAddr, x_lenS, x_not, x_pick, s_rd1, s_rd2, s_mp1, s_mp2, s_want, y_wantU, s_b1, s_b2, s_cond, s_stA, s_stI, s_ceA, x_iops, x_iseq, s_icond, x_iblock, x_iexit, x_iret, x_iskip, T.get_set, Option.getD_some, reduceIte, Nat.reduceEqDiff, eq_self, if_true, if_false, List.getElem?_cons_zero, List.getElem?_cons_succ, Option.getD_none, Option.isSome_some, Option.isSome_none, beq_self_eq_true, Nat.reduceLT, Nat.reduceMul, Nat.reduceAdd, Nat.zero_add, Nat.one_mul, Nat.zero_mul, Bool.false_eq_true, Bool.not_false, Bool.not_true, decide_true, decide_false, w17, hadd]
    refine ⟨_, rfl, hrows, hnx, fun _ => ⟨?_, ?_, ?_, ?_⟩, fun h => by cases h⟩
    · simp only [T.get_set, Nat.reduceEqDiff, if_true, if_false, reduceIte, w15]
    · simp only [T.get_set, Nat.reduceEqDiff, if_true, if_false, reduceIte, w16]
    · simp only [T.get_set, Nat.reduceEqDiff, if_true, if_false, reduceIte]
    · simp only; rw [hrows]; exact row

theorem over {C : CallF} {LF id n : Nat} {s : List UInt8} {st : St} (h : At id n n s st) : ∃ st', runIC C LF lp st = some ⟨.exit 0, st'⟩ ∧ st'.rows = st.rows ∧ st'.nx = st.nx := by
  obtain ⟨t15, t16, t17, row⟩ := h
  obtain ⟨tm, rows, nx⟩ := st
  simp only at t15 t16 t17 row
  have hlt : decide (Int.ofNat n < Int.ofNat n) = false := decide_eq_false (by omega)
  unfold lp
  simp only [I.I14, IC.rgt, IC.lft, IC.bod]
  simp only [x_ops_nil, x_ops, x_g, s_g, x_nil, x_cons, x_c, s_ev, x_bo, x_gd, x_mv, s_box, s_store2, s_put2, s_asCells, s_load, s_idx, s_ext, s_build2, s_lookup, s_update, s_lenM, y_lss, y_gtr, y_eql, y_neq, y_leq, y_eqS, y_lenStr, y_toBytes, y_idxSl, y_fieldAddr, x_lenS, x_not, x_pick, s_rd1, s_rd2, s_mp1, s_mp2, s_want, y_wantU, s_b1, s_b2, s_cond, s_stA, s_stI, s_ceA, x_iops, x_iseq, s_icond, x_iblock, x_iexit, x_iret, x_iskip, T.get_set, Option.getD_some, reduceIte, Nat.reduceEqDiff, eq_self, if_true, if_false, List.getElem?_cons_zero, List.getElem?_cons_succ, Option.getD_none, Option.isSome_some, Option.isSome_none, beq_self_eq_true, Nat.reduceLT, Nat.reduceMul, Nat.reduceAdd, Nat.zero_add, Nat.one_mul, Nat.zero_mul, Bool.false_eq_true, Bool.not_false, Bool.not_true, decide_true, decide_false, t16, t17, hlt]
  exact ⟨_, rfl, rfl, rfl⟩

theorem loop {C : CallF} {LF id n : Nat} {s : List UInt8} (hs : s.length = n) (hn : n < 1000000) : ∀ (m i k : Nat) (st : St), At id n i s st → i + m = n → m < k →
    ∃ st', iter (runIC C LF lp) k st = some ⟨if nmFrom i (s.drop i) = true then .exit 0 else .ret, st'⟩ ∧ st'.rows = st.rows ∧ st'.nx = st.nx ∧ (nmFrom i (s.drop i) = false → st'.tm.get 2 = some (.bool false)) := by
  intro m
  induction m with
  | zero =>
    intro i k st h him hk
    obtain ⟨k, rfl⟩ : ∃ k', k = k' + 1 := ⟨k - 1, by omega⟩
    have : i = n := by omega
    subst this
    obtain ⟨st', h1, h2, h3⟩ := over (C := C) (LF := LF) h
    have hd : s.drop i = [] := List.drop_eq_nil_of_le (by omega)
    refine ⟨st', ?_, h2, h3, fun hh => by rw [hd] at hh; cases hh⟩
    rw [x_iter, h1, hd]; rfl
  | succ m ih =>
    intro i k st h him hk
    obtain ⟨k, rfl⟩ : ∃ k', k = k' + 1 := ⟨k - 1, by omega⟩
    have hi : i < s.length := by omega
    obtain ⟨st1, h1, h2, h3, h4, h5⟩ := round (C := C) (LF := LF) h (by omega) hn (c := s[i]) (by simp [hi])
    have hd : s.drop i = s[i] :: s.drop (i + 1) := List.drop_eq_getElem_cons hi
    rw [hd]
    show ∃ st', _ ∧ _ ∧ _ ∧ _
    cases hb : nameB s[i].toNat (decide (i = 0)) with
    | false =>
      rw [hb] at h1
      refine ⟨st1, ?_, h2, h3, fun _ => h5 hb⟩
      rw [x_iter, h1]
      simp only [nmFrom, hb, Bool.false_and, Bool.false_eq_true, if_false]
      rfl
    | true =>
      rw [hb] at h1
      obtain ⟨st', g1, g2, g3, g4⟩ := ih (i + 1) k st1 (h4 hb) (by omega) (by omega)
      refine ⟨st', ?_, g2.trans h2, g3.trans h3, fun hh => g4 (by simpa [nmFrom, hb] using hh)⟩
      rw [x_iter, h1]
      simp only [nmFrom, hb, Bool.true_and]
      exact g1
end Ev.Nm
end

/- A name, as the program sees it: the call. -/
section
namespace Ev.Nm
open Go Ev

noncomputable def rowsN (s : List UInt8) (rows : T ARow) (nx : Nat) : T ARow := if nameL s = true then rows else rows.set nx (some (.cells 0 (bytesAV s)))
def nxN (s : List UInt8) (nx : Nat) : Nat := if nameL s = true then nx else nx + 1

theorem body {C : CallF} {LF : Nat} {s : List UInt8} {rows : T ARow} {nx : Nat} (hLF : 40 < LF) :
    ∃ s', runIC C LF I.I14.body ⟨argsT [.str s] 0 .nil, rows, nx⟩ = some ⟨.ret, s'⟩ ∧ s'.tm.get 2 = some (.bool (nameV s)) ∧ s'.rows = rowsN s rows nx ∧ s'.nx = nxN s nx := by
  have h0 : (argsT [.str s] 0 .nil).get 0 = some (.str s) := rfl
  generalize argsT [.str s] 0 .nil = tm at h0
  obtain ⟨s1, e1, k1, k2, k13, k0⟩ : ∃ s1, runIC C LF (IC.lft I.I14.body) ⟨tm, rows, nx⟩ = some ⟨.normal, s1⟩ ∧ s1.rows = rows ∧ s1.nx = nx ∧ True ∧ s1.tm.get 0 = some (.str s) := by
    simp only [I.I14, IC.lft]
    simp only [x_ops_nil, x_ops, x_g, s_g, x_nil, x_cons, x_c, s_ev, x_bo, x_gd, x_mv, s_box, s_store2, s_put2, s_asCells, s_load, s_idx, s_ext, s_build2, s_lookup, s_update, s_lenM, y_lss, y_gtr, y_eql, y_neq, y_leq, y_eqS, y_lenStr, y_toBytes, y_idxSl, y_fieldAddr, x_lenS, x_not, x_pick, s_rd1, s_rd2, s_mp1, s_mp2, s_want, y_wantU, s_b1, s_b2, s_cond, s_stA, s_stI, s_ceA, x_iops, x_iseq, s_icond, x_iblock, x_iexit, x_iret, x_iskip, T.get_set, Option.getD_some, reduceIte, Nat.reduceEqDiff, eq_self, if_true, if_false, List.getElem?_cons_zero, List.getElem?_cons_succ, Option.getD_none, Option.isSome_some, Option.isSome_none, beq_self_eq_true, Nat.reduceLT, Nat.reduceMul, Nat.reduceAdd, Nat.zero_add, Nat.one_mul, Nat.zero_mul, Bool.false_eq_true, Bool.not_false, Bool.not_true, decide_true, decide_false]
    refine ⟨_, rfl, rfl, rfl, trivial, ?_⟩
    simp only [T.get_set, Nat.reduceEqDiff, if_true, if_false, reduceIte, h0]
  obtain ⟨s2, e2, m1, m2, m13, m0⟩ : ∃ s2, runIC C LF (IC.lft (IC.lft (IC.rgt I.I14.body))) s1 = some ⟨.normal, s2⟩ ∧ s2.rows = rows ∧ s2.nx = nx ∧ s2.tm.get 13 = some (.bool (nameL s)) ∧ s2.tm.get 0 = some (.str s) := by
    obtain ⟨tm1, rows1, nx1⟩ := s1
    simp only at k0 k1 k2
    subst k1; subst k2
    have q1 : decide (Int.ofNat 32 < Int.ofNat s.length) = decide (32 < s.length) := by
      by_cases h : 32 < s.length
      · rw [decide_eq_true h]; exact decide_eq_true (by simp only [Int.ofNat_eq_natCast]; omega)
      · rw [decide_eq_false h]; exact decide_eq_false (by simp only [Int.ofNat_eq_natCast]; omega)
    simp only [I.I14, IC.rgt, IC.lft]
    unfold nameL
    rw [← q1]
    cases a1 : decide (s = []) <;> cases a2 : decide (Int.ofNat 32 < Int.ofNat s.length) <;>
    · simp only [x_ops_nil, x_ops, x_g, s_g, x_nil, x_cons, x_c, s_ev, x_bo, x_gd, x_mv, s_box, s_store2, s_put2, s_asCells, s_load, s_idx, s_ext, s_build2, s_lookup, s_update, s_lenM, y_lss, y_gtr, y_eql, y_neq, y_leq, y_eqS, y_lenStr, y_toBytes, y_idxSl, y_fieldAddr, x_lenS, x_not, x_pick, s_rd1, s_rd2, s_mp1, s_mp2, s_want, y_wantU, s_b1, s_b2, s_cond, s_stA, s_stI, s_ceA, x_iops, x_iseq, s_icond, x_iblock, x_iexit, x_iret, x_iskip, T.get_set, Option.getD_some, reduceIte, Nat.reduceEqDiff, eq_self, if_true, if_false, List.getElem?_cons_zero, List.getElem?_cons_succ, Option.getD_none, Option.isSome_some, Option.isSome_none, beq_self_eq_true, Nat.reduceLT, Nat.reduceMul, Nat.reduceAdd, Nat.zero_add, Nat.one_mul, Nat.zero_mul, Bool.false_eq_true, Bool.not_false, Bool.not_true, decide_true, decide_false, k0, a1, a2]
      refine ⟨_, rfl, rfl, rfl, ?_⟩
      simp only [T.get_set, Nat.reduceEqDiff, if_true, if_false, reduceIte, k0, Bool.or_true, Bool.or_false, and_self]
  have hI : ∀ st, runIC C LF I.I14.body st = bo (runIC C LF (IC.lft I.I14.body) st) fun x => match x.e with | .normal => bo (bo (runIC C LF (IC.lft (IC.lft (IC.rgt I.I14.body))) x.s) fun x => match x.e with | .normal => runIC C LF (.cond (.t 13) (.seq (.ops [⟨none, 2, .mv, [.c (.bool false)]⟩]) .ret) .skip) x.s | e => some ⟨e, x.s⟩) (fun x => match x.e with | .normal => bo (bo (runIC C LF (IC.lft (IC.lft (IC.rgt (IC.rgt I.I14.body)))) x.s) fun x => match x.e with | .normal => runIC C LF (.block 0 (.loop lp)) x.s | e => some ⟨e, x.s⟩) (fun x => match x.e with | .normal => runIC C LF (.seq (.ops [⟨none, 2, .mv, [.c (.bool true)]⟩]) .ret) x.s | e => some ⟨e, x.s⟩) | e => some ⟨e, x.s⟩) | e => some ⟨e, x.s⟩ := fun _ => rfl
  rw [hI, e1]
  show ∃ s', bo (bo (runIC C LF (IC.lft (IC.lft (IC.rgt I.I14.body))) s1) _) _ = _ ∧ _
  rw [e2]
  show ∃ s', bo (runIC C LF (.cond (.t 13) (.seq (.ops [⟨none, 2, .mv, [.c (.bool false)]⟩]) .ret) .skip) s2) _ = _ ∧ _
  rw [x_icond _ _ m13]
  cases hL : nameL s with
  | true =>
    refine ⟨_, rfl, ?_, ?_, ?_⟩
    · rw [T.get_set, if_pos rfl]
      have : nameV s = false := by
        unfold nameL at hL
        unfold nameV
        cases h1 : decide (s = []) with
        | true => rfl
        | false =>
          rw [h1] at hL
          simp only [Bool.false_or] at hL
          rw [hL]; rfl
      rw [this]; rfl
    · unfold rowsN; rw [hL, if_pos rfl]; exact m1
    · unfold nxN; rw [hL, if_pos rfl]; exact m2
  | false =>
    have hs : s ≠ [] ∧ s.length ≤ 32 := by
      unfold nameL at hL
      simp only [Bool.or_eq_false_iff, decide_eq_false_iff_not] at hL
      exact ⟨hL.1, by omega⟩
    have hV : nameV s = nmFrom 0 s := by
      unfold nameV
      rw [decide_eq_false hs.1, decide_eq_false (by omega)]; rfl
    obtain ⟨s3, e3, p1, p2, p15, p16, p17⟩ : ∃ s3, runIC C LF (IC.lft (IC.lft (IC.rgt (IC.rgt I.I14.body)))) s2 = some ⟨.normal, s3⟩ ∧ s3.rows = rows.set nx (some (.cells 0 (bytesAV s))) ∧ s3.nx = nx + 1 ∧ s3.tm.get 15 = some (.slice nx 0 s.length (.op 1)) ∧ s3.tm.get 16 = some (.int .i64 (.ofNat s.length)) ∧ s3.tm.get 17 = some (.int .i64 (.ofNat 0)) := by
      obtain ⟨tm1, rows1, nx1⟩ := s2
      simp only at m0 m1 m2
      subst m1; subst m2
      simp only [I.I14, IC.rgt, IC.lft]
      simp only [x_ops_nil, x_ops, x_g, s_g, x_nil, x_cons, x_c, s_ev, x_bo, x_gd, x_mv, s_box, s_store2, s_put2, s_asCells, s_load, s_idx, s_ext, s_build2, s_lookup, s_update, s_lenM, y_lss, y_gtr, y_eql, y_neq, y_leq, y_eqS, y_lenStr, y_toBytes, y_idxSl, y_fieldAddr, x_lenS, x_not, x_pick, s_rd1, s_rd2, s_mp1, s_mp2, s_want, y_wantU, s_b1, s_b2, s_cond, s_stA, s_stI, s_ceA, x_iops, x_iseq, s_icond, x_iblock, x_iexit, x_iret, x_iskip, T.get_set, Option.getD_some, reduceIte, Nat.reduceEqDiff, eq_self, if_true, if_false, List.getElem?_cons_zero, List.getElem?_cons_succ, Option.getD_none, Option.isSome_some, Option.isSome_none, beq_self_eq_true, Nat.reduceLT, Nat.reduceMul, Nat.reduceAdd, Nat.zero_add, Nat.one_mul, Nat.zero_mul, Bool.false_eq_true, Bool.not_false, Bool.not_true, decide_true, decide_false, m0]
      refine ⟨_, rfl, rfl, rfl, ?_⟩
      simp only [T.get_set, Nat.reduceEqDiff, if_true, if_false, reduceIte, and_self]
    show ∃ s', bo (bo (runIC C LF (IC.lft (IC.lft (IC.rgt (IC.rgt I.I14.body)))) s2) _) _ = _ ∧ _
    rw [e3]
    show ∃ s', bo (runIC C LF (.block 0 (.loop lp)) s3) _ = _ ∧ _
    rw [x_iblock, x_iloop]
    obtain ⟨s4, g1, g2, g3, g4⟩ := loop (C := C) (LF := LF) (id := nx) (n := s.length) (s := s) rfl (by omega) s.length 0 LF s3 ⟨p15, p16, p17, by rw [p1, T.get_set, if_pos rfl]⟩ (by omega) (by omega)
    simp only [List.drop_zero] at g1 g4
    rw [g1, hV]
    have hr : s4.rows = rowsN s rows nx := by unfold rowsN; rw [hL, if_neg (by simp), g2, p1]
    have hn : s4.nx = nxN s nx := by unfold nxN; rw [hL, if_neg (by simp), g3, p2]
    cases hb : nmFrom 0 s with
    | true =>
      refine ⟨_, rfl, ?_, hr, hn⟩
      rw [T.get_set, if_pos rfl]; rfl
    | false => exact ⟨_, rfl, g4 hb, hr, hn⟩

theorem call {C : CallF} {LF : Nat} {s : List UInt8} {rows : T ARow} {nx : Nat} (hLF : 40 < LF) : evFn C LF I.I14 [.str s] rows nx = some ⟨.bool (nameV s), rowsN s rows nx, nxN s nx⟩ := by
  obtain ⟨s', h1, h2, h3, h4⟩ := body (C := C) (LF := LF) (s := s) (rows := rows) (nx := nx) hLF
  show retFn I.I14 (runIC C LF I.I14.body ⟨argsT [.str s] 0 .nil, rows, nx⟩) = _
  rw [h1]
  show bo (bo (some ((Opd.t 2).ev s'.tm)) fun v => bo (some []) fun r => some (v :: r)) (fun l => (match l with
    | [v] => some (R.mk v s'.rows s'.nx)
    | l => some (R.mk (.tup l) s'.rows s'.nx))) = _
  rw [s_ev, h2, h3, h4]
  rfl
end Ev.Nm
end

/- An oracle out of the form of a function's code: a function that reads one map that was there, and lays new rows. -/
section
namespace Ev
open Go Go.RowKit

def noC : CallF := fun _ _ _ _ => none
theorem noC_ok {P : Program} {B : Base} : CallOK (IRof P) B P noC where
  f := fun h => by cases h
  r := fun h => by cases h
  y := fun h => by cases h

def jAt (P : Program) (f : Nat) : Option (Nat × JC × List (Nat × Option Kd)) := bo P.funcs[f]? fun fn => gd (!(fn.name == "runtime.NumGoroutine")) (bo fn.body fun c => bo (compRes P fn.ntmps fn.results.toList) fun rs => some (fn.ntmps, compJ P fn.ntmps c, rs))

theorem orc_J {P : Program} {B : Base} {K : Base → Prop} (hK : K B) (hS : Stays K) {f n : Nat} {j : JC} {rs : List (Nat × Option Kd)} (hm : P.follows .mixedOrders = true) (hj : jAt P f = some (n, j, rs)) {g : List AV → T ARow → Nat → Option R} (C : CallF) (LF : Nat)
    (hC : ∀ B, K B → CallOK (IRof P) B P C)
    (hg : ∀ args rows nx r, g args rows nx = some r → ∃ b es, (rows.get b = some (.map es) ∨ rows.get b = some (.roM es)) ∧ args.length ≤ n ∧ (b < nx → JRuns C LF [b] j ⟨argsT args 0 .nil, (T.nil : T ARow).set b (some (.roM es)), nx⟩
      fun x => (∀ id, x.e ≠ .exit id) ∧ ∃ vs, evRes x.s rs = some vs ∧ retV vs = r.v ∧ x.s.nx = r.nx ∧ ∀ b' q, r.rows.get b' = some q → rows.get b' = some q ∨ (x.s.rows.get b' = some q ∧ q.isRo = false))) : OrcOK B P f g := by
  intro ι rows w nx args us r he h hfr ha
  obtain ⟨fn, hf, hj1⟩ := bo_some.1 hj
  obtain ⟨hname, hj2⟩ := gd_some.1 hj1
  obtain ⟨c, hb, hj3⟩ := bo_some.1 hj2
  obtain ⟨rs', hrs, hj4⟩ := bo_some.1 hj3
  simp only [Option.some.injEq, Prod.mk.injEq] at hj4
  obtain ⟨rfl, hjc, rfl⟩ := hj4
  obtain ⟨b, es, hbr, hl, hJ⟩ := hg args rows nx r he
  have hn : fn.name ≠ "runtime.NumGoroutine" := by simpa using hname
  rw [callFunc_enter hf (by rw [hb]; rfl) hn w]
  refine ⟨rfl, ?_⟩
  have h0 := HRel.readMap h hbr
  have hιb : ∃ L, ι b = some L := by
    obtain ⟨L, o, h1, _⟩ := h0.row b _ (by rw [T.get_set, if_pos rfl])
    exact ⟨L, h1⟩
  obtain ⟨L, hL⟩ := hιb
  have hbn : b < nx := by
    rcases Nat.lt_or_ge b nx with h1 | h1
    · exact h1
    · rw [hfr b h1] at hL; cases hL
  have hlow := HRel.readMap_low h0
  have hcall := calls_J (kb := [b]) (Z := fun r' => r'.v = r.v ∧ r'.nx = r.nx ∧ ∀ b' q, r.rows.get b' = some q → rows.get b' = some q ∨ (r'.rows.get b' = some q ∧ q.isRo = false)) hm hC (hS B w hK h.below h.room) hS hf hb hjc hrs hl h0 hfr ha (fun b' hb' => by
    simp only [List.mem_singleton] at hb'
    subst hb'
    exact ⟨L, hL, hlow L hL⟩) (LF := LF) (by
    have := hJ hbn
    refine JRuns.mono (fun x hx => ?_) j this
    obtain ⟨h1, vs, h2, h3, h4, h5⟩ := hx
    exact ⟨h1, vs, h2, h3, h4, h5⟩)
  refine Calls.mono hcall fun e w'' he' => ?_
  obtain ⟨r', v, ι', ⟨h1, h2, h3⟩, rfl, h4, h5⟩ := he'
  rw [h2] at h5
  rw [h1] at h4
  exact ⟨v, ι', rfl, h4, Post.rebase h h5 h3⟩
end Ev
end

/- A package variable's table in the world at the start: tables of answers, closed runs, rows that are turned in place. -/
section
namespace Ev
open Go Go.RowKit

/-- Package variable g holds such cells. -/
def PowW (g : Nat) (tbl : List AV) (w : World) : Prop := ∃ c e fz, w.heap[g]? = some (.cells c e fz) ∧ CellsAt (fun _ => none) c 0 tbl
def KG (g : Nat) (tbl : List AV) (B : Base) : Prop := g < B.n ∧ PowW g tbl B.w
theorem KG.stays {g : Nat} {tbl : List AV} : Stays (KG g tbl) := by
  intro B w ⟨h1, c, e, fz, h2, h3⟩ hb hs
  exact ⟨Nat.lt_of_lt_of_le h1 hs, c, e, fz, by rw [hb.block g h1]; exact h2, h3⟩
theorem PowW.kg {g : Nat} {tbl : List AV} {w : World} (h : PowW g tbl w) : KG g tbl ⟨w.heap.size, w⟩ := by
  obtain ⟨c, e, fz, h1, h2⟩ := h
  exact ⟨(Array.getElem?_eq_some_iff.1 h1).1, c, e, fz, h1, h2⟩
theorem KG.at {g : Nat} {tbl : List AV} {B : Base} {IR : Nat → IC → Code → Prop} {ι : Io} {rows : T ARow} {w : World} (h : KG g tbl B) (hh : HRel IR B ι rows w) : PowW g tbl w := by
  obtain ⟨h1, c, e, fz, h2, h3⟩ := h
  exact ⟨c, e, fz, by rw [hh.below.block g h1]; exact h2, h3⟩

noncomputable def g0 (g : Nat) (tbl : List AV) : T ARow := (T.nil : T ARow).set g (some (.ro (Nat.succ g) tbl))
def ι0 (g : Nat) : Io := fun b => if b = g then some ⟨g, 0, 0⟩ else none
theorem g0_get {g : Nat} {tbl : List AV} {b : Nat} {q : ARow} (e : (g0 g tbl).get b = some q) : b = g ∧ q = .ro (g+1) tbl := by
  unfold g0 at e
  rw [T.get_set] at e
  split at e
  · rename_i hb
    simp only [Option.some.injEq] at e
    exact ⟨hb, e.symm⟩
  · rw [T.get_nil] at e; cases e
theorem g0_rel {g : Nat} {tbl : List AV} {w : World} {IR : Nat → IC → Code → Prop} (h : PowW g tbl w) : HRel IR ⟨w.heap.size, w⟩ (ι0 g) (g0 g tbl) w := by
  obtain ⟨c, e, fz, h1, h2⟩ := h
  refine ⟨fun b q e' => ?_, fun b1 b2 q1 q2 L1 L2 e1 e2 _ _ _ => ?_, fun b q L e' _ hro => ?_, .refl _ _, Nat.le_refl _⟩
  · obtain ⟨rfl, rfl⟩ := g0_get e'
    exact ⟨⟨b, 0, 0⟩, _, if_pos rfl, h1, .ro (h2.mono fun b L e => by cases e) (.inr ⟨rfl, rfl⟩)⟩
  · rw [(g0_get e1).1, (g0_get e2).1]
  · obtain ⟨rfl, rfl⟩ := g0_get e'
    cases hro

section
variable {P : Program} {B : Base} {g : Nat} {tbl : List AV}

theorem closedG {orc : Nat → Option (List AV → T ARow → Nat → Option R)} {fns : T IFn} {LF fuel f : Nat} (hm : P.follows .mixedOrders = true) (hfns : Tied P fns) (horc : ∀ (B : Base), KG g tbl B → ∀ f o, orc f = some o → OrcOK B P f o) {v : Value} {a : AV}
    (he : (bo (evCall orc fns LF fuel (.r f) [] (g0 g tbl) (Nat.succ g)) fun r => some r.v) = some a) (hv : ∀ ι u, VRel ι a u → u = v) (w : World) (hw : PowW g tbl w) : Calls P f #[] w fun e w' => e = .returned v ∧ Below w.heap.size w w' := by
  obtain ⟨r, h1, h2⟩ := bo_some.1 he
  simp only [Option.some.injEq] at h2
  have hC := evCall_ok (B := ⟨w.heap.size, w⟩) (LF := LF) hm hfns (horc _ hw.kg) fuel
  obtain ⟨_, h3⟩ := hC.r h1 (g0_rel hw) (fun b hb => if_neg (by omega)) .nil
  refine Calls.mono h3 fun e w' he' => ?_
  obtain ⟨u, ι', rfl, h4, h5⟩ := he'
  rw [h2] at h4
  exact ⟨by rw [hv ι' u h4], h5.hrel.below⟩

/-- A row of a table of answers. -/
def RowG (P : Program) (g : Nat) (tbl : List AV) (f : Nat) (e : List AV × AV) : Prop := ∀ (ι : Io) (us : List Value) (w : World), PowW g tbl w → VRelL ι e.1 us → (callFunc f ⟨us⟩).run P w = .ok (.enter f ⟨us⟩) w ∧ Calls P f ⟨us⟩ w fun en w' => ∃ u, en = .returned u ∧ VRel ι e.2 u ∧ Below w.heap.size w w'

theorem row_okG {orc : Nat → Option (List AV → T ARow → Nat → Option R)} {fns : T IFn} {LF fuel f : Nat} (hm : P.follows .mixedOrders = true) (hfns : Tied P fns) (horc : ∀ (B : Base), KG g tbl B → ∀ f o, orc f = some o → OrcOK B P f o) {args : List AV} {a : AV}
    (he : (bo (evCall orc fns LF fuel (.r f) args (g0 g tbl) (Nat.succ g)) fun r => gd (flatL args && flat r.v) (some r.v)) = some a) : RowG P g tbl f (args, a) := by
  intro ι us w hw hu
  obtain ⟨r, h1, h2⟩ := bo_some.1 he
  obtain ⟨h3, h4⟩ := gd_some.1 h2
  simp only [Bool.and_eq_true] at h3
  simp only [Option.some.injEq] at h4
  have hC := evCall_ok (B := ⟨w.heap.size, w⟩) (LF := LF) hm hfns (horc _ hw.kg) fuel
  obtain ⟨q1, q2⟩ := hC.r h1 (g0_rel hw) (fun b hb => if_neg (by omega)) (flatL_rel h3.1 hu)
  refine ⟨q1, Calls.mono q2 fun e w' he' => ?_⟩
  obtain ⟨u, ι', rfl, h5, h6⟩ := he'
  refine ⟨u, rfl, ?_, h6.hrel.below⟩
  rw [← h4]
  exact flat_rel h3.2 h5

theorem memo_okG {f : Nat} {t : List (List AV × AV)} (hK : KG g tbl B) (h : ∀ e ∈ t, RowG P g tbl f e) : OrcOK B P f (memo t) := by
  intro ι rows w nx args us r he hh hfr ha
  obtain ⟨v, h1, h2⟩ := bo_some.1 he
  simp only [Option.some.injEq] at h2
  subst h2
  obtain ⟨q1, q2⟩ := h _ (lookM_some h1) ι us w (hK.at hh) ha
  rw [q1]
  refine ⟨rfl, Calls.mono q2 fun e w' he' => ?_⟩
  obtain ⟨u, rfl, h3, h4⟩ := he'
  refine ⟨u, ι, rfl, h3, ?_⟩
  have hb : ∀ k, k < w.heap.size → w'.heap[k]? = w.heap[k]? := fun k hk => h4.block k hk
  have hs : w.heap.size ≤ w'.heap.size := h4.size
  refine ⟨.refl _, fun _ _ _ => rfl, fun _ _ => rfl, Nat.le_refl _, ⟨fun b r e => ?_, hh.inj, hh.low, ?_, Nat.le_trans hh.room hs⟩, fun k hk _ => hb k hk, hs, fun k hk => .inl hk⟩
  · obtain ⟨L, o, g1, g2, g3⟩ := hh.row b r e
    exact ⟨L, o, g1, by rw [hb _ (Array.getElem?_eq_some_iff.1 g2).1]; exact g2, g3⟩
  · refine hh.below.trans ⟨h4.os, h4.tape, h4.output, ?_, fun k hk => hb k (by have := hh.room; omega)⟩
    omega

/-! ### a row that is turned in place -/
/-- Rows that a function turns, by a table. -/
noncomputable def lookR (t : List (List AV × List AV)) (l : List AV) : Option (List AV) := List.rec none (fun e _ ih => match sameL e.1 l with | true => some e.2 | false => ih) t
theorem lookR_some : ∀ {t : List (List AV × List AV)} {l m : List AV}, lookR t l = some m → (l, m) ∈ t
  | [], _, _, h => by cases h
  | e :: t, l, m, h => by
    have h : (match sameL e.1 l with | true => some e.2 | false => lookR t l) = some m := h
    cases hs : sameL e.1 l with
    | true =>
      rw [hs] at h
      simp only [Option.some.injEq] at h
      have := sameL_eq hs
      rw [← this, ← h]
      exact List.mem_cons_self
    | false =>
      rw [hs] at h
      exact List.mem_cons_of_mem _ (lookR_some h)
noncomputable def turnO (tg sz k fv : Nat) (t : List (List AV × List AV)) : Orc := fun args rows nx => match args with
  | s :: h :: e => (match s with
    | .slice b o len c => (match c with
      | .op z => (match h with
        | .fn f cap => (match cap with
          | [] => (match e with
            | [] => gd (Nat.beq o 0 && (Nat.beq len k && (Nat.beq z sz && Nat.beq f fv))) (asCells (rows.get b) fun g l => gd (Nat.beq g tg) (bo (lookR t l) fun m => some ⟨.tup [], rows.set b (some (.cells g m)), nx⟩))
            | _ => none)
          | _ => none)
        | _ => none)
      | _ => none)
    | _ => none)
  | _ => none

/-- A row of such a table: a run over that row alone. -/
def TurnOK (ev : List AV → T ARow → Nat → Option R) (tg sz k fv : Nat) (e : List AV × List AV) : Prop :=
  flatL e.1 = true ∧ flatL e.2 = true ∧ ∃ r, ev [.slice 0 0 k (.op sz), .fn fv []] ((T.nil : T ARow).set 0 (some (.cells tg e.1))) 1 = some r ∧ r.v = .tup [] ∧ r.rows.get 0 = some (.cells tg e.2)

theorem cells_flat {ι ι' : Io} {c : Array Value} {o : Nat} {l : List AV} (hl : flatL l = true) (h : CellsAt ι c o l) : CellsAt ι' c o l := by
  intro i a ha
  obtain ⟨v, h1, h2, h3⟩ := h i a ha
  refine ⟨v, h1, ?_, h3⟩
  have : ∀ {l : List AV} {i : Nat} {a : AV}, flatL l = true → l[i]? = some a → flat a = true := by
    intro l
    induction l with
    | nil => intro i a _ h; simp at h
    | cons x l ih =>
      intro i a hf h
      simp only [flatL, Bool.and_eq_true] at hf
      cases i with
      | zero => simp at h; subst h; exact hf.1
      | succ i => exact ih hf.2 (by simpa using h)
  exact flat_rel (this hl ha) h2

theorem turn_ok {orc : Nat → Option (List AV → T ARow → Nat → Option R)} {fns : T IFn} {LF fuel f tg sz k fv : Nat} {t : List (List AV × List AV)} (hm : P.follows .mixedOrders = true) (hfns : Tied P fns) (horc : ∀ f o, orc f = some o → OrcOK B P f o)
    (ht : ∀ e ∈ t, TurnOK (evCall orc fns LF fuel (.r f)) tg sz k fv e) : OrcOK B P f (turnO tg sz k fv t) := by
  intro ι rows w nx args us r he h hfr ha
  unfold turnO at he
  repeat (split at he <;> try (cases he; done))
  rename_i b o len _ z _ f' _ _
  obtain ⟨hg, he2⟩ := gd_some.1 he
  simp only [beq_nat, Bool.and_eq_true, decide_eq_true_eq] at hg
  obtain ⟨rfl, rfl, rfl, rfl⟩ := hg
  obtain ⟨g', l, hb, he3⟩ := asCells_some.1 he2
  obtain ⟨hg', he4⟩ := gd_some.1 he3
  rw [beq_nat] at hg'
  simp only [decide_eq_true_eq] at hg'
  subst hg'
  obtain ⟨m, hl, he5⟩ := bo_some.1 he4
  simp only [Option.some.injEq] at he5
  subst he5
  obtain ⟨f1, f2, r, hr, hv, hr0⟩ := ht _ (lookR_some hl)
  obtain ⟨L, ob, hL, hw, hrel⟩ := h.row b _ hb
  let ιx : Io := fun q => if q = 0 then some L else none
  have hιx : ιx 0 = some L := if_pos rfl
  have hget : ∀ b' q, ((T.nil : T ARow).set 0 (some (.cells g' l))).get b' = some q → b' = 0 ∧ q = .cells g' l := fun b' q e => by
    rw [T.get_set] at e
    split at e
    · rename_i hb'
      simp only [Option.some.injEq] at e
      exact ⟨hb', e.symm⟩
    · rw [T.get_nil] at e; cases e
  have h0 : HRel (IRof P) B ιx ((T.nil : T ARow).set 0 (some (.cells g' l))) w := by
    refine ⟨fun b' q e => ?_, fun b1 b2 q1 q2 L1 L2 e1 e2 _ _ _ => ?_, fun b' q L' e i hro => ?_, h.below, h.room⟩
    · obtain ⟨rfl, rfl⟩ := hget b' q e
      refine ⟨L, ob, hιx, hw, ?_⟩
      cases hrel with
      | cells a1 a2 a3 a4 a5 => exact .cells a1 (cells_flat f1 a2) a3 a4 a5
    · rw [(hget _ _ e1).1, (hget _ _ e2).1]
    · obtain ⟨rfl, rfl⟩ := hget b' q e
      rw [hιx] at i; cases i
      exact h.low b _ L hb hL rfl
  have ha0 : VRelL ιx [.slice 0 0 len (.op z), .fn f' []] us := by
    cases ha with
    | cons a1 t1 => cases t1 with
      | cons a2 t2 =>
        cases t2
        refine .cons ?_ (.cons ?_ .nil)
        · cases a1 with
          | sliceOp i1 i2 i3 =>
            rw [hL] at i1; cases i1
            exact .sliceOp hιx i2 i3
        · cases a2 with
          | fn hl => cases hl; exact .fn .nil
  have hC := evCall_ok (B := B) (LF := LF) hm hfns horc fuel
  obtain ⟨q1, q2⟩ := hC.r hr h0 (fun b hb => if_neg (by omega)) ha0
  rw [q1]
  refine ⟨rfl, Calls.mono q2 fun e w' he' => ?_⟩
  obtain ⟨u, ι', rfl, h5, h6⟩ := he'
  rw [hv] at h5
  refine ⟨u, ι, rfl, by cases h5 with | tup h => cases h; exact .tup .nil, ?_⟩
  have hnot : ∀ k, k ≠ L.blk → ¬ Owns ιx ((T.nil : T ARow).set 0 (some (.cells g' l))) k := by
    rintro k hk ⟨b', q, L', e, i, rfl⟩
    obtain ⟨rfl, rfl⟩ := hget b' q e
    rw [hιx] at i; cases i
    exact hk rfl
  obtain ⟨L', o', k1, k2, k3⟩ := h6.hrel.row 0 _ hr0
  have := h6.ext _ _ hιx
  rw [this] at k1; cases k1
  have hLs : L.blk < w.heap.size := (Array.getElem?_eq_some_iff.1 hw).1
  have hg2 : ∀ b' q, (rows.set b (some (.cells g' m))).get b' = some q → (b' = b ∧ q = .cells g' m) ∨ (b' ≠ b ∧ rows.get b' = some q) := fun b' q e => by
    rw [T.get_set] at e
    split at e
    · rename_i hb'
      simp only [Option.some.injEq] at e
      exact .inl ⟨hb', e.symm⟩
    · rename_i hb'; exact .inr ⟨hb', e⟩
  have hold : ∀ b' q, (rows.set b (some (.cells g' m))).get b' = some q → ∃ q', rows.get b' = some q' ∧ (q.isRo = false → q'.isRo = false) := fun b' q e => by
    rcases hg2 b' q e with ⟨rfl, rfl⟩ | ⟨_, h2⟩
    · exact ⟨_, hb, fun _ => rfl⟩
    · exact ⟨q, h2, id⟩
  refine ⟨.refl _, fun _ _ _ => rfl, fun _ _ => rfl, Nat.le_refl _, ⟨fun b' q e => ?_, fun b1 b2 q1 q2 L1 L2 e1 e2 i1 i2 hk => ?_, fun b' q L' e i hro => ?_, h6.hrel.below, h6.hrel.room⟩, fun k hk ho => h6.frame k hk (hnot k fun e => ho ⟨b, _, L, hb, hL, e.symm⟩), h6.size, fun k ⟨b', q, L', e, i, hk⟩ => ?_⟩
  · rcases hg2 b' q e with ⟨rfl, rfl⟩ | ⟨h1, h2⟩
    · refine ⟨L, o', hL, k2, ?_⟩
      cases k3 with
      | cells a1 a2 a3 a4 a5 => exact .cells a1 (cells_flat f2 a2) a3 a4 a5
    · obtain ⟨M, om, j1, j2, j3⟩ := h.row b' q h2
      refine ⟨M, om, j1, ?_, j3⟩
      rw [h6.frame _ (Array.getElem?_eq_some_iff.1 j2).1 (hnot _ fun e => h1 (h.inj b' b q _ M L h2 hb j1 hL e))]
      exact j2
  · obtain ⟨_, e1', _⟩ := hold b1 q1 e1
    obtain ⟨_, e2', _⟩ := hold b2 q2 e2
    exact h.inj b1 b2 _ _ L1 L2 e1' e2' i1 i2 hk
  · obtain ⟨_, e', hr'⟩ := hold b' q e
    exact h.low b' _ L' e' i (hr' hro)
  · obtain ⟨_, e', _⟩ := hold b' q e
    exact .inl ⟨b', _, L', e', i, hk⟩
end
end Ev
end

/- An oracle that is a plain function of flat arguments; rules for structs of three parts. -/
section
namespace Ev
open Go Go.RowKit

noncomputable def oFun (g : List AV → Option AV) : Orc := fun args rows nx => bo (g args) fun v => some ⟨v, rows, nx⟩
theorem fun_okG {P : Program} {B : Base} {g : Nat} {tbl : List AV} {f : Nat} {G : List AV → Option AV} (hK : KG g tbl B) (h : ∀ args v, G args = some v → RowG P g tbl f (args, v)) : OrcOK B P f (oFun G) := by
  intro ι rows w nx args us r he hh hfr ha
  obtain ⟨v, h1, h2⟩ := bo_some.1 he
  simp only [Option.some.injEq] at h2
  subst h2
  obtain ⟨q1, q2⟩ := h _ _ h1 ι us w (hK.at hh) ha
  rw [q1]
  refine ⟨rfl, Calls.mono q2 fun e w' he' => ?_⟩
  obtain ⟨u, rfl, h3, h4⟩ := he'
  refine ⟨u, ι, rfl, h3, ?_⟩
  have hb : ∀ k, k < w.heap.size → w'.heap[k]? = w.heap[k]? := fun k hk => h4.block k hk
  have hs : w.heap.size ≤ w'.heap.size := h4.size
  refine ⟨.refl _, fun _ _ _ => rfl, fun _ _ => rfl, Nat.le_refl _, ⟨fun b r e => ?_, hh.inj, hh.low, ?_, Nat.le_trans hh.room hs⟩, fun k hk _ => hb k hk, hs, fun k hk => .inl hk⟩
  · obtain ⟨L, o, g1, g2, g3⟩ := hh.row b r e
    exact ⟨L, o, g1, by rw [hb _ (Array.getElem?_eq_some_iff.1 g2).1]; exact g2, g3⟩
  · refine hh.below.trans ⟨h4.os, h4.tape, h4.output, ?_, fun k hk => hb k (by have := hh.room; omega)⟩
    omega

/-- A row out of a function's run. -/
theorem fn_row {P : Program} {g : Nat} {tbl : List AV} {orc : Nat → Option Orc} {fns : T IFn} {LF fuel f : Nat} {ir : IFn} (hm : P.follows .mixedOrders = true) (hfns : Tied P fns) (horc : ∀ (B : Base), KG g tbl B → ∀ f o, orc f = some o → OrcOK B P f o) (hf : fns.get f = some ir) {args : List AV} {a : AV}
    (hn : Nat.ble (lenN args) ir.n = true) (hfl : (flatL args && flat a) = true) (hr : ∃ rows nx, evFn (evCall orc fns LF fuel) LF ir args (g0 g tbl) (Nat.succ g) = some ⟨a, rows, nx⟩) : RowG P g tbl f (args, a) := by
  refine row_okG (LF := LF) (fuel := fuel + 1) hm hfns horc ?_
  obtain ⟨rows, nx, hr⟩ := hr
  show bo (bo (fns.get f) fun fn => evFn (evCall orc fns LF fuel) LF fn args (g0 g tbl) (Nat.succ g)) _ = _
  rw [hf]
  show bo (evFn (evCall orc fns LF fuel) LF ir args (g0 g tbl) (Nat.succ g)) _ = _
  rw [hr]
  show gd (flatL args && flat a) (some a) = some a
  rw [hfl]; rfl

section
variable {C : CallF} {LF : Nat} {rows : T ARow} {nx : Nat}
theorem z_stS (s : List UInt8) : (AV.str s).stored = true := rfl
theorem z_loadM (b n : Nat) : evK [.ptr b 0] rows nx C (.load (.many n)) = bo (rdO (rows.get b)) fun l => bo (takeN n l) fun r => some ⟨.agg r, rows, nx⟩ := by
  show bo (asRead (rows.get b) fun l => kd (.many n) (dropN 0 l)) (fun v => rv rows nx v) = _
  have key : ∀ l : List AV, bo (kd (.many n) (dropN 0 l)) (fun v => rv rows nx v) = bo (takeN n l) fun r => some ⟨.agg r, rows, nx⟩ := fun l => by
    show bo (bo (takeN n l) fun r => some (AV.agg r)) _ = _
    cases takeN n l <;> rfl
  cases h : rows.get b with
  | none => rfl
  | some q => cases q <;> first
    | rfl
    | (show bo (kd (.many n) (dropN 0 _)) _ = bo _ _; rw [key]; rfl)
theorem z_take3 (a b c : AV) : takeN 3 [a, b, c] = some [a, b, c] := rfl
theorem z_take4 (a b c d : AV) : takeN 4 [a, b, c, d] = some [a, b, c, d] := rfl
theorem z_store3 (b : Nat) (p q r : AV) : evK [.ptr b 0, .agg [p, q, r]] rows nx C (.store (.many 3)) = asCells (rows.get b) (fun g l => bo (putN [p, q, r] 0 l) fun l => some ⟨.undef, rows.set b (some (.cells g l)), nx⟩) := rfl
theorem z_put3 (p q r x y z : AV) : putN [p, q, r] 0 [x, y, z] = some [p, q, r] := rfl
theorem z_storeI (b o : Nat) (k : IntKind) (n : Int) : evK [.ptr b o, .int k n] rows nx C (.store .one) = asCells (rows.get b) (fun g l => bo (putN [.int k n] o l) fun l => some ⟨.undef, rows.set b (some (.cells g l)), nx⟩) := rfl
theorem z_put1 (p x y z : AV) : putN [p] 0 [x, y, z] = some [p, y, z] := rfl
theorem z_build0 (z : List AV) : evK [] rows nx C (.build z []) = some ⟨.agg z, rows, nx⟩ := rfl
theorem z_build12 (z x y : AV) (a b : List UInt8) : evK [.str a, .str b] rows nx C (.build [z, x, y] [(1, .one), (2, .one)]) = some ⟨.agg [z, .str a, .str b], rows, nx⟩ := rfl
theorem z_build012 (z x y : AV) (k : IntKind) (n : Int) (a b : List UInt8) : evK [.int k n, .str a, .str b] rows nx C (.build [z, x, y] [(0, .one), (1, .one), (2, .one)]) = some ⟨.agg [.int k n, .str a, .str b], rows, nx⟩ := rfl
theorem z_binA3 (i j : Int) (a b c d : List UInt8) (hi : inR .i64 i = true) (hj : inR .i64 j = true) (ha : a.length ≤ 1000000) (hb : b.length ≤ 1000000) (hc : c.length ≤ 1000000) (hd : d.length ≤ 1000000) :
    evK [.agg [.int .i64 i, .str a, .str b], .agg [.int .i64 j, .str c, .str d]] rows nx C (.rare (.binA false [.int .i64, .str, .str])) = some ⟨.bool (decide (i = j ∧ a = c ∧ b = d)), rows, nx⟩ := by
  have e1 : eqL [.int .i64, .str, .str] [.int .i64 i, .str a, .str b] [.int .i64 j, .str c, .str d] = some (decide (i = j ∧ a = c ∧ b = d)) := by
    show bo (eq1 (.int .i64) (.int .i64 i) (.int .i64 j)) (fun e => bo (bo (eq1 .str (.str a) (.str c)) fun e => bo (bo (eq1 .str (.str b) (.str d)) fun e => bo (some true) fun r => some (match e with | true => r | false => false)) fun r => some (match e with | true => r | false => false)) fun r => some (match e with | true => r | false => false)) = _
    have f1 : eq1 (.int .i64) (.int .i64 i) (.int .i64 j) = some (decide (i = j)) := by
      show gd ((IntKind.i64 == IntKind.i64) && ((IntKind.i64 == IntKind.i64) && (inR .i64 i && inR .i64 j))) (some (eqI i j)) = _
      simp [hi, hj, gd, eqI_eq]
    have f2 : ∀ {a c : List UInt8}, a.length ≤ 1000000 → c.length ≤ 1000000 → eq1 .str (.str a) (.str c) = some (decide (a = c)) := fun {a c} ha hc => by
      show gd (Nat.ble (lenN a) 1000000 && Nat.ble (lenN c) 1000000) (some (beqB a c)) = _
      rw [lenN_eq, lenN_eq, ble_nat, ble_nat, decide_eq_true ha, decide_eq_true hc, beqB_eq]; rfl
    rw [f1, f2 ha hc, f2 hb hd]
    by_cases h1 : i = j <;> by_cases h2 : a = c <;> by_cases h3 : b = d <;> simp [bo, h1, h2, h3]
  show bo (eqL [.int .i64, .str, .str] [.int .i64 i, .str a, .str b] [.int .i64 j, .str c, .str d]) (fun b => rv rows nx (.bool (flipB false b))) = _
  rw [e1]; rfl

theorem d_draw (m : Nat) (l : List DOp) (rest : List Nat) (s : St) : runIC C LF (.draw m l rest) s = bo (bo (evDs C s.nx l ⟨s.tm, s.rows, s.nx + m, [], [], []⟩) fun t => gd (chkLg C ((m, t.rows) :: t.eps) t.lg) (some ⟨t.tm, account s.nx t.al t.rows rest, t.nx⟩)) fun s => some ⟨.normal, s⟩ := rfl
theorem d_nil (n0 : Nat) (s : DS) : evDs C n0 [] s = some s := rfl
theorem d_cons (n0 : Nat) (d : DOp) (l : List DOp) (s : DS) : evDs C n0 (d :: l) s = bo (evD C n0 d s) (evDs C n0 l) := rfl
theorem d_p (n0 i lo hi d : Nat) (acc : List Nat) (chk : Bool) (k : K) (xs : List Opd) (s : DS) : evD C n0 ⟨i, .p, acc, lo, hi, chk, ⟨none, d, k, xs⟩⟩ s = bo (evK (evList s.tm xs) s.rows n0 C k) fun r => some ⟨s.tm.set d (some r.v), s.rows, s.nx, s.al, s.eps, s.lg⟩ := rfl
theorem d_l (n0 i lo hi d : Nat) (acc : List Nat) (k : K) (xs : List Opd) (s : DS) : evD C n0 ⟨i, .l, acc, lo, hi, false, ⟨none, d, k, xs⟩⟩ s = bo (evK (evList s.tm xs) s.rows n0 C k) fun r => some ⟨s.tm.set d (some r.v), s.rows, s.nx, s.al, s.eps, s.lg⟩ := rfl
theorem d_a (n0 i lo hi d : Nat) (acc : List Nat) (chk : Bool) (k : K) (xs : List Opd) (s : DS) : evD C n0 ⟨i, .a, acc, lo, hi, chk, ⟨none, d, k, xs⟩⟩ s = bo (evK (evList s.tm xs) s.rows (n0 + i) C k) fun r => bo (r.rows.get (n0 + i)) fun row => some ⟨s.tm.set d (some r.v), s.rows, s.nx, (i, row) :: s.al, s.eps, s.lg⟩ := rfl
theorem d_c (n0 i lo hi d : Nat) (acc : List Nat) (chk : Bool) (k : K) (xs : List Opd) (s : DS) : evD C n0 ⟨i, .c, acc, lo, hi, chk, ⟨none, d, k, xs⟩⟩ s = bo (evK (evList s.tm xs) (account n0 s.al s.rows acc) s.nx C k) fun r => some ⟨s.tm.set d (some r.v), r.rows, r.nx, s.al, (i, s.rows) :: s.eps, s.lg⟩ := rfl
theorem d_lg (eps : List (Nat × T ARow)) : chkLg C eps [] = true := rfl
theorem d_ac0 (n0 : Nat) (al : List (Nat × ARow)) (rows : T ARow) : account n0 al rows [] = rows := rfl
theorem d_ac1 (n0 i : Nat) (row : ARow) (rows : T ARow) : account n0 [(i, row)] rows [i] = rows.set (n0 + i) (some row) := by
  show accOne n0 i (Bool.rec none (some row) (Nat.beq i i)) rows = _
  rw [beq_nat, decide_eq_true rfl]; rfl
theorem z_build5 (z x y v w : AV) (a b c d e : Int) (k : IntKind) : evK [.int k a, .int k b, .int k c, .int k d, .int k e] rows nx C (.build [z, x, y, v, w] [(0, .one), (1, .one), (2, .one), (3, .one), (4, .one)]) = some ⟨.agg [.int k a, .int k b, .int k c, .int k d, .int k e], rows, nx⟩ := rfl
theorem z_idxArr (n i : Nat) (l : List AV) (k : IntKind) : evK [.agg l, .int k (.ofNat i)] rows nx C (.rare (.indexArr n 1 .one)) = if i < n then (bo l[i]? fun v => some ⟨v, rows, nx⟩) else none := by
  show gd (Nat.blt i n) (bo (kd .one (dropN (Nat.mul i 1) l)) fun v => rv rows nx v) = _
  have e1 : kd .one (dropN (Nat.mul i 1) l) = l[i]? := by
    show getN 0 (dropN (Nat.mul i 1) l) = _
    rw [getN_eq, dropN_eq]; simp
  rw [e1, blt_nat]
  by_cases h : i < n <;> simp [h, gd] <;> rfl
theorem r_res0 (s : St) : evRes s [] = some [] := rfl
theorem r_resT (s : St) (t : Nat) (l : List (Nat × Option Kd)) : evRes s ((t, none) :: l) = bo (evRes s l) fun r => some ((s.tm.get t).getD .undef :: r) := by
  show bo (some ((Opd.t t).ev s.tm)) (fun v => bo (evRes s l) fun r => some (v :: r)) = _
  rw [s_ev]; rfl
end
end Ev
end

/- An oracle out of the form of a function's code: a function that hands back a slice of its own. -/
section
namespace Ev
open Go Go.RowKit

theorem Post.sub {IR : Nat → IC → Code → Prop} {B : Base} {ι ι' : Io} {rows rows' rows2 : T ARow} {w w' : World} {nx nx' : Nat} (h : Post IR B ι ι' rows w nx rows' nx' w') (hs : RLe rows2 rows') : Post IR B ι ι' rows w nx rows2 nx' w' :=
  ⟨h.ext, h.new, h.old, h.le, h.hrel.sub hs, h.frame, h.size, fun k ⟨b, q, L, e, i, hk⟩ => h.own k ⟨b, q, L, hs _ _ e, i, hk⟩⟩

theorem orc_J2 {P : Program} {B : Base} {K : Base → Prop} (hK : K B) (hS : Stays K) {f n : Nat} {j : JC} {rs : List (Nat × Option Kd)} (hm : P.follows .mixedOrders = true) (hj : jAt P f = some (n, j, rs)) {g : List AV → T ARow → Nat → Option R} (C : CallF) (LF : Nat)
    (hC : ∀ B, K B → CallOK (IRof P) B P C)
    (hg : ∀ args rows nx r, g args rows nx = some r → args.length ≤ n ∧ ∃ k sz v2 cl rowsr N, r = ⟨.tup [.slice N 0 k (.op sz), v2], rowsr, N + 1⟩ ∧ flat v2 = true ∧ cl.isRo = false ∧ JRuns C LF [] j ⟨argsT args 0 .nil, rows, nx⟩
      fun x => (∀ id, x.e ≠ .exit id) ∧ ∃ vs id, evRes x.s rs = some vs ∧ retV vs = .tup [.slice id 0 k (.op sz), v2] ∧ x.s.rows.get id = some cl ∧ x.s.nx = N ∧ ∀ b' q, rowsr.get b' = some q → (b' = N ∧ q = cl) ∨ (b' ≠ id ∧ b' ≠ N ∧ x.s.rows.get b' = some q)) : OrcOK B P f g := by
  intro ι rows w nx args us r he h hfr ha
  obtain ⟨fn, hf, hj1⟩ := bo_some.1 hj
  obtain ⟨hname, hj2⟩ := gd_some.1 hj1
  obtain ⟨c, hb, hj3⟩ := bo_some.1 hj2
  obtain ⟨rs', hrs, hj4⟩ := bo_some.1 hj3
  simp only [Option.some.injEq, Prod.mk.injEq] at hj4
  obtain ⟨rfl, hjc, rfl⟩ := hj4
  obtain ⟨hl, k, sz, v2, cl, rowsr, N, rfl, hv2, hro, hJ⟩ := hg args rows nx r he
  have hn : fn.name ≠ "runtime.NumGoroutine" := by simpa using hname
  rw [callFunc_enter hf (by rw [hb]; rfl) hn w]
  refine ⟨rfl, ?_⟩
  have hcall := calls_J (kb := []) (Z := fun r' => ∃ id, r'.v = .tup [.slice id 0 k (.op sz), v2] ∧ r'.rows.get id = some cl ∧ r'.nx = N ∧ ∀ b' q, rowsr.get b' = some q → (b' = N ∧ q = cl) ∨ (b' ≠ id ∧ b' ≠ N ∧ r'.rows.get b' = some q)) hm hC hK hS hf hb hjc hrs hl h hfr ha (fun b' hb' => by cases hb') (LF := LF) (by
    refine JRuns.mono (fun x hx => ?_) j hJ
    obtain ⟨h1, vs, id, h2, h3, h4, h5, h6⟩ := hx
    exact ⟨h1, vs, h2, id, h3, h4, h5, h6⟩)
  refine Calls.mono hcall fun e w'' he' => ?_
  obtain ⟨r', v, ι', ⟨id, h1, h2, h3, h4⟩, rfl, h5, h6⟩ := he'
  rw [h1] at h5
  rw [h3] at h6
  obtain ⟨L, o, g1, g2, g3⟩ := h6.hrel.row id cl h2
  have hNf : ι' N = none := post_fresh h6 hfr N (Nat.le_refl _)
  obtain ⟨ι2, q1, q2⟩ := Post.rebind (nx := N) (L' := L) (r := cl) hro h6.hrel hNf h2 g1 rfl g2 (fun ι2 he => g3.mono he) (fun _ _ => rfl) rfl (.refl _ _)
  have hle : RLe rowsr ((r'.rows.set id none).set N (some cl)) := fun b' q hq => by
    rcases h4 b' q hq with ⟨rfl, rfl⟩ | ⟨k1, k2, k3⟩
    · rw [T.get_set, if_pos rfl]
    · rw [T.get_set, if_neg k2, T.get_set, if_neg k1]; exact k3
  refine ⟨v, ι2, rfl, ?_, (h6.trans q2).sub hle⟩
  cases h5 with
  | tup t =>
    cases t with
    | cons a1 t => cases t with
      | cons a2 t =>
        cases t
        refine .tup (.cons ?_ (.cons (flat_rel hv2 a2) .nil))
        cases a1 with
        | sliceOp i1 i2 i3 =>
          rw [g1] at i1; cases i1
          exact .sliceOp q1 i2 i3
end Ev
end

/- An oracle for the index of a byte that the kernel runs fast; several oracles; tables by a check. -/
section
namespace Ev
open Go Go.RowKit

noncomputable def idxK (l : List UInt8) (c : Nat) : Nat → Int := List.rec (motive := fun _ => Nat → Int) (fun _ => .negSucc 0) (fun a _ ih i => Bool.rec (ih (Nat.succ i)) (.ofNat i) (Nat.beq a.toNat c)) l

theorem idxS_eq (l : List UInt8) (c : UInt8) : idxS l c = idxK l c.toNat 0 := by
  have key : ∀ (l : List UInt8) (k : Nat), (match (List.range l.length).find? (fun i => l[i]! == c) with | some i => Int.ofNat (k + i) | none => .negSucc 0) = idxK l c.toNat k := by
    intro l
    induction l with
    | nil => intro k; rfl
    | cons a l ih =>
      intro k
      have hs : (List.range (a :: l).length).find? (fun i => (a :: l)[i]! == c) = if (a == c) = true then some 0 else ((List.range l.length).find? fun i => l[i]! == c).map Nat.succ := by
        rw [List.length_cons, List.range_succ_eq_map, List.find?_cons]
        simp only [List.getElem!_cons_zero]
        cases hac : a == c with
        | true => simp
        | false =>
          simp only [Bool.false_eq_true, if_false, List.find?_map]
          congr 1
      rw [hs]
      show _ = (Bool.rec (motive := fun _ => Int) (idxK l c.toNat (Nat.succ k)) (.ofNat k) (Nat.beq a.toNat c.toNat) : Int)
      rw [beq_nat]
      by_cases hac : a = c
      · subst hac; simp
      · have h1 : (a == c) = false := by simpa using hac
        have h2 : decide (a.toNat = c.toNat) = false := decide_eq_false fun h => hac (UInt8.toNat_inj.1 h)
        rw [h1, h2]
        simp only [Bool.false_eq_true, if_false]
        rw [← ih (Nat.succ k)]
        cases (List.range l.length).find? fun i => l[i]! == c with
        | none => rfl
        | some i =>
          show Int.ofNat (k + Nat.succ i) = Int.ofNat (Nat.succ k + i)
          congr 1; omega
  have := key l 0
  unfold idxS
  rw [← this]
  have e1 : (⟨⟨l⟩⟩ : ByteArray).size = l.length := rfl
  have e2 : (fun i : Nat => (⟨⟨l⟩⟩ : ByteArray)[i]! == c) = fun i : Nat => l[i]! == c := by
    funext i
    congr 1
    by_cases hi : i < l.length
    · have h1 : i < (⟨⟨l⟩⟩ : ByteArray).size := hi
      rw [getElem!_pos (⟨⟨l⟩⟩ : ByteArray) i h1, getElem!_pos l i hi]
      rfl
    · have h1 : ¬ i < (⟨⟨l⟩⟩ : ByteArray).size := hi
      rw [getElem!_neg (⟨⟨l⟩⟩ : ByteArray) i h1, getElem!_neg l i hi]
  rw [e1, e2]
  simp only [Nat.zero_add]
  cases (List.range l.length).find? (fun i : Nat => l[i]! == c) <;> rfl

noncomputable def oIdx : Orc := fun a rows nx => match a with
  | x :: y :: l => asStr x fun s => asInt y fun k c => (match l with
    | [] => gd (k == .u8) (rv rows nx (.int .i64 (idxK s (Nat.mod c.toNat 256) 0)))
    | _ => none)
  | _ => none
theorem oIdx_eq {a : List AV} {rows : T ARow} {nx : Nat} {r : R} (h : oIdx a rows nx = some r) : oIndexByte a rows nx = some r := by
  unfold oIdx at h
  split at h
  · obtain ⟨s, rfl, h1⟩ := asStr_some.1 h
    obtain ⟨k, c, rfl, h2⟩ := asInt_some.1 h1
    split at h2
    · obtain ⟨hk, h3⟩ := gd_some.1 h2
      simp only [beq_iff_eq] at hk
      subst hk
      rw [← h3]
      show rv rows nx (.int .i64 (idxS s c.toNat.toUInt8)) = _
      rw [idxS_eq]
      congr 3
    · cases h2
  · cases h

/-- Oracles side by side. -/
noncomputable def orcL (l : List (Nat × Orc)) (f : Nat) : Option Orc := List.rec none (fun e _ ih => Bool.rec ih (some e.2) (Nat.beq f e.1)) l
theorem orcL_ok {B : Base} {P : Program} : ∀ {l : List (Nat × Orc)}, (∀ e ∈ l, OrcOK B P e.1 e.2) → ∀ f o, orcL l f = some o → OrcOK B P f o
  | [], _, f, o, h => by cases h
  | e :: l, hl, f, o, h => by
    have h : Bool.rec (orcL l f) (some e.2) (Nat.beq f e.1) = some o := h
    rw [beq_nat] at h
    by_cases hf : f = e.1
    · rw [decide_eq_true hf] at h
      simp only [Option.some.injEq] at h
      subst h; subst hf
      exact hl e (by simp)
    · rw [decide_eq_false hf] at h
      exact orcL_ok (fun e he => hl e (by simp [he])) f o h

/-- The same value, by sight; a tuple too. -/
def sameT (v w : AV) : Bool := match v with
  | .tup l => (match w with | .tup m => sameL l m | _ => false)
  | v => sameV v w
theorem sameT_eq {v w : AV} (h : sameT v w = true) : v = w := by
  unfold sameT at h
  split at h
  · split at h
    · rw [sameL_eq h]
    · cases h
  · exact sameV_eq h
/-- A table is right, by a run of each row. -/
noncomputable def allG (ev : List AV → Option R) (t : List (List AV × AV)) : Bool := List.rec true (fun e _ ih => match bo (ev e.1) (fun r => gd (flatL e.1 && flat r.v) (some r.v)) with | some v => (match sameT v e.2 with | true => ih | false => false) | none => false) t
theorem allG_ok {ev : List AV → Option R} : ∀ {t : List (List AV × AV)}, allG ev t = true → ∀ e ∈ t, bo (ev e.1) (fun r => gd (flatL e.1 && flat r.v) (some r.v)) = some e.2
  | [], _, e, he => by cases he
  | a :: t, h, e, he => by
    have h : (match bo (ev a.1) (fun r => gd (flatL a.1 && flat r.v) (some r.v)) with | some v => (match sameT v a.2 with | true => allG ev t | false => false) | none => false) = true := h
    cases hv : bo (ev a.1) (fun r => gd (flatL a.1 && flat r.v) (some r.v)) with
    | none => rw [hv] at h; cases h
    | some v =>
      rw [hv] at h
      simp only at h
      cases hs : sameT v a.2 with
      | false => rw [hs] at h; cases h
      | true =>
        rw [hs] at h
        rcases List.mem_cons.1 he with rfl | he
        · rw [hv, sameT_eq hs]
        · exact allG_ok h e he

noncomputable def turnB (ev : List AV → T ARow → Nat → Option R) (tg sz k fv : Nat) (e : List AV × List AV) : Bool :=
  match flatL e.1 && flatL e.2 with
  | true => (match ev [.slice 0 0 k (.op sz), .fn fv []] ((T.nil : T ARow).set 0 (some (.cells tg e.1))) 1 with
    | some r => (match r.v with
      | .tup l => (match l with
        | [] => (match r.rows.get 0 with
          | some (.cells g l) => (match Nat.beq g tg with | true => sameL l e.2 | false => false)
          | _ => false)
        | _ => false)
      | _ => false)
    | none => false)
  | false => false
theorem turnB_ok {ev : List AV → T ARow → Nat → Option R} {tg sz k fv : Nat} {e : List AV × List AV} (h : turnB ev tg sz k fv e = true) : TurnOK ev tg sz k fv e := by
  unfold turnB at h
  split at h
  · rename_i hf
    simp only [Bool.and_eq_true] at hf
    split at h
    · rename_i r hr
      split at h
      · rename_i l hv
        split at h
        · split at h
          · rename_i g l' hg
            split at h
            · rename_i hgt
              rw [beq_nat] at hgt
              simp only [decide_eq_true_eq] at hgt
              subst hgt
              exact ⟨hf.1, hf.2, r, hr, hv, by rw [hg, sameL_eq h]⟩
            · cases h
          · cases h
        · cases h
      · cases h
    · cases h
  · cases h
noncomputable def allR (p : List AV × List AV → Bool) (t : List (List AV × List AV)) : Bool := List.rec true (fun e _ ih => match p e with | true => ih | false => false) t
theorem allR_ok {p : List AV × List AV → Bool} : ∀ {t : List (List AV × List AV)}, allR p t = true → ∀ e ∈ t, p e = true
  | [], _, e, he => by cases he
  | a :: t, h, e, he => by
    have h : (match p a with | true => allR p t | false => false) = true := h
    cases hp : p a with
    | false => rw [hp] at h; cases h
    | true =>
      rw [hp] at h
      rcases List.mem_cons.1 he with rfl | he
      · exact hp
      · exact allR_ok h e he

/-- A table, and a run where it has no row. -/
noncomputable def memoE (ev : Tg → List AV → T ARow → Nat → Option R) (f : Nat) (t : List (List AV × AV)) : Orc := fun args rows nx => match lookM t args with
  | some v => some ⟨v, rows, nx⟩
  | none => ev (.r f) args rows nx
theorem memoE_ok {P : Program} {B : Base} {g : Nat} {tbl : List AV} {orc : Nat → Option Orc} {fns : T IFn} {LF fuel f : Nat} {t : List (List AV × AV)} (hm : P.follows .mixedOrders = true) (hfns : Tied P fns) (horc : ∀ f o, orc f = some o → OrcOK B P f o) (hK : KG g tbl B) (h : ∀ e ∈ t, RowG P g tbl f e) :
    OrcOK B P f (memoE (evCall orc fns LF fuel) f t) := by
  intro ι rows w nx args us r he hh hfr ha
  unfold memoE at he
  split at he
  · rename_i v hv
    refine memo_okG hK h (r := r) ?_ hh hfr ha
    show bo (lookM t args) (fun v => some ⟨v, rows, nx⟩) = some r
    rw [hv]; exact he
  · have hC := evCall_ok (B := B) (LF := LF) hm hfns horc fuel
    obtain ⟨q1, q2⟩ := hC.r he hh hfr ha
    rw [q1]
    exact ⟨rfl, q2⟩
end Ev
end

/- The border of a mesh: one round of the range over the sides. -/
section
namespace Ev.Ou
open Go Ev

abbrev ii (n : Int) : AV := .int .i64 n
abbrev kk (p : Int × Int) : AV := .agg [ii p.1, ii p.2]

def JC.lft : JC → JC | .seq a _ => a | j => j
def JC.rgt : JC → JC | .seq _ b => b | j => j
def JC.g5 : JC → List GOp | .mrange _ _ _ _ _ _ _ l _ => l | _ => []
def JC.rst : JC → IC | .mrange _ _ _ _ _ _ _ _ r => r | _ => .bad
def JC.code : JC → IC | .ic c => c | _ => .bad

def g5 : List GOp := JC.g5 (JC.lft (JC.rgt (JC.rgt (JC.rgt I.J150))))
def rst : IC := JC.rst (JC.lft (JC.rgt (JC.rgt (JC.rgt I.J150))))

structure Live (it b m : Nat) (es nxt : List (AV × AV)) (f : Int) (s : St) : Prop where
  t1 : s.tm.get 1 = some (.map b)
  t6 : s.tm.get 6 = some (.map m)
  t7 : s.tm.get 7 = some (ii f)
  t19 : s.tm.get 19 = some (.ptr it 0)
  rb : s.rows.get b = some (.roM es)
  rm : s.rows.get m = some (.map nxt)

theorem round {C : CallF} {LF it b m : Nat} {es nxt : List (AV × AV)} {f : Int} {s : St} (h : Live it b m es nxt f s) (hb : b ≠ s.nx) (hm : m ≠ s.nx) (hbm : b ≠ m) {p : Int × Int} {v : AV} {q : Option AV}
    (he2 : eqA ⟨true, [.int .i64, .int .i64]⟩ (kk (p.2, p.1)) (kk (p.2, p.1)) = some true) (he1 : eqA ⟨false, [.int .i64]⟩ (ii p.1) (ii p.1) = some true)
    (hq : findM ⟨true, [.int .i64, .int .i64]⟩ (kk (p.2, p.1)) es = some q) (hn : q = none → findM ⟨false, [.int .i64]⟩ (ii p.1) nxt = some none) :
    ∃ s5 x, evOps C g5 (nextSt s 20 21 22 (kk p) v) = some s5 ∧ runIC C LF rst s5 = some x ∧ x.s.nx = s.nx + 1 ∧
      (match q with
       | some _ => x.e = .exit 1 ∧ Live it b m es nxt f x.s
       | none => x.e = .normal ∧ Live it b m es (nxt ++ [(ii p.1, ii p.2)]) (if f < 0 ∨ p.1 < f then p.1 else f) x.s) := by
  obtain ⟨t1, t6, t7, t19, rb, rm⟩ := h
  obtain ⟨tm, rows, nx⟩ := s
  simp only at t1 t6 t7 t19 rb rm hb hm
  have e5 : ∃ s5, evOps C g5 (nextSt ⟨tm, rows, nx⟩ 20 21 22 (kk p) v) = some s5 ∧ s5.tm.get 1 = some (.map b) ∧ s5.tm.get 6 = some (.map m) ∧ s5.tm.get 7 = some (ii f) ∧ s5.tm.get 19 = some (.ptr it 0) ∧ s5.tm.get 8 = some (.ptr nx 0) ∧
      s5.rows.get b = some (.roM es) ∧ s5.rows.get m = some (.map nxt) ∧ (∃ g, s5.rows.get nx = some (.cells g [ii p.1, ii p.2])) ∧ s5.nx = nx + 1 := by
    unfold g5
    simp only [I.J150, JC.rgt, JC.lft, JC.g5, nextSt]
    simp only [x_ops_nil, x_ops, x_g, s_g, x_nil, x_cons, x_c, s_ev, x_bo, x_gd, x_mv, s_box, s_store2, s_put2, s_asCells, s_load, s_idx, s_ext, s_build2, s_lookup, s_update, s_lenM, x_lss, x_gtr, x_eql, x_not, x_pick, s_rd1, s_rd2, s_mp1, s_mp2, s_want, s_cond, s_stA, s_stI, s_ceA, x_iops, x_iseq, s_icond, x_iblock, x_iexit, x_iret, x_iskip, T.get_set, Option.getD_some, reduceIte, Nat.reduceEqDiff, eq_self, ii, kk, if_true, if_false, List.getElem?_cons_zero, List.getElem?_cons_succ, Option.getD_none, Option.isSome_some, Option.isSome_none, beq_self_eq_true, Nat.reduceLT, Nat.reduceMul, Nat.reduceAdd, Nat.zero_add, Nat.one_mul, Nat.zero_mul, Bool.false_eq_true, Bool.not_false, Bool.not_true, decide_true, decide_false, t1, t6, t7, t19, rb, rm]
    refine ⟨_, rfl, ?_⟩
    simp only [T.get_set, Nat.reduceEqDiff, if_true, if_false, reduceIte, t1, t6, t7, t19, rb, rm, hb, hm, true_and]
    exact ⟨⟨_, rfl⟩, trivial⟩
  obtain ⟨s5, h5, k1, k6, k7, k19, k8, kb, km, ⟨g, kn⟩, knx⟩ := e5
  obtain ⟨tm5, rows5, nx5⟩ := s5
  simp only at k1 k6 k7 k19 k8 kb km kn knx
  suffices hsuf : ∃ x, runIC C LF rst ⟨tm5, rows5, nx5⟩ = some x ∧ x.s.nx = nx + 1 ∧
      (match q with
       | some _ => x.e = .exit 1 ∧ Live it b m es nxt f x.s
       | none => x.e = .normal ∧ Live it b m es (nxt ++ [(ii p.1, ii p.2)]) (if f < 0 ∨ p.1 < f then p.1 else f) x.s) by
    obtain ⟨x, hx⟩ := hsuf
    exact ⟨_, x, h5, hx⟩
  simp only [ii, kk] at he1 he2 hq hn
  unfold rst
  simp only [I.J150, JC.rgt, JC.lft, JC.rst]
  cases q with
  | some u =>
    simp only [x_ops_nil, x_ops, x_g, s_g, x_nil, x_cons, x_c, s_ev, x_bo, x_gd, x_mv, s_box, s_store2, s_put2, s_asCells, s_load, s_idx, s_ext, s_build2, s_lookup, s_update, s_lenM, x_lss, x_gtr, x_eql, x_not, x_pick, s_rd1, s_rd2, s_mp1, s_mp2, s_want, s_cond, s_stA, s_stI, s_ceA, x_iops, x_iseq, s_icond, x_iblock, x_iexit, x_iret, x_iskip, T.get_set, Option.getD_some, reduceIte, Nat.reduceEqDiff, eq_self, ii, kk, if_true, if_false, List.getElem?_cons_zero, List.getElem?_cons_succ, Option.getD_none, Option.isSome_some, Option.isSome_none, beq_self_eq_true, Nat.reduceLT, Nat.reduceMul, Nat.reduceAdd, Nat.zero_add, Nat.one_mul, Nat.zero_mul, Bool.false_eq_true, Bool.not_false, Bool.not_true, decide_true, decide_false, k1, k6, k7, k19, k8, kb, km, kn, he2, hq]
    refine ⟨_, rfl, knx, rfl, ?_⟩
    constructor <;> simp only [T.get_set, Nat.reduceEqDiff, if_true, if_false, reduceIte, k1, k6, k7, k19, kb, km, ii]
  | none =>
    have hn := hn rfl
    by_cases hf : f < 0
    · have hf0 : decide (f < Int.ofNat 0) = true := decide_eq_true hf
      have hfo : f < 0 ∨ p.1 < f := .inl hf
      simp only [x_ops_nil, x_ops, x_g, s_g, x_nil, x_cons, x_c, s_ev, x_bo, x_gd, x_mv, s_box, s_store2, s_put2, s_asCells, s_load, s_idx, s_ext, s_build2, s_lookup, s_update, s_lenM, x_lss, x_gtr, x_eql, x_not, x_pick, s_rd1, s_rd2, s_mp1, s_mp2, s_want, s_cond, s_stA, s_stI, s_ceA, x_iops, x_iseq, s_icond, x_iblock, x_iexit, x_iret, x_iskip, T.get_set, Option.getD_some, reduceIte, Nat.reduceEqDiff, eq_self, ii, kk, if_true, if_false, List.getElem?_cons_zero, List.getElem?_cons_succ, Option.getD_none, Option.isSome_some, Option.isSome_none, beq_self_eq_true, Nat.reduceLT, Nat.reduceMul, Nat.reduceAdd, Nat.zero_add, Nat.one_mul, Nat.zero_mul, Bool.false_eq_true, Bool.not_false, Bool.not_true, decide_true, decide_false, k1, k6, k7, k19, k8, kb, km, kn, he2, he1, hq, hn, hbm, Ne.symm hbm, hm, Ne.symm hm, hf0, Bool.true_eq_false, beq_iff_eq]
      refine ⟨_, rfl, knx, rfl, ?_⟩
      constructor <;> simp only [T.get_set, Nat.reduceEqDiff, if_true, if_false, reduceIte, k1, k6, k7, k19, kb, km, ii, hbm, Ne.symm hbm, hfo]
    · have hf0 : decide (f < Int.ofNat 0) = false := decide_eq_false hf
      by_cases hp : p.1 < f
      · have hfo : f < 0 ∨ p.1 < f := .inr hp
        have hp0 : decide (p.1 < f) = true := decide_eq_true hp
        simp only [x_ops_nil, x_ops, x_g, s_g, x_nil, x_cons, x_c, s_ev, x_bo, x_gd, x_mv, s_box, s_store2, s_put2, s_asCells, s_load, s_idx, s_ext, s_build2, s_lookup, s_update, s_lenM, x_lss, x_gtr, x_eql, x_not, x_pick, s_rd1, s_rd2, s_mp1, s_mp2, s_want, s_cond, s_stA, s_stI, s_ceA, x_iops, x_iseq, s_icond, x_iblock, x_iexit, x_iret, x_iskip, T.get_set, Option.getD_some, reduceIte, Nat.reduceEqDiff, eq_self, ii, kk, if_true, if_false, List.getElem?_cons_zero, List.getElem?_cons_succ, Option.getD_none, Option.isSome_some, Option.isSome_none, beq_self_eq_true, Nat.reduceLT, Nat.reduceMul, Nat.reduceAdd, Nat.zero_add, Nat.one_mul, Nat.zero_mul, Bool.false_eq_true, Bool.not_false, Bool.not_true, decide_true, decide_false, k1, k6, k7, k19, k8, kb, km, kn, he2, he1, hq, hn, hbm, Ne.symm hbm, hm, Ne.symm hm, hf0, hp0, Bool.true_eq_false, beq_iff_eq]
        refine ⟨_, rfl, knx, rfl, ?_⟩
        constructor <;> simp only [T.get_set, Nat.reduceEqDiff, if_true, if_false, reduceIte, k1, k6, k7, k19, kb, km, ii, hbm, Ne.symm hbm, hfo]
      · have hfo : ¬ (f < 0 ∨ p.1 < f) := by omega
        have hp0 : decide (p.1 < f) = false := decide_eq_false hp
        simp only [x_ops_nil, x_ops, x_g, s_g, x_nil, x_cons, x_c, s_ev, x_bo, x_gd, x_mv, s_box, s_store2, s_put2, s_asCells, s_load, s_idx, s_ext, s_build2, s_lookup, s_update, s_lenM, x_lss, x_gtr, x_eql, x_not, x_pick, s_rd1, s_rd2, s_mp1, s_mp2, s_want, s_cond, s_stA, s_stI, s_ceA, x_iops, x_iseq, s_icond, x_iblock, x_iexit, x_iret, x_iskip, T.get_set, Option.getD_some, reduceIte, Nat.reduceEqDiff, eq_self, ii, kk, if_true, if_false, List.getElem?_cons_zero, List.getElem?_cons_succ, Option.getD_none, Option.isSome_some, Option.isSome_none, beq_self_eq_true, Nat.reduceLT, Nat.reduceMul, Nat.reduceAdd, Nat.zero_add, Nat.one_mul, Nat.zero_mul, Bool.false_eq_true, Bool.not_false, Bool.not_true, decide_true, decide_false, k1, k6, k7, k19, k8, kb, km, kn, he2, he1, hq, hn, hbm, Ne.symm hbm, hm, Ne.symm hm, hf0, hp0, Bool.true_eq_false, beq_iff_eq]
        refine ⟨_, rfl, knx, rfl, ?_⟩
        constructor <;> simp only [T.get_set, Nat.reduceEqDiff, if_true, if_false, reduceIte, k1, k6, k7, k19, kb, km, ii, hbm, Ne.symm hbm, hfo]
end Ev.Ou
end

/- The border of a mesh: the walk along it. -/
section
namespace Ev.Ou
open Go Ev

def tailJ : JC := JC.rgt (JC.rgt (JC.rgt (JC.rgt I.J150)))
def IC.bod : IC → IC | .block _ b => IC.bod b | .loop b => b | c => c
def body2 : IC := IC.bod (JC.code (JC.rgt (JC.lft (JC.rgt tailJ))))

structure Walk (m : Nat) (nxt : List (AV × AV)) (first a : Int) (outs : List Int) (s : St) : Prop where
  t6 : s.tm.get 6 = some (.map m)
  t7 : s.tm.get 7 = some (ii first)
  t14 : s.tm.get 14 = some (ii a)
  rm : s.rows.get m = some (.map nxt)
  out : (outs = [] ∧ s.tm.get 13 = some (.nil .slice)) ∨ (outs ≠ [] ∧ ∃ id, id + 1 = s.nx ∧ s.tm.get 13 = some (.slice id 0 outs.length (.op 1)) ∧ s.rows.get id = some (.cells 4 (outs.map ii)) ∧ id ≠ m)
  lt : m < s.nx

theorem step2 {C : CallF} {LF m : Nat} {nxt : List (AV × AV)} {first a y : Int} {outs : List Int} {s : St} (h : Walk m nxt first a outs s) (hlen : outs.length < nxt.length) (hl6 : outs.length < 1000000)
    (hq : findM ⟨false, [.int .i64]⟩ (ii a) nxt = some (some (ii y))) (he : eqA ⟨false, [.int .i64]⟩ (ii a) (ii a) = some true) (hnot : ¬ (a = first ∧ outs ≠ [])) :
    ∃ s', runIC C LF body2 s = some ⟨.normal, s'⟩ ∧ Walk m nxt first y (outs ++ [a]) s' ∧ s'.nx = s.nx + 2 := by
  obtain ⟨t6, t7, t14, rm, out, hlt⟩ := h
  obtain ⟨tm, rows, nx⟩ := s
  simp only at t6 t7 t14 rm out hlt
  simp only [ii] at hq he t7 t14
  have hmn : m ≠ nx := by omega
  have hmn1 : m ≠ nx + 1 := by omega
  have hln : decide ((Int.ofNat outs.length) < Int.ofNat nxt.length) = true := decide_eq_true (by simp only [Int.ofNat_eq_natCast]; omega)
  unfold body2 tailJ
  simp only [I.J150, JC.rgt, JC.lft, JC.code, IC.bod]
  rcases out with ⟨rfl, t13⟩ | ⟨hne, id, hid, t13, rid, hidm⟩
  · have happ : evK [.nil .slice, .slice nx 0 1 (.ex 1)] (rows.set nx (some (.cells 0 [.int .i64 a]))) (nx+1) C (.rare (.append 1 8 4)) = some ⟨.slice (nx+1) 0 1 (.op 1), (rows.set nx (some (.cells 0 [.int .i64 a]))).set (nx+1) (some (.cells 4 [.int .i64 a])), nx + 1 + 1⟩ :=
      x_appN (by rw [T.get_set, if_pos rfl]) (by simp) rfl (by omega) (by omega)
    have hlit : ∀ z, evK [.int .i64 a] rows nx C (.rare (.buildSlice [z] 1 [(0, .one)])) = some ⟨.slice nx 0 1 (.ex 1), rows.set nx (some (.cells 0 [.int .i64 a])), nx + 1⟩ := fun z => x_lit1 z rfl
    have hln : decide (Int.ofNat 0 < Int.ofNat nxt.length) = true := hln
    have hgt : decide (Int.ofNat 0 < Int.ofNat 0) = false := rfl
    have key : ∃ s', runIC C LF (IC.bod (JC.code (JC.rgt (JC.lft (JC.rgt (JC.rgt (JC.rgt (JC.rgt (JC.rgt I.J150))))))))) ⟨tm, rows, nx⟩ = some ⟨.normal, s'⟩ ∧ s'.tm.get 6 = some (.map m) ∧ s'.tm.get 7 = some (.int .i64 first) ∧ s'.tm.get 14 = some (.int .i64 y) ∧ s'.tm.get 13 = some (.slice (nx+1) 0 1 (.op 1)) ∧
        s'.rows = (rows.set nx (some (.cells 0 [.int .i64 a]))).set (nx+1) (some (.cells 4 [.int .i64 a])) ∧ s'.nx = nx + 1 + 1 := by
      simp only [I.J150, JC.rgt, JC.lft, JC.code, IC.bod]
      by_cases ha : a = first
      · have ha0 : decide (a = first) = true := decide_eq_true ha
        simp only [x_ops_nil, x_ops, x_g, s_g, x_nil, x_cons, x_c, s_ev, x_bo, x_gd, x_mv, s_box, s_store2, s_put2, s_asCells, s_load, s_idx, s_ext, s_build2, s_lookup, s_update, s_lenM, x_lss, x_gtr, x_eql, x_not, x_pick, s_rd1, s_rd2, s_mp1, s_mp2, s_want, s_b1, s_b2, s_cond, s_stA, s_stI, s_ceA, x_iops, x_iseq, s_icond, x_iblock, x_iexit, x_iret, x_iskip, T.get_set, Option.getD_some, reduceIte, Nat.reduceEqDiff, eq_self, ii, kk, if_true, if_false, List.getElem?_cons_zero, List.getElem?_cons_succ, Option.getD_none, Option.isSome_some, Option.isSome_none, beq_self_eq_true, Nat.reduceLT, Nat.reduceMul, Nat.reduceAdd, Nat.zero_add, Nat.one_mul, Nat.zero_mul, Bool.false_eq_true, Bool.not_false, Bool.not_true, decide_true, decide_false, t6, t7, t14, rm, t13, x_lenN, hln, hq, he, happ, hlit, ha0, hgt, hmn, hmn1]
        refine ⟨_, rfl, ?_⟩
        simp only [T.get_set, Nat.reduceEqDiff, if_true, if_false, reduceIte, t6, t7, and_self, reduceCtorEq]
      · have ha0 : decide (a = first) = false := decide_eq_false ha
        simp only [x_ops_nil, x_ops, x_g, s_g, x_nil, x_cons, x_c, s_ev, x_bo, x_gd, x_mv, s_box, s_store2, s_put2, s_asCells, s_load, s_idx, s_ext, s_build2, s_lookup, s_update, s_lenM, x_lss, x_gtr, x_eql, x_not, x_pick, s_rd1, s_rd2, s_mp1, s_mp2, s_want, s_b1, s_b2, s_cond, s_stA, s_stI, s_ceA, x_iops, x_iseq, s_icond, x_iblock, x_iexit, x_iret, x_iskip, T.get_set, Option.getD_some, reduceIte, Nat.reduceEqDiff, eq_self, ii, kk, if_true, if_false, List.getElem?_cons_zero, List.getElem?_cons_succ, Option.getD_none, Option.isSome_some, Option.isSome_none, beq_self_eq_true, Nat.reduceLT, Nat.reduceMul, Nat.reduceAdd, Nat.zero_add, Nat.one_mul, Nat.zero_mul, Bool.false_eq_true, Bool.not_false, Bool.not_true, decide_true, decide_false, t6, t7, t14, rm, t13, x_lenN, hln, hq, he, happ, hlit, ha0, hgt, hmn, hmn1]
        refine ⟨_, rfl, ?_⟩
        simp only [T.get_set, Nat.reduceEqDiff, if_true, if_false, reduceIte, t6, t7, and_self, reduceCtorEq]
    obtain ⟨s', k1, k2, k3, k4, k5, k6, k7⟩ := key
    refine ⟨s', k1, ⟨k2, k3, k4, ?_, .inr ⟨by simp, nx + 1, by rw [k7], k5, ?_, by omega⟩, by rw [k7]; omega⟩, k7⟩
    · rw [k6, T.get_set, if_neg hmn1, T.get_set, if_neg hmn]; exact rm
    · rw [k6, T.get_set, if_pos rfl]; rfl
  · have hln' : outs.length ≠ 0 := by simpa using hne
    have hidn : id ≠ nx := by omega
    have hidn1 : id ≠ nx + 1 := by omega
    have happ : evK [.slice id 0 outs.length (.op 1), .slice nx 0 1 (.ex 1)] (rows.set nx (some (.cells 0 [.int .i64 a]))) (nx+1) C (.rare (.append 1 8 4)) = some ⟨.slice (nx+1) 0 (outs.length + 1) (.op 1), ((rows.set nx (some (.cells 0 [.int .i64 a]))).set id none).set (nx+1) (some (.cells 4 (outs.map ii ++ [.int .i64 a]))), nx + 1 + 1⟩ :=
      x_appS (by rw [T.get_set, if_pos rfl]) (by rw [T.get_set, if_neg hidn]; exact rid) (by simp) rfl (by simp) (by omega) (by omega) (by omega)
    have hlit : ∀ z, evK [.int .i64 a] rows nx C (.rare (.buildSlice [z] 1 [(0, .one)])) = some ⟨.slice nx 0 1 (.ex 1), rows.set nx (some (.cells 0 [.int .i64 a])), nx + 1⟩ := fun z => x_lit1 z rfl
    have ha : a ≠ first := fun e => hnot ⟨e, hne⟩
    have ha0 : decide (a = first) = false := decide_eq_false ha
    have key : ∃ s', runIC C LF (IC.bod (JC.code (JC.rgt (JC.lft (JC.rgt (JC.rgt (JC.rgt (JC.rgt (JC.rgt I.J150))))))))) ⟨tm, rows, nx⟩ = some ⟨.normal, s'⟩ ∧ s'.tm.get 6 = some (.map m) ∧ s'.tm.get 7 = some (.int .i64 first) ∧ s'.tm.get 14 = some (.int .i64 y) ∧ s'.tm.get 13 = some (.slice (nx+1) 0 (outs.length + 1) (.op 1)) ∧
        s'.rows = ((rows.set nx (some (.cells 0 [.int .i64 a]))).set id none).set (nx+1) (some (.cells 4 (outs.map ii ++ [.int .i64 a]))) ∧ s'.nx = nx + 1 + 1 := by
      simp only [I.J150, JC.rgt, JC.lft, JC.code, IC.bod]
      simp only [x_ops_nil, x_ops, x_g, s_g, x_nil, x_cons, x_c, s_ev, x_bo, x_gd, x_mv, s_box, s_store2, s_put2, s_asCells, s_load, s_idx, s_ext, s_build2, s_lookup, s_update, s_lenM, x_lss, x_gtr, x_eql, x_not, x_pick, s_rd1, s_rd2, s_mp1, s_mp2, s_want, s_b1, s_b2, s_cond, s_stA, s_stI, s_ceA, x_iops, x_iseq, s_icond, x_iblock, x_iexit, x_iret, x_iskip, T.get_set, Option.getD_some, reduceIte, Nat.reduceEqDiff, eq_self, ii, kk, if_true, if_false, List.getElem?_cons_zero, List.getElem?_cons_succ, Option.getD_none, Option.isSome_some, Option.isSome_none, beq_self_eq_true, Nat.reduceLT, Nat.reduceMul, Nat.reduceAdd, Nat.zero_add, Nat.one_mul, Nat.zero_mul, Bool.false_eq_true, Bool.not_false, Bool.not_true, decide_true, decide_false, t6, t7, t14, rm, t13, x_lenS, hln, hq, he, happ, hlit, ha0, hmn, hmn1, Ne.symm hidm]
      refine ⟨_, rfl, ?_⟩
      simp only [T.get_set, Nat.reduceEqDiff, if_true, if_false, reduceIte, t6, t7, and_self, reduceCtorEq]
    obtain ⟨s', k1, k2, k3, k4, k5, k6, k7⟩ := key
    refine ⟨s', k1, ⟨k2, k3, k4, ?_, .inr ⟨by simp, nx + 1, by rw [k7], by simpa using k5, ?_, by omega⟩, by rw [k7]; omega⟩, k7⟩
    · rw [k6, T.get_set, if_neg hmn1, T.get_set, if_neg (Ne.symm hidm), T.get_set, if_neg hmn]; exact rm
    · rw [k6, T.get_set, if_pos rfl]; simp

theorem over2 {C : CallF} {LF m : Nat} {nxt : List (AV × AV)} {first a : Int} {outs : List Int} {s : St} (h : Walk m nxt first a outs s) (hlen : outs.length = nxt.length) (hne : outs ≠ []) :
    ∃ s', runIC C LF body2 s = some ⟨.exit 2, s'⟩ ∧ s'.nx = s.nx ∧ s'.rows = s.rows ∧ s'.tm.get 13 = s.tm.get 13 := by
  obtain ⟨t6, t7, t14, rm, out, hlt⟩ := h
  obtain ⟨tm, rows, nx⟩ := s
  simp only at t6 t7 t14 rm out hlt
  have hln : decide ((Int.ofNat outs.length) < Int.ofNat nxt.length) = false := decide_eq_false (by simp only [Int.ofNat_eq_natCast]; omega)
  rcases out with ⟨rfl, t13⟩ | ⟨_, id, hid, t13, rid, hidm⟩
  · exact absurd rfl hne
  · unfold body2 tailJ
    simp only [I.J150, JC.rgt, JC.lft, JC.code, IC.bod]
    simp only [x_ops_nil, x_ops, x_g, s_g, x_nil, x_cons, x_c, s_ev, x_bo, x_gd, x_mv, s_box, s_store2, s_put2, s_asCells, s_load, s_idx, s_ext, s_build2, s_lookup, s_update, s_lenM, x_lss, x_gtr, x_eql, x_not, x_pick, s_rd1, s_rd2, s_mp1, s_mp2, s_want, s_b1, s_b2, s_cond, s_stA, s_stI, s_ceA, x_iops, x_iseq, s_icond, x_iblock, x_iexit, x_iret, x_iskip, T.get_set, Option.getD_some, reduceIte, Nat.reduceEqDiff, eq_self, ii, kk, if_true, if_false, List.getElem?_cons_zero, List.getElem?_cons_succ, Option.getD_none, Option.isSome_some, Option.isSome_none, beq_self_eq_true, Nat.reduceLT, Nat.reduceMul, Nat.reduceAdd, Nat.zero_add, Nat.one_mul, Nat.zero_mul, Bool.false_eq_true, Bool.not_false, Bool.not_true, decide_true, decide_false, t6, t7, t14, rm, t13, x_lenS, hln]
    refine ⟨_, rfl, ?_⟩
    simp only [T.get_set, Nat.reduceEqDiff, if_true, if_false, reduceIte, t13, and_self]
end Ev.Ou
end

/- The border of a mesh, in plain lists: the sides that have no other, where the border begins, the walk along it; none of it hangs on the order. -/
section
namespace Ev
open Go

abbrev ii (n : Int) : AV := .int .i64 n
abbrev kk (p : Int × Int) : AV := .agg [ii p.1, ii p.2]
abbrev sh1 : Sh := ⟨false, [.int .i64]⟩
abbrev sh2 : Sh := ⟨true, [.int .i64, .int .i64]⟩

def decK (k : AV) : Option (Int × Int) := match k with
  | .agg l => (match l with
    | [x, y] => asInt x fun j a => asInt y fun k c => gd ((j == .i64) && ((k == .i64) && (inR .i64 a && inR .i64 c))) (some (a, c))
    | _ => none)
  | _ => none
def decP (k : AV) : Int × Int := (decK k).getD (0, 0)
theorem decK_some {k : AV} {p : Int × Int} (h : decK k = some p) : k = kk p ∧ inR .i64 p.1 = true ∧ inR .i64 p.2 = true := by
  unfold decK at h
  split at h
  · split at h
    · obtain ⟨j, a, rfl, h1⟩ := asInt_some.1 h
      obtain ⟨k, c, rfl, h2⟩ := asInt_some.1 h1
      obtain ⟨h3, h4⟩ := gd_some.1 h2
      cases h4
      simp only [Bool.and_eq_true, beq_iff_eq] at h3
      obtain ⟨rfl, rfl, h5, h6⟩ := h3
      exact ⟨rfl, h5, h6⟩
    · cases h
  · cases h

/-- No side goes the other way. -/
noncomputable def border (es : List (AV × AV)) (p : Int × Int) : Bool := match findM sh2 (kk (p.2, p.1)) es with | some none => true | _ => false
noncomputable def bdr (es d : List (AV × AV)) : List (Int × Int) := (d.map fun x => decP x.1).filter (border es)
def nextOf (l : List (Int × Int)) : List (AV × AV) := l.map fun x => (ii x.1, ii x.2)
def firstOf (l : List (Int × Int)) : Int := l.foldl (fun f p => if f < 0 ∨ p.1 < f then p.1 else f) (-1)
def look (l : List (Int × Int)) (a : Int) : Option Int := (l.find? fun x => decide (a = x.1)).map (·.2)
def walkL (l : List (Int × Int)) (first : Int) : Nat → Int → List Int → Option (List Int)
  | 0, _, out => some out
  | j + 1, a, out => match look l a with
    | none => none
    | some y => if a = first ∧ out ≠ [] then none else walkL l first j y (out ++ [a])

def nonNeg (l : List (Int × Int)) : Bool := l.all fun x => decide (0 ≤ x.1)
def keysOK (es : List (AV × AV)) : Bool := es.all fun x => (decK x.1).isSome
def nodupB : List Int → Bool
  | [] => true
  | a :: l => l.all (fun b => !decide (a = b)) && nodupB l
theorem nodupB_ok : ∀ {l : List Int}, nodupB l = true → l.Nodup
  | [], _ => .nil
  | a :: l, h => by
    simp only [nodupB, Bool.and_eq_true, List.all_eq_true, Bool.not_eq_true', decide_eq_false_iff_not] at h
    exact List.nodup_cons.2 ⟨fun hm => h.1 a hm rfl, nodupB_ok h.2⟩

theorem find_perm {a : Int} {l l' : List (Int × Int)} (h : l.Perm l') (hn : (l.map (·.1)).Nodup) : l.find? (fun x => decide (a = x.1)) = l'.find? (fun x => decide (a = x.1)) := by
  induction h with
  | nil => rfl
  | cons x _ ih =>
    have hn' := List.nodup_cons.1 hn
    simp only [List.find?_cons]
    cases decide (a = x.1) with
    | true => rfl
    | false => exact ih hn'.2
  | swap x y l =>
    have hn' := List.nodup_cons.1 hn
    have hxy : y.1 ≠ x.1 := fun e => hn'.1 (by simp [e])
    simp only [List.find?_cons]
    by_cases hx : a = x.1 <;> by_cases hy : a = y.1 <;> simp [hx, hy]
    · exact absurd (hy.symm.trans hx) hxy
    · rw [← hx]; simp [hy]
    · rw [← hy]; simp [hx]
  | trans h1 h2 ih1 ih2 =>
    rw [ih1 hn, ih2 ((h1.map _).nodup_iff.1 hn)]

theorem look_perm {l l' : List (Int × Int)} (h : l.Perm l') (hn : (l.map (·.1)).Nodup) (a : Int) : look l a = look l' a := by unfold look; rw [find_perm h hn]
theorem walkL_perm {l l' : List (Int × Int)} (h : l.Perm l') (hn : (l.map (·.1)).Nodup) (first : Int) : ∀ (j : Nat) (a : Int) (out : List Int), walkL l first j a out = walkL l' first j a out
  | 0, _, _ => rfl
  | j + 1, a, out => by
    unfold walkL
    rw [look_perm h hn]
    cases look l' a with
    | none => rfl
    | some y => simp only [walkL_perm h hn first j y]
theorem firstOf_perm {l l' : List (Int × Int)} (h : l.Perm l') (hn : ∀ x ∈ l, 0 ≤ x.1) : firstOf l = firstOf l' := by
  unfold firstOf
  refine h.foldl_eq' (fun x hx y hy z => ?_) (-1)
  have h1 := hn x hx
  have h2 := hn y hy
  by_cases c1 : z < 0 ∨ x.1 < z <;> by_cases c2 : z < 0 ∨ y.1 < z <;> simp only [c1, c2, if_true, if_false]
  all_goals
    split <;> (try split) <;> omega
theorem firstOf_snoc (l : List (Int × Int)) (p : Int × Int) : firstOf (l ++ [p]) = if firstOf l < 0 ∨ p.1 < firstOf l then p.1 else firstOf l := by
  unfold firstOf; rw [List.foldl_append]; rfl

theorem bdr_snoc (es d : List (AV × AV)) (x : AV × AV) : bdr es (d ++ [x]) = if border es (decP x.1) = true then bdr es d ++ [decP x.1] else bdr es d := by
  unfold bdr
  rw [List.map_append, List.filter_append]
  cases h : border es (decP x.1) <;> simp [h]
theorem bdr_perm {es d d' : List (AV × AV)} (h : d.Perm d') : (bdr es d).Perm (bdr es d') := (h.map _).filter _
theorem find_next {l : List (Int × Int)} (hl : ∀ x ∈ l, inR .i64 x.1 = true) {a : Int} (ha : inR .i64 a = true) : findM sh1 (ii a) (nextOf l) = some ((look l a).map ii) := by
  unfold nextOf look
  rw [x_findI (key := fun x : Int × Int => x.1) (val := fun x => ii x.2) a ha l hl, Option.map_map]
  rfl
theorem look_mem {l : List (Int × Int)} {a y : Int} (h : look l a = some y) : (a, y) ∈ l := by
  unfold look at h
  obtain ⟨x, hx, rfl⟩ := Option.map_eq_some_iff.1 h
  have h1 := List.mem_of_find?_eq_some hx
  have h2 := List.find?_some hx
  simp only [decide_eq_true_eq] at h2
  rw [h2]; exact h1
end Ev
end
