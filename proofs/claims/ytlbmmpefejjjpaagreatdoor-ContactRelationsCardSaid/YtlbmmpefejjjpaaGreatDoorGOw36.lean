/- The border of a mesh: the whole function, as an answer that needs no run. -/
import Derived.Test.YtlbmmpefejjjpaaGreatDoorGNo36
import Derived.Test.YtlbmmpefejjjpaaGreatDoorProg
import Derived.KernelRfl
import Derived.Test.YtlbmmpefejjjpaaGreatDoorIR36

set_option linter.unusedSimpArgs false
set_option linter.unusedVariables false
section
namespace Ev.Ou
open Go Ev

theorem JR_ic {C : CallF} {LF : Nat} {kb : List Nat} {c : IC} {b : JC} {s s' : St} {X : XS → Prop} (h : runIC C LF c s = some ⟨.normal, s'⟩) (hb : JRuns C LF kb b s' X) : JRuns C LF kb (.seq (.ic c) b) s X := ⟨_, h, hb⟩

theorem loop2 {C : CallF} {LF m : Nat} {l : List (Int × Int)} {first : Int} (hl : ∀ x ∈ l, inR .i64 x.1 = true ∧ inR .i64 x.2 = true) (hsz : l.length < 1000000) :
    ∀ (j : Nat) (outs res : List Int) (a : Int) (s : St) (k : Nat), Walk m (nextOf l) first a outs s → outs.length + j = l.length → l ≠ [] → inR .i64 a = true → walkL l first j a outs = some res → j < k →
      ∃ s' id, iter (runIC C LF body2) k s = some ⟨.exit 2, s'⟩ ∧ s'.nx = s.nx + 2 * j ∧ id + 1 = s'.nx ∧ s'.tm.get 13 = some (.slice id 0 res.length (.op 1)) ∧ s'.rows.get id = some (.cells 4 (res.map ii)) ∧ res.length = l.length := by
  have hnl : (nextOf l).length = l.length := by simp [nextOf]
  intro j
  induction j with
  | zero =>
    intro outs res a s k hw hlen hne ha hres hk
    obtain ⟨k, rfl⟩ : ∃ k', k = k' + 1 := ⟨k - 1, by omega⟩
    have hon : outs ≠ [] := fun e => hne (List.eq_nil_of_length_eq_zero (by rw [e] at hlen; simpa using hlen.symm))
    obtain ⟨s', h1, h2, h3, h4⟩ := over2 (C := C) (LF := LF) hw (by rw [hnl]; simpa using hlen) hon
    simp only [walkL, Option.some.injEq] at hres
    subst hres
    rcases hw.out with ⟨e, _⟩ | ⟨_, id, q1, q2, q3, _⟩
    · exact absurd e hon
    · refine ⟨s', id, by rw [x_iter, h1]; rfl, by omega, by omega, by rw [h4]; exact q2, by rw [h3]; exact q3, by simpa using hlen⟩
  | succ j ih =>
    intro outs res a s k hw hlen hne ha hres hk
    obtain ⟨k, rfl⟩ : ∃ k', k = k' + 1 := ⟨k - 1, by omega⟩
    simp only [walkL] at hres
    cases hy : look l a with
    | none => rw [hy] at hres; cases hres
    | some y =>
      rw [hy] at hres
      simp only at hres
      by_cases hc : a = first ∧ outs ≠ []
      · rw [if_pos hc] at hres; cases hres
      · rw [if_neg hc] at hres
        have hq : findM sh1 (ii a) (nextOf l) = some (some (ii y)) := by rw [find_next (fun x hx => (hl x hx).1) ha, hy]; rfl
        obtain ⟨s1, h1, h2, h3⟩ := step2 (C := C) (LF := LF) hw (by rw [hnl]; omega) (by omega) hq (by rw [x_eqI ha ha]; simp) hc
        obtain ⟨s', id, g1, g2, g3, g4, g5, g6⟩ := ih (outs ++ [a]) res y s1 k h2 (by simp; omega) hne (hl _ (look_mem hy)).2 hres (by omega)
        exact ⟨s', id, by rw [x_iter, h1]; exact g1, by omega, g3, g4, g5, g6⟩

/-- What is asked of the sides. -/
noncomputable def fits (es : List (AV × AV)) : Bool := keysOK es && (inR .i64 (firstOf (bdr es es)) && nonNeg (bdr es es) && (nodupB ((bdr es es).map (·.1)) && Nat.ble es.length 100000))

theorem mem_bdr {es d : List (AV × AV)} (hk : keysOK es = true) (hd : ∀ x ∈ d, x ∈ es) : ∀ p ∈ bdr es d, inR .i64 p.1 = true ∧ inR .i64 p.2 = true := by
  intro p hp
  obtain ⟨h1, _⟩ := List.mem_filter.1 hp
  obtain ⟨x, hx, rfl⟩ := List.mem_map.1 h1
  have := List.all_eq_true.1 hk x (hd x hx)
  obtain ⟨q, hq⟩ := Option.isSome_iff_exists.1 this
  obtain ⟨_, h2, h3⟩ := decK_some hq
  unfold decP
  rw [hq]
  exact ⟨h2, h3⟩

theorem outer_J {C : CallF} {LF b nx : Nat} {rows : T ARow} {x : AV} {es : List (AV × AV)} {res : List Int} {X : XS → Prop} (hx : x.stored = true) (hbn : b < nx) (hb : rows.get b = some (.roM es)) (hfit : fits es = true) (hne : bdr es es ≠ [])
    (hw : walkL (bdr es es) (firstOf (bdr es es)) (bdr es es).length (firstOf (bdr es es)) [] = some res) (hLF : es.length < LF)
    (hX : ∀ s' id, s'.nx = nx + 3 + es.length + 2 * res.length → id + 1 = s'.nx → s'.rows.get id = some (.cells 4 (res.map ii)) → s'.tm.get 4 = some (.slice id 0 res.length (.op 1)) → s'.tm.get 5 = some (.bool true) → X ⟨.ret, s'⟩) :
    JRuns C LF [b] I.J150 ⟨argsT [x, .map b] 0 .nil, rows, nx⟩ X := by
  simp only [fits, Bool.and_eq_true, ble_nat, decide_eq_true_eq] at hfit
  obtain ⟨hk, ⟨hfi, hnn⟩, hnd, hsz⟩ := hfit
  have hnd := nodupB_ok hnd
  have hnn : ∀ p ∈ bdr es es, 0 ≤ p.1 := fun p hp => by
    have := List.all_eq_true.1 hnn p hp
    simpa using this
  -- the beginning
  obtain ⟨s1, r1, a1, a2, a3⟩ : ∃ s1, runIC C LF (JC.code (JC.lft I.J150)) ⟨argsT [x, .map b] 0 .nil, rows, nx⟩ = some ⟨.normal, s1⟩ ∧ s1.tm.get 1 = some (.map b) ∧ s1.rows.get b = some (.roM es) ∧ s1.nx = nx + 1 := by
    have h0 : (argsT [x, .map b] 0 .nil).get 0 = some x ∧ (argsT [x, .map b] 0 .nil).get 1 = some (.map b) := ⟨rfl, rfl⟩
    generalize argsT [x, .map b] 0 .nil = tm at h0
    obtain ⟨h0, h1⟩ := h0
    simp only [I.J150, JC.lft, JC.code]
    simp only [x_ops_nil, x_ops, x_g, s_g, x_nil, x_cons, x_c, s_ev, x_bo, x_gd, x_mv, s_box, s_store2, s_put2, s_asCells, s_load, s_idx, s_ext, s_build2, s_lookup, s_update, s_lenM, x_lss, x_gtr, x_eql, x_not, x_pick, s_rd1, s_rd2, s_mp1, s_mp2, s_want, s_b1, s_b2, s_cond, s_stA, s_stI, s_ceA, x_iops, x_iseq, s_icond, x_iblock, x_iexit, x_iret, x_iskip, T.get_set, Option.getD_some, reduceIte, Nat.reduceEqDiff, eq_self, ii, kk, if_true, if_false, List.getElem?_cons_zero, List.getElem?_cons_succ, Option.getD_none, Option.isSome_some, Option.isSome_none, beq_self_eq_true, Nat.reduceLT, Nat.reduceMul, Nat.reduceAdd, Nat.zero_add, Nat.one_mul, Nat.zero_mul, Bool.false_eq_true, Bool.not_false, Bool.not_true, decide_true, decide_false, h0, h1, hx]
    refine ⟨_, rfl, ?_⟩
    simp only [T.get_set, Nat.reduceEqDiff, if_true, if_false, reduceIte, h1, hb, show b ≠ nx by omega, and_self]
  obtain ⟨s2, r2, b1, b6, b2, b5, b3⟩ : ∃ s2, runIC C LF (JC.code (JC.lft (JC.rgt I.J150))) s1 = some ⟨.normal, s2⟩ ∧ s2.tm.get 1 = some (.map b) ∧ s2.tm.get 6 = some (.map (nx + 1)) ∧ s2.rows.get b = some (.roM es) ∧ s2.rows.get (nx + 1) = some (.map []) ∧ s2.nx = nx + 2 := by
    obtain ⟨tm, rows1, nx1⟩ := s1
    simp only at a1 a2 a3
    subst a3
    simp only [I.J150, JC.rgt, JC.lft, JC.code]
    simp only [x_ops_nil, x_ops, x_g, s_g, x_nil, x_cons, x_c, s_ev, x_bo, x_gd, x_mv, s_box, s_store2, s_put2, s_asCells, s_load, s_idx, s_ext, s_build2, s_lookup, s_update, s_lenM, x_lss, x_gtr, x_eql, x_not, x_pick, s_rd1, s_rd2, s_mp1, s_mp2, s_want, s_b1, s_b2, s_cond, s_stA, s_stI, s_ceA, x_iops, x_iseq, s_icond, x_iblock, x_iexit, x_iret, x_iskip, T.get_set, Option.getD_some, reduceIte, Nat.reduceEqDiff, eq_self, ii, kk, if_true, if_false, List.getElem?_cons_zero, List.getElem?_cons_succ, Option.getD_none, Option.isSome_some, Option.isSome_none, beq_self_eq_true, Nat.reduceLT, Nat.reduceMul, Nat.reduceAdd, Nat.zero_add, Nat.one_mul, Nat.zero_mul, Bool.false_eq_true, Bool.not_false, Bool.not_true, decide_true, decide_false, x_makeMap, a1]
    refine ⟨_, rfl, ?_⟩
    simp only [T.get_set, Nat.reduceEqDiff, if_true, if_false, reduceIte, a1, a2, show b ≠ nx + 1 by omega, and_self]
  obtain ⟨s3, r3, c1, c6, c7, c2, c5, c3⟩ : ∃ s3, runIC C LF (JC.code (JC.lft (JC.rgt (JC.rgt I.J150)))) s2 = some ⟨.normal, s3⟩ ∧ s3.tm.get 1 = some (.map b) ∧ s3.tm.get 6 = some (.map (nx + 1)) ∧ s3.tm.get 7 = some (ii (-1)) ∧ s3.rows.get b = some (.roM es) ∧ s3.rows.get (nx + 1) = some (.map []) ∧ s3.nx = nx + 2 := by
    obtain ⟨tm, rows1, nx1⟩ := s2
    simp only at b1 b2 b3 b5 b6
    subst b3
    simp only [I.J150, JC.rgt, JC.lft, JC.code]
    simp only [x_ops_nil, x_ops, x_g, s_g, x_nil, x_cons, x_c, s_ev, x_bo, x_gd, x_mv, s_box, s_store2, s_put2, s_asCells, s_load, s_idx, s_ext, s_build2, s_lookup, s_update, s_lenM, x_lss, x_gtr, x_eql, x_not, x_pick, s_rd1, s_rd2, s_mp1, s_mp2, s_want, s_b1, s_b2, s_cond, s_stA, s_stI, s_ceA, x_iops, x_iseq, s_icond, x_iblock, x_iexit, x_iret, x_iskip, T.get_set, Option.getD_some, reduceIte, Nat.reduceEqDiff, eq_self, ii, kk, if_true, if_false, List.getElem?_cons_zero, List.getElem?_cons_succ, Option.getD_none, Option.isSome_some, Option.isSome_none, beq_self_eq_true, Nat.reduceLT, Nat.reduceMul, Nat.reduceAdd, Nat.zero_add, Nat.one_mul, Nat.zero_mul, Bool.false_eq_true, Bool.not_false, Bool.not_true, decide_true, decide_false]
    refine ⟨_, rfl, ?_⟩
    simp only [T.get_set, Nat.reduceEqDiff, if_true, if_false, reduceIte, b1, b2, b5, b6, and_self]
    exact ⟨trivial, trivial, rfl, trivial⟩
  refine JR_ic r1 (JR_ic r2 (JR_ic r3 ?_))
  obtain ⟨tm3, rows3, nx3⟩ := s3
  simp only at c1 c2 c3 c5 c6 c7
  subst c3
  -- the range over the sides
  let Inv : List (AV × AV) → St → Prop := fun d s' => Live (nx + 2) b (nx + 1) es (nextOf (bdr es d)) (firstOf (bdr es d)) s' ∧ s'.nx = nx + 3 + d.length
  refine .inr ⟨b, es, Inv, c1, c2, by simp, ⟨⟨?_, ?_, ?_, ?_, ?_, ?_⟩, rfl⟩, fun d s' h => h.1.t19, fun d k v l s' hI hp => ?_, fun d s' hI hp => ?_⟩
  · simp only [rangeSt, T.get_set, Nat.reduceEqDiff, if_true, if_false, reduceIte, c1]
  · simp only [rangeSt, T.get_set, Nat.reduceEqDiff, if_true, if_false, reduceIte, c6]
  · simp only [rangeSt, T.get_set, Nat.reduceEqDiff, if_true, if_false, reduceIte, c7]; rfl
  · simp only [rangeSt, T.get_set, Nat.reduceEqDiff, if_true, if_false, reduceIte]
  · exact c2
  · exact c5
  · obtain ⟨hl, hnx⟩ := hI
    have hmem : ∀ y ∈ d ++ (k, v) :: l, y ∈ es := fun y hy => hp.mem_iff.1 hy
    obtain ⟨p, hpk⟩ := Option.isSome_iff_exists.1 (List.all_eq_true.1 hk (k, v) (hmem _ (by simp)))
    obtain ⟨rfl, hp1, hp2⟩ := decK_some hpk
    have hdec : decP (kk p) = p := by unfold decP; rw [hpk]; rfl
    have hin : ∀ y ∈ bdr es d, inR .i64 y.1 = true ∧ inR .i64 y.2 = true := mem_bdr hk fun y hy => hmem y (by simp [hy])
    have hf2 : ∃ q, findM sh2 (kk (p.2, p.1)) es = some q := by
      have key : ∀ es' : List (AV × AV), (∀ y ∈ es', (decK y.1).isSome = true) → ∃ q, findM sh2 (kk (p.2, p.1)) es' = some q := by
        intro es'
        induction es' with
        | nil => intro _; exact ⟨_, rfl⟩
        | cons y es' ih =>
          intro hy
          obtain ⟨q, hq⟩ := ih fun z hz => hy z (by simp [hz])
          obtain ⟨r, hr⟩ := Option.isSome_iff_exists.1 (hy y (by simp))
          obtain ⟨h1, h2, h3⟩ := decK_some hr
          show ∃ q, bo (eqA sh2 (kk (p.2, p.1)) y.1) (fun b => Bool.rec (findM sh2 (kk (p.2, p.1)) es') (some (some y.2)) b) = some q
          rw [h1, x_eq2 hp2 hp1 h2 h3]
          cases decide ((p.2, p.1) = (r.1, r.2)) with
          | true => exact ⟨_, rfl⟩
          | false => exact ⟨q, hq⟩
      exact key es fun y hy => List.all_eq_true.1 hk y hy
    obtain ⟨q, hq⟩ := hf2
    have hbord : border es p = q.isNone := by
      unfold border; rw [hq]; cases q <;> rfl
    obtain ⟨s5, y, q1, q2, q3, q4⟩ := round (C := C) (LF := LF) hl (p := p) (v := v) (q := q) (by omega) (by omega) (by omega) (by rw [x_eq2 hp2 hp1 hp2 hp1]; simp) (by rw [x_eqI hp1 hp1]; simp) hq (fun e => by
      subst e
      rw [find_next (fun z hz => (hin z hz).1) hp1]
      have : look (bdr es d) p.1 = none := by
        cases hlk : look (bdr es d) p.1 with
        | none => rfl
        | some z =>
          exfalso
          have hm := look_mem hlk
          have hpm := (bdr_perm (es := es) hp).map (·.1)
          have hnd' := (hpm.nodup_iff).2 hnd
          have hs : bdr es (d ++ (kk p, v) :: l) = bdr es d ++ p :: bdr es l := by
            unfold bdr
            rw [List.map_append, List.filter_append, List.map_cons, List.filter_cons]
            simp only [hdec, hbord, Option.isNone_none, if_true]
          rw [hs, List.map_append, List.map_cons] at hnd'
          have := (List.nodup_append.1 hnd').2.2 p.1 (List.mem_map.2 ⟨_, hm, rfl⟩) p.1 (by simp)
          exact this rfl
      rw [this]; rfl)
    refine ⟨s5, y, q1, q2, ?_⟩
    have hlen : y.s.nx = nx + 3 + (d ++ [(kk p, v)]).length := by rw [q3, hnx]; simp; omega
    cases q with
    | some u =>
      obtain ⟨h1, h2⟩ := q4
      rw [h1]
      have : bdr es (d ++ [(kk p, v)]) = bdr es d := by rw [bdr_snoc, hdec, hbord]; rfl
      exact ⟨rfl, by rw [this]; exact h2, hlen⟩
    | none =>
      obtain ⟨h1, h2⟩ := q4
      rw [h1]
      have : bdr es (d ++ [(kk p, v)]) = bdr es d ++ [p] := by rw [bdr_snoc, hdec, hbord]; rfl
      refine ⟨?_, hlen⟩
      rw [this, firstOf_snoc]
      have e2 : nextOf (bdr es d ++ [p]) = nextOf (bdr es d) ++ [(ii p.1, ii p.2)] := by simp [nextOf]
      rw [e2]; exact h2
  · -- the walk
    obtain ⟨hl, hnx⟩ := hI
    have hpb := bdr_perm (es := es) hp
    have hdl : d.length = es.length := hp.length_eq
    have hin : ∀ y ∈ bdr es d, inR .i64 y.1 = true ∧ inR .i64 y.2 = true := mem_bdr hk fun y hy => hp.mem_iff.1 hy
    have hnd' : ((bdr es d).map (·.1)).Nodup := ((hpb.map _).nodup_iff).2 hnd
    have hfp : firstOf (bdr es d) = firstOf (bdr es es) := firstOf_perm hpb fun y hy => hnn y (hpb.mem_iff.1 hy)
    have hw' : walkL (bdr es d) (firstOf (bdr es d)) (bdr es d).length (firstOf (bdr es d)) [] = some res := by
      rw [hfp, walkL_perm hpb hnd', hpb.length_eq]; exact hw
    have hne' : bdr es d ≠ [] := fun e => hne (by rw [e] at hpb; exact hpb.nil_eq.symm)
    have hbl : (bdr es d).length ≤ es.length := by
      have := (List.filter_sublist (l := d.map fun x => decP x.1) (p := border es)).length_le
      rw [List.length_map, hdl] at this
      exact this
    obtain ⟨u1, u6, u7, u19, ub, um⟩ := hl
    have hfi' : inR .i64 (firstOf (bdr es d)) = true := by rw [hfp]; exact hfi
    generalize hL : bdr es d = l at *
    obtain ⟨s4, r4, d6, d7, d13, dm, d3⟩ : ∃ s4, runIC C LF (JC.code (JC.lft tailJ)) (overSt s' 20 21) = some ⟨.normal, s4⟩ ∧ s4.tm.get 6 = some (.map (nx + 1)) ∧ s4.tm.get 7 = some (.int .i64 (firstOf l)) ∧ s4.tm.get 13 = some (.nil .slice) ∧ s4.rows.get (nx + 1) = some (.map (nextOf l)) ∧ s4.nx = s'.nx := by
      obtain ⟨tm, rows1, nx1⟩ := s'
      simp only at u6 u7 um
      unfold tailJ
      simp only [I.J150, JC.rgt, JC.lft, JC.code, overSt]
      simp only [x_ops_nil, x_ops, x_g, s_g, x_nil, x_cons, x_c, s_ev, x_bo, x_gd, x_mv, s_box, s_store2, s_put2, s_asCells, s_load, s_idx, s_ext, s_build2, s_lookup, s_update, s_lenM, x_lss, x_gtr, x_eql, x_not, x_pick, s_rd1, s_rd2, s_mp1, s_mp2, s_want, s_b1, s_b2, s_cond, s_stA, s_stI, s_ceA, x_iops, x_iseq, s_icond, x_iblock, x_iexit, x_iret, x_iskip, T.get_set, Option.getD_some, reduceIte, Nat.reduceEqDiff, eq_self, ii, kk, if_true, if_false, List.getElem?_cons_zero, List.getElem?_cons_succ, Option.getD_none, Option.isSome_some, Option.isSome_none, beq_self_eq_true, Nat.reduceLT, Nat.reduceMul, Nat.reduceAdd, Nat.zero_add, Nat.one_mul, Nat.zero_mul, Bool.false_eq_true, Bool.not_false, Bool.not_true, decide_true, decide_false]
      refine ⟨_, rfl, ?_⟩
      simp only [T.get_set, Nat.reduceEqDiff, if_true, if_false, reduceIte, u6, u7, um, and_self]
    obtain ⟨s5, r5, e6, e7, e14, e13, em, e3⟩ : ∃ s5, runIC C LF (JC.code (JC.lft (JC.lft (JC.rgt tailJ)))) s4 = some ⟨.normal, s5⟩ ∧ s5.tm.get 6 = some (.map (nx + 1)) ∧ s5.tm.get 7 = some (.int .i64 (firstOf l)) ∧ s5.tm.get 14 = some (.int .i64 (firstOf l)) ∧ s5.tm.get 13 = some (.nil .slice) ∧ s5.rows.get (nx + 1) = some (.map (nextOf l)) ∧ s5.nx = s'.nx := by
      obtain ⟨tm, rows1, nx1⟩ := s4
      simp only at d6 d7 d13 dm d3
      unfold tailJ
      simp only [I.J150, JC.rgt, JC.lft, JC.code]
      simp only [x_ops_nil, x_ops, x_g, s_g, x_nil, x_cons, x_c, s_ev, x_bo, x_gd, x_mv, s_box, s_store2, s_put2, s_asCells, s_load, s_idx, s_ext, s_build2, s_lookup, s_update, s_lenM, x_lss, x_gtr, x_eql, x_not, x_pick, s_rd1, s_rd2, s_mp1, s_mp2, s_want, s_b1, s_b2, s_cond, s_stA, s_stI, s_ceA, x_iops, x_iseq, s_icond, x_iblock, x_iexit, x_iret, x_iskip, T.get_set, Option.getD_some, reduceIte, Nat.reduceEqDiff, eq_self, ii, kk, if_true, if_false, List.getElem?_cons_zero, List.getElem?_cons_succ, Option.getD_none, Option.isSome_some, Option.isSome_none, beq_self_eq_true, Nat.reduceLT, Nat.reduceMul, Nat.reduceAdd, Nat.zero_add, Nat.one_mul, Nat.zero_mul, Bool.false_eq_true, Bool.not_false, Bool.not_true, decide_true, decide_false, d7]
      refine ⟨_, rfl, ?_⟩
      simp only [T.get_set, Nat.reduceEqDiff, if_true, if_false, reduceIte, d6, d7, d13, dm, d3, and_self]
    have hW : Walk (nx + 1) (nextOf l) (firstOf l) (firstOf l) [] s5 := ⟨e6, e7, e14, em, .inl ⟨rfl, e13⟩, by omega⟩
    obtain ⟨s6, id, r6, f3, fid, f13, frow, flen⟩ := loop2 (C := C) (LF := LF) hin (by omega) l.length [] res (firstOf l) s5 LF hW (by simp) hne' hfi' hw' (by omega)
    obtain ⟨s7, r7, g4, g5', grow, g3⟩ : ∃ s7, runIC C LF (JC.code (JC.lft (JC.rgt (JC.rgt tailJ)))) s6 = some ⟨.normal, s7⟩ ∧ s7.tm.get 4 = some (.slice id 0 res.length (.op 1)) ∧ s7.tm.get 5 = some (.bool true) ∧ s7.rows = s6.rows ∧ s7.nx = s6.nx := by
      obtain ⟨tm, rows1, nx1⟩ := s6
      simp only at f13 frow f3
      have hpos : decide (Int.ofNat 0 < Int.ofNat res.length) = true := decide_eq_true (by
        have : 0 < l.length := List.length_pos_iff.2 hne'
        simp only [Int.ofNat_eq_natCast]; omega)
      unfold tailJ
      simp only [I.J150, JC.rgt, JC.lft, JC.code]
      simp only [x_ops_nil, x_ops, x_g, s_g, x_nil, x_cons, x_c, s_ev, x_bo, x_gd, x_mv, s_box, s_store2, s_put2, s_asCells, s_load, s_idx, s_ext, s_build2, s_lookup, s_update, s_lenM, x_lss, x_gtr, x_eql, x_not, x_pick, s_rd1, s_rd2, s_mp1, s_mp2, s_want, s_b1, s_b2, s_cond, s_stA, s_stI, s_ceA, x_iops, x_iseq, s_icond, x_iblock, x_iexit, x_iret, x_iskip, T.get_set, Option.getD_some, reduceIte, Nat.reduceEqDiff, eq_self, ii, kk, if_true, if_false, List.getElem?_cons_zero, List.getElem?_cons_succ, Option.getD_none, Option.isSome_some, Option.isSome_none, beq_self_eq_true, Nat.reduceLT, Nat.reduceMul, Nat.reduceAdd, Nat.zero_add, Nat.one_mul, Nat.zero_mul, Bool.false_eq_true, Bool.not_false, Bool.not_true, decide_true, decide_false, f13, x_lenS, hpos]
      refine ⟨_, rfl, ?_⟩
      simp only [T.get_set, Nat.reduceEqDiff, if_true, if_false, reduceIte, and_self]
    refine JR_ic (c := JC.code (JC.lft tailJ)) (b := JC.rgt tailJ) r4 ?_
    show JRuns C LF [b] (.seq (.seq (.ic (JC.code (JC.lft (JC.lft (JC.rgt tailJ))))) (.ic (.block 2 (.loop body2)))) (.seq (.ic (JC.code (JC.lft (JC.rgt (JC.rgt tailJ))))) (.ic .ret))) s4 X
    refine JR_ic (b := .ic (.block 2 (.loop body2))) r5 ⟨⟨.normal, s6⟩, ?_, ?_⟩
    · rw [x_iblock, x_iloop, r6]; rfl
    · exact JR_ic r7 ⟨_, rfl, hX s7 id (by omega) (by omega) (by rw [grow]; exact frow) g4 g5'⟩
end Ev.Ou
end

/- The border of a mesh as an oracle. -/
section
namespace Ev.Ou
open Go Ev
set_option maxRecDepth 100000

noncomputable def oOuter : Orc := fun args rows nx => match args with
  | x :: m :: l => (match m with
    | .map b => (match l with
      | [] => gd x.stored (bo (mpO (rows.get b)) fun es => gd (fits es) (match bdr es es with
        | [] => none
        | p :: ps => bo (walkL (p :: ps) (firstOf (p :: ps)) (ps.length + 1) (firstOf (p :: ps)) []) fun res =>
          some ⟨.tup [.slice (nx + 2 + es.length + 2 * res.length) 0 res.length (.op 1), .bool true], rows.set (nx + 2 + es.length + 2 * res.length) (some (.cells 4 (res.map ii))), nx + 3 + es.length + 2 * res.length⟩))
      | _ => none)
    | _ => none)
  | _ => none

theorem outer_at : jAt Go.Proofs.Tryz.prog 150 = some (93, I.J150, [(4, none), (5, none)]) := by kernel_rfl

theorem outer_ok (hm : Go.Proofs.Tryz.prog.follows .mixedOrders = true) (B : Base) : OrcOK B Go.Proofs.Tryz.prog 150 oOuter := by
  refine orc_J (K := fun _ => True) trivial (fun _ _ _ _ _ => trivial) (P := Go.Proofs.Tryz.prog) (f := 150) (n := 93) (j := I.J150) (rs := [(4, none), (5, none)]) hm outer_at noC 1000000 (fun _ _ => noC_ok) fun args rows nx r he => ?_
  unfold oOuter at he
  split at he <;> try (cases he; done)
  split at he <;> try (cases he; done)
  split at he <;> try (cases he; done)
  rename_i _ x _ _ b _
  obtain ⟨hx, he⟩ := gd_some.1 he
  obtain ⟨es, hes, he⟩ := bo_some.1 he
  obtain ⟨hfit, he⟩ := gd_some.1 he
  split at he <;> try (cases he; done)
  rename_i p ps hb
  obtain ⟨res, hw, he⟩ := bo_some.1 he
  simp only [Option.some.injEq] at he
  subst he
  refine ⟨b, es, ?_, by simp, fun hbn => ?_⟩
  · unfold mpO at hes
    split at hes
    · cases hes; exact .inl (by assumption)
    · cases hes; exact .inr (by assumption)
    · cases hes
  · have hsz : es.length < 1000000 := by
      simp only [fits, Bool.and_eq_true, ble_nat, decide_eq_true_eq] at hfit
      omega
    refine outer_J hx hbn (by rw [T.get_set, if_pos rfl]) hfit (by rw [hb]; simp) (by rw [hb]; exact hw) hsz fun s' id h1 h2 h3 h4 h5 => ?_
    have hid : id = nx + 2 + es.length + 2 * res.length := by omega
    subst hid
    refine ⟨fun id => by simp, [.slice (nx + 2 + es.length + 2 * res.length) 0 res.length (.op 1), .bool true], ?_, rfl, h1, fun b' q hq => ?_⟩
    · show bo (some ((Opd.t 4).ev s'.tm)) (fun v => bo (bo (some ((Opd.t 5).ev s'.tm)) fun v => bo (some []) fun r => some (v :: r)) fun r => some (v :: r)) = _
      rw [s_ev, s_ev, h4, h5]; rfl
    · simp only [T.get_set] at hq
      split at hq
      · rename_i hb'
        simp only [Option.some.injEq] at hq
        subst hq; subst hb'
        exact .inr ⟨h3, rfl⟩
      · exact .inl hq
end Ev.Ou
end

section
namespace Ev
def fns36 : T IFn := (.node none (.node none (.node (some I.I3) (.node (some I.I7) (.node (some I.I15) (.node (some I.I31) (.node (some I.I63) (.node none (.node (some I.I255) .nil .nil) .nil) .nil) (.node none (.node (some I.I159) .nil .nil) .nil)) (.node none (.node none (.node none (.node (some I.I271) .nil .nil) .nil) (.node (some I.I207) .nil .nil)) (.node none .nil (.node (some I.I239) .nil .nil)))) (.node none (.node none (.node none (.node (some I.I135) .nil .nil) (.node (some I.I199) .nil .nil)) (.node (some I.I103) .nil .nil)) (.node none (.node none (.node (some I.I151) .nil .nil) .nil) (.node none .nil (.node (some I.I247) .nil .nil))))) (.node (some I.I11) (.node (some I.I19) (.node none (.node (some I.I67) .nil .nil) (.node (some I.I99) (.node (some I.I163) .nil .nil) (.node (some I.I227) .nil .nil))) (.node (some I.I51) (.node none (.node (some I.I147) .nil .nil) .nil) .nil)) (.node (some I.I27) (.node (some I.I43) (.node none .nil (.node (some I.I203) .nil .nil)) (.node none .nil (.node (some I.I235) .nil .nil))) (.node (some I.I59) (.node none (.node (some I.I155) (.node (some I.I283) .nil .nil) .nil) .nil) (.node (some I.I123) .nil .nil))))) (.node (some I.I5) (.node (some I.I9) (.node (some I.I17) (.node (some I.I33) (.node (some I.I65) (.node none (.node (some I.I257) .nil .nil) .nil) .nil) (.node (some I.I97) (.node (some I.I161) (.node (some I.I289) .nil .nil) .nil) .nil)) (.node (some I.I49) (.node none .nil (.node (some I.I209) .nil .nil)) (.node none (.node (some I.I177) .nil .nil) .nil))) (.node (some I.I25) (.node (some I.I41) (.node none (.node none (.node (some I.I265) .nil .nil) .nil) .nil) (.node (some I.I105) (.node (some I.I169) .nil .nil) .nil)) (.node none (.node none (.node none (.node (some I.I281) .nil .nil) .nil) .nil) .nil))) (.node (some I.I13) (.node none (.node (some I.I37) (.node none .nil (.node (some I.I197) .nil .nil)) (.node (some I.I101) .nil .nil)) (.node none (.node (some I.I85) (.node (some I.I149) .nil .nil) .nil) .nil)) (.node (some I.I29) (.node (some I.I45) (.node (some I.I77) .nil .nil) .nil) (.node (some I.I61) (.node (some I.I93) (.node (some I.I157) .nil .nil) .nil) (.node none .nil (.node (some I.I253) .nil .nil))))))) (.node none (.node (some I.I4) (.node (some I.I8) (.node (some I.I16) (.node (some I.I32) (.node (some I.I64) .nil .nil) (.node (some I.I96) (.node (some I.I160) (.node (some I.I288) .nil .nil) .nil) .nil)) (.node (some I.I48) (.node (some I.I80) (.node none (.node (some I.I272) .nil .nil) .nil) (.node (some I.I208) .nil .nil)) .nil)) (.node none (.node none (.node none (.node none (.node (some I.I264) .nil .nil) .nil) .nil) (.node (some I.I104) (.node (some I.I168) .nil .nil) (.node (some I.I232) .nil .nil))) (.node none (.node none (.node none (.node (some I.I280) .nil .nil) .nil) .nil) .nil))) (.node (some I.I12) (.node (some I.I20) (.node (some I.I36) .nil (.node (some I.I100) (.node (some I.I164) .nil .nil) (.node (some I.I228) .nil .nil))) (.node none (.node (some I.I84) (.node (some I.I148) .nil .nil) .nil) .nil)) (.node none (.node none (.node (some I.I76) (.node none (.node (some I.I268) .nil .nil) .nil) (.node (some I.I204) .nil .nil)) (.node none (.node (some I.I172) (.node (some I.I300) .nil .nil) .nil) (.node (some I.I236) .nil .nil))) (.node (some I.I60) (.node none (.node (some I.I156) .nil .nil) .nil) .nil)))) (.node (some I.I6) (.node (some I.I10) (.node (some I.I18) (.node (some I.I34) (.node (some I.I66) .nil (.node (some I.I194) .nil .nil)) (.node (some I.I98) (.node (some I.I162) .nil .nil) .nil)) (.node (some I.I50) .nil (.node (some I.I114) .nil .nil))) (.node (some I.I26) (.node (some I.I42) (.node none (.node none (.node (some I.I266) .nil .nil) .nil) (.node (some I.I202) .nil .nil)) (.node (some I.I106) (.node none (.node (some I.I298) .nil .nil) .nil) .nil)) (.node (some I.I58) .nil .nil))) (.node (some I.I14) (.node (some I.I22) (.node (some I.I38) (.node none (.node (some I.I134) (.node (some I.I262) .nil .nil) .nil) (.node (some I.I198) .nil .nil)) (.node (some I.I102) .nil (.node (some I.I230) .nil .nil))) (.node none (.node (some I.I86) (.node (some I.I150) .nil .nil) .nil) (.node none (.node (some I.I182) .nil .nil) .nil))) (.node (some I.I30) (.node none (.node (some I.I78) (.node none (.node (some I.I270) .nil .nil) .nil) .nil) (.node none (.node none (.node (some I.I302) .nil .nil) .nil) .nil)) (.node (some I.I62) (.node (some I.I94) (.node (some I.I158) .nil .nil) .nil) (.node (some I.I126) .nil (.node (some I.I254) .nil .nil))))))))
end Ev
end
