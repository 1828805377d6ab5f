/- The edges of a mesh: the whole function, as an answer that needs no run of the range and of the sort. -/
import Derived.Test.YtkakkacpddiogaaGreatDoorEd43
import Derived.Test.YtkakkacpddiogaaGreatDoorGEwN
import Derived.Test.YtkakkacpddiogaaGreatDoorProg
import Derived.KernelRfl
import Derived.Test.YtkakkacpddiogaaGreatDoorGIR43

set_option linter.unusedSimpArgs false
set_option linter.unusedVariables false
section
namespace Ev.Ed
open Go Ev Ev.Ou
set_option maxRecDepth 100000

theorem JR_ic {C : CallF} {LF : Nat} {kb : List Nat} {c : IC} {b : JC} {s s' : St} {X : XS → Prop} (h : runIC C LF c s = some ⟨.normal, s'⟩) (hb : JRuns C LF kb b s' X) : JRuns C LF kb (.seq (.ic c) b) s X := ⟨_, h, hb⟩

noncomputable def runN (C : CallF) (LF : Nat) (c : IC) (s : St) : Option St := bo (runIC C LF c s) fun x => match x.e with | .normal => some x.s | _ => none
theorem runN_some {C : CallF} {LF : Nat} {c : IC} {s s' : St} (h : runN C LF c s = some s') : runIC C LF c s = some ⟨.normal, s'⟩ := by
  obtain ⟨⟨e, s2⟩, h1, h2⟩ := bo_some.1 h
  cases e <;> simp only at h2 <;> try (cases h2; done)
  cases h2; exact h1
def p1 : IC := JC.code (JC.lft I.J260)
def p2 : IC := JC.code (JC.lft (JC.lft (JC.rgt I.J260)))
def p3 : IC := JC.code (JC.lft (JC.rgt (JC.lft (JC.rgt I.J260))))
def p4 : IC := JC.code (JC.rgt (JC.rgt (JC.lft (JC.rgt I.J260))))
def p5 : IC := JC.code (JC.lft (JC.rgt (JC.rgt I.J260)))
def p6 : IC := JC.code (JC.lft (JC.rgt (JC.rgt (JC.rgt I.J260))))
def tl : JC := JC.rgt (JC.rgt (JC.rgt (JC.rgt (JC.rgt I.J260))))
noncomputable def pre (C : CallF) (LF : Nat) (args : List AV) (rows : T ARow) (nx : Nat) : Option St :=
  bo (runN C LF p1 ⟨argsT args 0 .nil, rows, nx⟩) fun s => bo (runN C LF p2 s) fun s => bo (runN C LF p3 s) fun s => bo (runN C LF p4 s) fun s => bo (runN C LF p5 s) fun s => runN C LF p6 s

def eqPs : List (Int × Int) → List (Int × Int) → Bool
  | [], [] => true
  | a :: l, b :: m => eqI a.1 b.1 && (eqI a.2 b.2 && eqPs l m)
  | _, _ => false
theorem eqPs_eq : ∀ {l m : List (Int × Int)}, eqPs l m = true → l = m
  | [], [], _ => rfl
  | [], _ :: _, h => by cases h
  | _ :: _, [], h => by cases h
  | (a, b) :: l, (c, d) :: m, h => by
    simp only [eqPs, Bool.and_eq_true, eqI_eq, decide_eq_true_eq] at h
    rw [h.1, h.2.1, eqPs_eq h.2.2]

noncomputable def oEdges (C : CallF) (LF : Nat) (L1 S1 : List (Int × Int)) : Orc := fun args rows nx => gd (Nat.ble (lenN args) 63) (bo (pre C LF args rows nx) fun s => match s.tm.get 5 with
  | some (.map b) => (match s.rows.get b with
    | some (.map es) => (match s.tm.get 7 with
      | some (.nil .slice) => gd (keysOK es && (eqPs (edg es es) L1 && (Nat.blt b s.nx && Nat.ble es.length 100000)))
        (some ⟨.tup [.slice (s.nx + 1 + es.length + 2 * L1.length) 0 L1.length (.op 2), .int .i64 (.ofNat 0)], s.rows.set (s.nx + 1 + es.length + 2 * L1.length) (some (.cells 308 (flat2 S1))), s.nx + 1 + es.length + 2 * L1.length + 1⟩)
      | _ => none)
    | _ => none)
  | _ => none)

theorem edges_J {C : CallF} {LF : Nat} {L1 S1 : List (Int × Int)} {s : St} {b : Nat} {es : List (AV × AV)} {X : XS → Prop} (h5 : s.tm.get 5 = some (.map b)) (h7 : s.tm.get 7 = some (.nil .slice)) (hb : s.rows.get b = some (.map es)) (hk : keysOK es = true) (hL : edg es es = L1) (hbn : b < s.nx) (hsz : es.length ≤ 100000) (hne : L1 ≠ [])
    (hsort : ∀ (l : List (Int × Int)) (rows : T ARow) (nx id : Nat), l.Perm L1 → rows.get id = some (.cells 308 (flat2 l)) → C (.f 287) [.slice id 0 L1.length (.op 2), .fn 288 []] rows nx = some ⟨.tup [], rows.set id (some (.cells 308 (flat2 S1))), nx⟩)
    (hX : ∀ s' id, s'.nx = s.nx + 1 + es.length + 2 * L1.length → s.nx ≤ id → id < s'.nx → s'.rows = (s.rows.set id (some (.cells 308 (flat2 (edg es es))))).set id (some (.cells 308 (flat2 S1))) ∨ (∃ l, s'.rows = (s.rows.set id (some (.cells 308 (flat2 l)))).set id (some (.cells 308 (flat2 S1)))) → s'.tm.get 2 = some (.slice id 0 L1.length (.op 2)) → s'.tm.get 3 = some (.int .i64 (.ofNat 0)) → (∀ b', s.nx ≤ b' → s.rows.get b' = none) → X ⟨.ret, s'⟩) :
    JRuns C LF [] (.seq mJ tl) s X := by
  show JRuns C LF [] mJ s (fun x => match x.e with | .normal => JRuns C LF [] tl x.s X | _ => X x)
  refine .inl fun hfresh => ?_
  let Inv : List (AV × AV) → St → Prop := fun d s' => Live s.nx b es (edg es d) s' ∧ s'.nx = s.nx + 1 + d.length + 2 * (edg es d).length
  have hedl : ∀ d, (edg es d).length ≤ d.length := fun d => by
    unfold edg
    rw [List.length_map]
    have := (List.filter_sublist (l := d.map fun x => decP x.1) (p := edgK es)).length_le
    rwa [List.length_map] at this
  refine ⟨b, es, Inv, h5, .inl hb, ⟨⟨?_, ?_, ?_, .inl ⟨rfl, ?_⟩⟩, rfl⟩, fun d s' h => h.1.t22, fun d k v l s' hI hp => ?_, fun d s' hI hp => ?_⟩
  · simp only [rangeSt, T.get_set, Nat.reduceEqDiff, if_true, if_false, reduceIte, h5]
  · simp only [rangeSt, T.get_set, Nat.reduceEqDiff, if_true, if_false, reduceIte]
  · simp only [rangeSt, T.get_set, Nat.reduceEqDiff, if_true, if_false, reduceIte]
  · simp only [rangeSt, T.get_set, Nat.reduceEqDiff, if_true, if_false, reduceIte, h7]
  · obtain ⟨hl, hnx⟩ := hI
    have hmem : ∀ y ∈ d ++ (k, v) :: l, y ∈ es := fun y hy => hp.mem_iff.1 hy
    obtain ⟨p, hpk⟩ := Option.isSome_iff_exists.1 (List.all_eq_true.1 hk (k, v) (hmem _ (by simp)))
    obtain ⟨rfl, hp1, hp2⟩ := decK_some hpk
    have hdec : decP (kk p) = p := by unfold decP; rw [hpk]; rfl
    have hdl : d.length ≤ es.length := by
      have := hp.length_eq
      simp at this; omega
    have hf2 : ∃ q, findM sh2 (kk (p.2, p.1)) es = some q := by
      have key : ∀ es' : List (AV × AV), (∀ y ∈ es', (decK y.1).isSome = true) → ∃ q, findM sh2 (kk (p.2, p.1)) es' = some q := by
        intro es'
        induction es' with
        | nil => intro _; exact ⟨_, rfl⟩
        | cons y es' ih =>
          intro hy
          obtain ⟨q, hq⟩ := ih fun z hz => hy z (by simp [hz])
          obtain ⟨r, hr⟩ := Option.isSome_iff_exists.1 (hy y (by simp))
          obtain ⟨h1, h2, h3⟩ := decK_some hr
          show ∃ q, bo (eqA sh2 (kk (p.2, p.1)) y.1) (fun b => Bool.rec (findM sh2 (kk (p.2, p.1)) es') (some (some y.2)) b) = some q
          rw [h1, x_eq2 hp2 hp1 h2 h3]
          cases decide ((p.2, p.1) = (r.1, r.2)) with
          | true => exact ⟨_, rfl⟩
          | false => exact ⟨q, hq⟩
      exact key es fun y hy => List.all_eq_true.1 hk y hy
    obtain ⟨q, hq⟩ := hf2
    have hbord : edgK es p = (decide (p.1 < p.2) || q.isNone) := by
      unfold edgK border; rw [hq]; cases q <;> rfl
    have := hedl d
    obtain ⟨s5, y, q1, q2, q3⟩ := round (C := C) (LF := LF) hl (p := p) (v := v) (q := q) (by omega) (by omega) (by omega) (by rw [x_eq2 hp2 hp1 hp2 hp1]; simp) hq
    refine ⟨s5, ⟨.normal, y⟩, q1, q2, ?_⟩
    show Inv (d ++ [(kk p, v)]) y
    by_cases hc : (decide (p.1 < p.2) || q.isNone) = true
    · rw [if_pos hc] at q3
      have : edg es (d ++ [(kk p, v)]) = edg es d ++ [mm p] := by rw [edg_snoc, hdec, hbord, if_pos hc]
      refine ⟨by rw [this]; exact q3.2, ?_⟩
      rw [this, q3.1, hnx]; simp; omega
    · rw [if_neg hc] at q3
      have : edg es (d ++ [(kk p, v)]) = edg es d := by rw [edg_snoc, hdec, hbord, if_neg hc]
      refine ⟨by rw [this]; exact q3.2, ?_⟩
      rw [this, q3.1, hnx]; simp; omega
  · obtain ⟨⟨u5, u22, ub, uout⟩, hnx⟩ := hI
    have hpe := edg_perm (es := es) hp
    rw [hL] at hpe
    have hdl : d.length = es.length := hp.length_eq
    have hll := hpe.length_eq
    rcases uout with ⟨e, _⟩ | ⟨_, id, i1, i2, i3, u7, ur⟩
    · rw [e] at hpe; exact absurd hpe.nil_eq.symm hne
    · refine ⟨s.rows.set id (some (.cells 308 (flat2 (edg es d)))), fun b' q hq => ?_, ?_⟩
      · rw [T.get_set] at hq
        split at hq
        · rename_i hb'
          simp only [Option.some.injEq] at hq
          subst hb'; subst hq
          exact .inr ⟨ur, rfl⟩
        · exact .inl hq
      · rw [hll] at u7
        have hst := hsort (edg es d) (s.rows.set id (some (.cells 308 (flat2 (edg es d))))) s'.nx id hpe (by rw [T.get_set, if_pos rfl])
        obtain ⟨tm', rows', nx'⟩ := s'
        simp only at u5 u22 ub u7 ur hnx hst i2
        show JRuns C LF [] tl ⟨(overSt ⟨tm', rows', nx'⟩ 23 24).tm, _, nx'⟩ X
        obtain ⟨s7, r7, g2, g7, grow⟩ : ∃ s7, runIC C LF (JC.code (JC.lft tl)) ⟨(overSt ⟨tm', rows', nx'⟩ 23 24).tm, s.rows.set id (some (.cells 308 (flat2 (edg es d)))), nx'⟩ = some ⟨.normal, s7⟩ ∧ s7.nx = nx' ∧ s7.tm.get 7 = some (.slice id 0 L1.length (.op 2)) ∧ s7.rows = (s.rows.set id (some (.cells 308 (flat2 (edg es d))))).set id (some (.cells 308 (flat2 S1))) := by
          have hcall : ∀ vs rows nx, evK vs rows nx C (.call 287) = C (.f 287) vs rows nx := fun _ _ _ => rfl
          unfold tl
          simp only [I.J260, JC.rgt, JC.lft, JC.code, overSt]
          simp only [x_ops_nil, x_ops, x_g, s_g, x_nil, x_cons, x_c, s_ev, x_bo, x_gd, x_mv, s_box, s_store2, s_put2, s_asCells, s_load, s_idx, s_ext, s_build2, s_lookup, s_update, s_lenM, x_lss, x_gtr, x_eql, x_not, x_pick, s_rd1, s_rd2, s_mp1, s_mp2, s_want, s_b1, s_b2, s_cond, s_stA, s_stI, s_ceA, x_iops, x_iseq, s_icond, x_iblock, x_iexit, x_iret, x_iskip, T.get_set, Option.getD_some, reduceIte, Nat.reduceEqDiff, eq_self, ii, kk, if_true, if_false, List.getElem?_cons_zero, List.getElem?_cons_succ, Option.getD_none, Option.isSome_some, Option.isSome_none, beq_self_eq_true, Nat.reduceLT, Nat.reduceMul, Nat.reduceAdd, Nat.zero_add, Nat.one_mul, Nat.zero_mul, Bool.false_eq_true, Bool.not_false, Bool.not_true, decide_true, decide_false, u7, hcall, hst]
          refine ⟨_, rfl, ?_⟩
          simp only [T.get_set, Nat.reduceEqDiff, if_true, if_false, reduceIte, u7, and_self]
        obtain ⟨s8, r8, k2, k3, knx, krow⟩ : ∃ s8, runIC C LF (JC.code (JC.lft (JC.rgt tl))) s7 = some ⟨.normal, s8⟩ ∧ s8.tm.get 2 = some (.slice id 0 L1.length (.op 2)) ∧ s8.tm.get 3 = some (.int .i64 (.ofNat 0)) ∧ s8.nx = s7.nx ∧ s8.rows = s7.rows := by
          obtain ⟨tm7, rows7, nx7⟩ := s7
          simp only at g7
          unfold tl
          simp only [I.J260, JC.rgt, JC.lft, JC.code]
          simp only [x_ops_nil, x_ops, x_g, s_g, x_nil, x_cons, x_c, s_ev, x_bo, x_gd, x_mv, s_box, s_store2, s_put2, s_asCells, s_load, s_idx, s_ext, s_build2, s_lookup, s_update, s_lenM, x_lss, x_gtr, x_eql, x_not, x_pick, s_rd1, s_rd2, s_mp1, s_mp2, s_want, s_b1, s_b2, s_cond, s_stA, s_stI, s_ceA, x_iops, x_iseq, s_icond, x_iblock, x_iexit, x_iret, x_iskip, T.get_set, Option.getD_some, reduceIte, Nat.reduceEqDiff, eq_self, ii, kk, if_true, if_false, List.getElem?_cons_zero, List.getElem?_cons_succ, Option.getD_none, Option.isSome_some, Option.isSome_none, beq_self_eq_true, Nat.reduceLT, Nat.reduceMul, Nat.reduceAdd, Nat.zero_add, Nat.one_mul, Nat.zero_mul, Bool.false_eq_true, Bool.not_false, Bool.not_true, decide_true, decide_false, g7]
          refine ⟨_, rfl, ?_⟩
          simp only [T.get_set, Nat.reduceEqDiff, if_true, if_false, reduceIte, and_self]
        refine JR_ic (c := JC.code (JC.lft tl)) (b := JC.rgt tl) r7 (JR_ic (c := JC.code (JC.lft (JC.rgt tl))) (b := .ic .ret) r8 ⟨_, rfl, hX s8 id (by omega) (by omega) (by omega) (.inr ⟨_, by rw [krow, grow]⟩) k2 k3 hfresh⟩)
end Ev.Ed
end

section
namespace Ev
def fns43 : T IFn := (.node none (.node none (.node (some I.I3) (.node (some I.I7) (.node (some I.I15) (.node (some I.I31) (.node (some I.I63) (.node (some I.I127) .nil .nil) (.node (some I.I191) (.node (some I.I319) .nil .nil) .nil)) (.node (some I.I95) (.node (some I.I159) (.node (some I.I287) .nil .nil) .nil) (.node (some I.I223) .nil .nil))) (.node (some I.I47) (.node (some I.I79) (.node (some I.I143) (.node (some I.I271) .nil .nil) .nil) .nil) (.node (some I.I111) (.node (some I.I175) (.node (some I.I303) .nil .nil) .nil) .nil))) (.node (some I.I23) (.node (some I.I39) (.node (some I.I71) (.node (some I.I135) (.node (some I.I263) .nil .nil) .nil) (.node (some I.I199) .nil .nil)) (.node (some I.I103) (.node (some I.I167) .nil .nil) (.node (some I.I231) .nil .nil))) (.node (some I.I55) (.node (some I.I87) (.node (some I.I151) (.node (some I.I279) .nil .nil) .nil) (.node none (.node (some I.I343) .nil .nil) .nil)) (.node (some I.I119) (.node (some I.I183) (.node (some I.I311) .nil .nil) .nil) .nil)))) (.node (some I.I11) (.node (some I.I19) (.node (some I.I35) (.node (some I.I67) (.node (some I.I131) (.node (some I.I259) .nil .nil) .nil) (.node (some I.I195) .nil .nil)) (.node (some I.I99) (.node (some I.I163) (.node (some I.I291) .nil .nil) .nil) (.node (some I.I227) .nil .nil))) (.node (some I.I51) (.node (some I.I83) (.node (some I.I147) .nil .nil) (.node (some I.I211) (.node (some I.I339) .nil .nil) .nil)) (.node (some I.I115) (.node none (.node (some I.I307) .nil .nil) .nil) .nil))) (.node (some I.I27) (.node (some I.I43) (.node (some I.I75) (.node (some I.I139) (.node (some I.I267) .nil .nil) .nil) (.node (some I.I203) .nil .nil)) (.node (some I.I107) (.node (some I.I171) (.node (some I.I299) .nil .nil) .nil) (.node (some I.I235) .nil .nil))) (.node (some I.I59) (.node (some I.I91) (.node (some I.I155) .nil .nil) .nil) (.node (some I.I123) .nil .nil))))) (.node (some I.I5) (.node (some I.I9) (.node (some I.I17) (.node (some I.I33) (.node (some I.I65) (.node (some I.I129) (.node (some I.I257) .nil .nil) .nil) (.node (some I.I193) (.node (some I.I321) .nil .nil) .nil)) (.node (some I.I97) (.node (some I.I161) (.node (some I.I289) .nil .nil) .nil) (.node (some I.I225) .nil .nil))) (.node (some I.I49) (.node (some I.I81) (.node (some I.I145) (.node (some I.I273) .nil .nil) .nil) (.node (some I.I209) (.node (some I.I337) .nil .nil) .nil)) (.node (some I.I113) (.node (some I.I177) (.node (some I.I305) .nil .nil) .nil) .nil))) (.node (some I.I25) (.node (some I.I41) (.node (some I.I73) (.node (some I.I137) (.node (some I.I265) .nil .nil) .nil) (.node (some I.I201) .nil .nil)) (.node (some I.I105) (.node (some I.I169) (.node (some I.I297) .nil .nil) .nil) (.node (some I.I233) .nil .nil))) (.node (some I.I57) (.node (some I.I89) (.node (some I.I153) (.node (some I.I281) .nil .nil) .nil) (.node none (.node (some I.I345) .nil .nil) .nil)) (.node (some I.I121) (.node (some I.I185) (.node (some I.I313) .nil .nil) .nil) .nil)))) (.node (some I.I13) (.node (some I.I21) (.node (some I.I37) (.node (some I.I69) (.node (some I.I133) (.node (some I.I261) .nil .nil) .nil) (.node (some I.I197) .nil .nil)) (.node (some I.I101) (.node (some I.I165) .nil .nil) .nil)) (.node (some I.I53) (.node (some I.I85) (.node (some I.I149) (.node (some I.I277) .nil .nil) .nil) .nil) (.node (some I.I117) (.node (some I.I181) .nil .nil) .nil))) (.node (some I.I29) (.node (some I.I45) (.node (some I.I77) (.node (some I.I141) .nil .nil) .nil) (.node (some I.I109) (.node (some I.I173) (.node (some I.I301) .nil .nil) .nil) .nil)) (.node (some I.I61) (.node (some I.I93) (.node (some I.I157) .nil .nil) (.node (some I.I221) .nil .nil)) (.node (some I.I125) (.node (some I.I189) (.node (some I.I317) .nil .nil) .nil) .nil)))))) (.node none (.node (some I.I4) (.node (some I.I8) (.node (some I.I16) (.node (some I.I32) (.node (some I.I64) (.node (some I.I128) (.node (some I.I256) .nil .nil) .nil) (.node (some I.I192) (.node (some I.I320) .nil .nil) .nil)) (.node (some I.I96) (.node (some I.I160) (.node (some I.I288) .nil .nil) .nil) (.node (some I.I224) .nil .nil))) (.node (some I.I48) (.node (some I.I80) (.node (some I.I144) .nil .nil) (.node (some I.I208) .nil .nil)) (.node (some I.I112) (.node (some I.I176) (.node (some I.I304) .nil .nil) .nil) .nil))) (.node (some I.I24) (.node (some I.I40) (.node (some I.I72) (.node (some I.I136) (.node (some I.I264) .nil .nil) .nil) (.node (some I.I200) .nil .nil)) (.node (some I.I104) (.node (some I.I168) (.node (some I.I296) .nil .nil) .nil) (.node (some I.I232) .nil .nil))) (.node (some I.I56) (.node (some I.I88) (.node (some I.I152) (.node (some I.I280) .nil .nil) .nil) .nil) (.node (some I.I120) (.node (some I.I184) (.node (some I.I312) .nil .nil) .nil) .nil)))) (.node (some I.I12) (.node (some I.I20) (.node (some I.I36) (.node (some I.I68) (.node (some I.I132) (.node (some I.I260) .nil .nil) .nil) (.node (some I.I196) (.node (some I.I324) .nil .nil) .nil)) (.node (some I.I100) (.node (some I.I164) (.node (some I.I292) .nil .nil) .nil) (.node (some I.I228) .nil .nil))) (.node (some I.I52) (.node (some I.I84) (.node (some I.I148) (.node (some I.I276) .nil .nil) .nil) (.node (some I.I212) (.node (some I.I340) .nil .nil) .nil)) (.node (some I.I116) (.node (some I.I180) (.node (some I.I308) .nil .nil) .nil) .nil))) (.node (some I.I28) (.node (some I.I44) (.node (some I.I76) (.node none (.node (some I.I268) .nil .nil) .nil) (.node (some I.I204) (.node (some I.I332) .nil .nil) .nil)) (.node (some I.I108) (.node (some I.I172) (.node (some I.I300) .nil .nil) .nil) .nil)) (.node (some I.I60) (.node (some I.I92) (.node (some I.I156) .nil .nil) (.node (some I.I220) .nil .nil)) (.node (some I.I124) (.node none (.node (some I.I316) .nil .nil) .nil) .nil))))) (.node (some I.I6) (.node (some I.I10) (.node (some I.I18) (.node (some I.I34) (.node (some I.I66) (.node (some I.I130) (.node (some I.I258) .nil .nil) .nil) (.node (some I.I194) (.node (some I.I322) .nil .nil) .nil)) (.node (some I.I98) (.node (some I.I162) (.node (some I.I290) .nil .nil) .nil) (.node (some I.I226) .nil .nil))) (.node (some I.I50) (.node (some I.I82) (.node (some I.I146) .nil .nil) (.node (some I.I210) (.node (some I.I338) .nil .nil) .nil)) (.node (some I.I114) (.node (some I.I178) (.node (some I.I306) .nil .nil) .nil) .nil))) (.node (some I.I26) (.node (some I.I42) (.node (some I.I74) (.node (some I.I138) (.node (some I.I266) .nil .nil) .nil) (.node (some I.I202) .nil .nil)) (.node (some I.I106) (.node none (.node (some I.I298) .nil .nil) .nil) (.node (some I.I234) .nil .nil))) (.node (some I.I58) (.node (some I.I90) (.node (some I.I154) (.node (some I.I282) .nil .nil) .nil) (.node none (.node (some I.I346) .nil .nil) .nil)) (.node (some I.I122) (.node (some I.I186) (.node (some I.I314) .nil .nil) .nil) .nil)))) (.node (some I.I14) (.node (some I.I22) (.node (some I.I38) (.node (some I.I70) (.node (some I.I134) (.node (some I.I262) .nil .nil) .nil) (.node (some I.I198) .nil .nil)) (.node (some I.I102) (.node (some I.I166) .nil .nil) .nil)) (.node (some I.I54) (.node (some I.I86) (.node (some I.I150) (.node (some I.I278) .nil .nil) .nil) (.node none (.node (some I.I342) .nil .nil) .nil)) (.node (some I.I118) (.node (some I.I182) .nil .nil) .nil))) (.node (some I.I30) (.node (some I.I46) (.node (some I.I78) (.node (some I.I142) (.node (some I.I270) .nil .nil) .nil) .nil) (.node (some I.I110) (.node (some I.I174) (.node (some I.I302) .nil .nil) .nil) .nil)) (.node (some I.I62) (.node (some I.I94) (.node (some I.I158) .nil .nil) (.node (some I.I222) .nil .nil)) (.node (some I.I126) (.node (some I.I190) (.node (some I.I318) .nil .nil) .nil) .nil)))))))
end Ev
end
