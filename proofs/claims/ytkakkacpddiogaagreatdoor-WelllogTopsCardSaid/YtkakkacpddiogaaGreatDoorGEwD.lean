/- From a function's code to the evaluator's. -/
import Derived.Test.YtkakkacpddiogaaGreatDoorGEvX
import Derived.Maps.RangeRun

set_option linter.unusedSimpArgs false
set_option linter.unusedVariables false
section
namespace Ev
open Go Go.RowKit

def befB (ms : List Nat) (i j : Nat) : Bool := (ms.getD i 0).testBit j
def clsD (ds : List DOp) (i : Nat) : Cls := match ds[i]? with | some d => d.cls | none => .p
def isC (x : Cls) : Bool := match x with | .c => true | _ => false
def isA (x : Cls) : Bool := match x with | .a => true | _ => false
def isL (x : Cls) : Bool := match x with | .l => true | _ => false
def allI {α : Type} : Nat → (Nat → α → Bool) → List α → Bool
  | _, _, [] => true
  | i, p, a :: l => p i a && allI (i+1) p l
theorem allI_get {α : Type} {p : Nat → α → Bool} : ∀ {l : List α} {k : Nat}, allI k p l = true → ∀ i a, l[i]? = some a → p (k + i) a = true
  | [], k, h, i, a, hi => by simp at hi
  | x :: l, k, h, i, a, hi => by
    simp only [allI, Bool.and_eq_true] at h
    cases i with
    | zero => simp at hi; subst hi; exact h.1
    | succ i =>
      have := allI_get h.2 i a (by simpa using hi)
      rw [show k + (i + 1) = k + 1 + i by omega]; exact this

def drawB (n : Nat) (l : List Oper) (ds : List DOp) (rst : List Nat) (ms : List Nat) : Bool :=
  allI 0 (fun i o =>
    Nat.blt (ms.getD i 0) (2 ^ i) &&
    (o.after.toList.all fun e => !Region.binds .any e || Nat.blt e.on i) &&
    ((List.range i).all fun j => !befB ms i j || o.after.toList.any fun e => Region.binds .any e && (Nat.beq e.on j || befB ms e.on j)) &&
    (allI 0 (fun j oj => Nat.beq i j || (match o.dst with | none => true | some t => (match oj.dst with | none => true | some u => !Nat.beq t u))) l)) l &&
  allI 0 (fun i d =>
    (allI 0 (fun j dj => !(isC d.cls && isC dj.cls && Nat.blt i j) || befB ms j i) ds) &&
    ((readsOf d.g).all fun t => Nat.blt t n && allI 0 (fun j oj => (match oj.dst with | none => true | some u => !Nat.beq t u) || Nat.beq j i || befB ms i j || befB ms j i) l) &&
    (d.acc.all fun a => befB ms i a && isC d.cls) &&
    (allI 0 (fun j dj => Nat.beq i j || d.acc.all fun a => !dj.acc.contains a) ds) &&
    (!isA d.cls || rst.contains i || ds.any fun di => di.acc.contains i) &&
    (rst.all fun a => !d.acc.contains a) &&
    (!isL d.cls || (Nat.ble d.lo l.length && (allI 0 (fun c dc => !(isC dc.cls && Nat.blt c d.lo) || befB ms i c) ds) &&
      (Nat.beq d.hi l.length || (isC (clsD ds d.hi) && befB ms d.hi i)) &&
      (d.chk || (List.range (l.length + 1)).all fun F => !((Nat.beq F l.length || isC (clsD ds F)) && Nat.ble d.lo F && Nat.ble F d.hi) || (Nat.blt i F && allI 0 (fun c dc => !(isC dc.cls && Nat.blt i c) || Nat.ble F c) ds))))) ds

/-- The chain that comes first of those that do not come before. -/
def firstC (cs : List Nat) (p : Nat → Bool) (m : Nat) : Nat := match cs.find? p with | some c => c | none => m
def mkD (P : Program) (n : Nat) (l : List Oper) (ms : List Nat) (cl : List (Nat × Cls)) (i : Nat) (o : Oper) : DOp :=
  let g := compG P n l o
  let cs := cl.filterMap fun p => match p.2 with | .c => some p.1 | _ => none
  let lo := firstC cs (fun c => !befB ms i c) l.length
  let hi := firstC cs (fun c => befB ms c i) l.length
  let prev := cs.filter fun c => Nat.blt c i
  ⟨i, clsK g.k, (match clsK g.k with
    | .c => cl.filterMap fun p => match p.2 with | .a => (match befB ms i p.1 && prev.all fun c => !befB ms c p.1 with | true => some p.1 | false => none) | _ => none
    | _ => []), lo, hi,
    Nat.blt 1 ((cs ++ [l.length]).filter fun F => Nat.ble lo F && Nat.ble F hi).length || Nat.ble hi i || (cs.any fun c => Nat.blt i c && Nat.blt c hi), g⟩
def compDs (P : Program) (n : Nat) (ops : Array Oper) (ms : List Nat) : List DOp :=
  let l := ops.toList
  l.zipIdx.map fun p => mkD P n l ms (l.zipIdx.map fun q => (q.2, clsK (compG P n l q.1).k)) p.2 p.1
def compD (P : Program) (n : Nat) (ops : Array Oper) (ms : List Nat) : IC :=
  let ds := compDs P n ops ms
  let rst := (ds.filter fun d => isA d.cls && !(ds.any fun e => e.acc.contains d.i)).map (·.i)
  match Nat.ble ms.length ops.size && drawB n ops.toList ds rst ms with
  | true => .draw ops.size ds rst
  | false => .bad

def guardsOK (n : Nat) (l : List Oper) : Bool := l.all fun o => (compGuard n l o).isSome
def comp (P : Program) (n : Nat) : Bool → Code → IC
  | _, .skip => .skip
  | _, .region _ ops draw => match guardsOK n ops.toList with
    | true => (match draw with
      | true => compD P n ops (Region.before ops).toList
      | false => .ops (ops.toList.map (compG P n ops.toList)))
    | false => .bad
  | rd, .seq a b => .seq (comp P n rd a) (comp P n rd b)
  | rd, .cond c a b => match cOpd n c with
    | some y => .cond y (comp P n rd a) (comp P n rd b)
    | none => .bad
  | rd, .block id b => .block id (comp P n rd b)
  | rd, .loop b => .loop (comp P n rd b)
  | _, .exit id => .exit id
  | _, .label _ => .skip
  | _, .ret => .ret
  | rd, .rangeFunc f ps a b => match rd with
    | true => (match cOpd n f with
      | some y => .range y ps.toList (comp P n false a) (comp P n false b)
      | none => .bad)
    | false => .bad
  | _, .scope _ => .bad
  | _, .goto _ => .bad
  | _, .refuse _ => .bad
def compRes (P : Program) (n : Nat) : List ResultVar → Option (List (Nat × Option Kd))
  | [] => some []
  | .tmp t :: l => gd (Nat.blt t n) (bo (compRes P n l) fun r => some ((t, none) :: r))
  | .cell a t :: l => gd (Nat.blt a n) (bo (kdOf P t) fun k => bo (compRes P n l) fun r => some ((a, some k) :: r))
def compFn (P : Program) (f : Func) : Option IFn := bo f.body fun c => bo (compRes P f.ntmps f.results.toList) fun r => some ⟨f.ntmps, comp P f.ntmps true c, r⟩

theorem guardsOK_some {n : Nat} {l : List Oper} (h : guardsOK n l = true) : ∀ o ∈ l, ∃ g, compGuard n l o = some g := fun o ho => by
  have := List.all_eq_true.1 h o ho
  exact Option.isSome_iff_exists.1 this

theorem compDs_get {P : Program} {n : Nat} {ops : Array Oper} {ms : List Nat} {i : Nat} {o : Oper} (ho : ops[i]? = some o) :
    ∃ d, (compDs P n ops ms)[i]? = some d ∧ d.i = i ∧ d.g = compG P n ops.toList o ∧ d.cls = clsK d.g.k := by
  unfold compDs
  refine ⟨mkD P n ops.toList ms (ops.toList.zipIdx.map fun q => (q.2, clsK (compG P n ops.toList q.1).k)) i o, ?_, rfl, rfl, rfl⟩
  simp only [List.getElem?_map, List.getElem?_zipIdx, Nat.zero_add]
  have : ops.toList[i]? = some o := by simpa using ho
  rw [this]
  rfl

theorem isC_eq {x : Cls} : isC x = true ↔ x = .c := by cases x <;> simp [isC]
theorem isA_eq {x : Cls} : isA x = true ↔ x = .a := by cases x <;> simp [isA]
theorem isL_eq {x : Cls} : isL x = true ↔ x = .l := by cases x <;> simp [isL]

theorem drawB_ok {P : Program} {n : Nat} {ops : Array Oper} {ds : List DOp} {rst ms : List Nat} (hlen : ds.length = ops.size) (hat : ∀ (i : Nat) (o : Oper), ops[i]? = some o → ∃ d : DOp, ds[i]? = some d ∧ d.i = i ∧ d.g = compG P n ops.toList o ∧ d.cls = clsK d.g.k)
    (hg : guardsOK n ops.toList = true) (hms : ms.length ≤ ops.size) (h : drawB n ops.toList ds rst ms = true) : DrawOK P n ops ds rst (fun i j => befB ms i j = true) := by
  unfold drawB at h
  simp only [Bool.and_eq_true] at h
  obtain ⟨h1, h2⟩ := h
  have hl : ops.toList.length = ops.size := by simp
  have gl : ∀ {i : Nat} {o : Oper}, ops[i]? = some o → ops.toList[i]? = some o := fun {i o} e => by simpa using e
  have A := fun (i : Nat) (o : Oper) (e : ops[i]? = some o) => allI_get h1 i o (gl e)
  have D := fun (i : Nat) (d : DOp) (e : ds[i]? = some d) => allI_get h2 i d e
  simp only [Nat.zero_add, Bool.and_eq_true, blt_nat, beq_nat, ble_nat] at A D
  have hlt : ∀ i j, befB ms i j = true → j < i := by
    intro i j hb
    unfold befB at hb
    refine Classical.byContradiction fun hge => ?_
    by_cases hi : i < ops.size
    · have := (A i ops[i] (by simp [hi])).1.1.1
      simp only [decide_eq_true_eq] at this
      have := Nat.testBit_lt_two_pow (Nat.lt_of_lt_of_le this (Nat.pow_le_pow_right (by omega) (Nat.le_of_not_lt hge)))
      rw [this] at hb; cases hb
    · have : ms.getD i 0 = 0 := by
        rw [List.getD_eq_getElem?_getD, List.getElem?_eq_none (by omega)]; rfl
      rw [this] at hb; simp at hb
  refine ⟨hlen, hat, guardsOK_some hg, hlt, ?_, ?_, ?_, ?_, ?_, ?_, ?_, ?_, ?_, ?_, ?_, ?_, ?_⟩
  · intro i j o hb ho
    have := List.all_eq_true.1 (A i o ho).1.2 j (List.mem_range.2 (hlt i j hb))
    rw [hb] at this
    simp only [Bool.not_true, Bool.false_or, List.any_eq_true, Bool.and_eq_true, Bool.or_eq_true] at this
    obtain ⟨e, he, q1, q2⟩ := this
    exact ⟨e, by simpa using he, q1, q2.imp (fun q => by simpa using q) id⟩
  · intro i o e ho he hb
    have := List.all_eq_true.1 (A i o ho).1.1.2 e (by simpa using he)
    rw [hb] at this
    simpa using this
  · intro i j di dj hi hj hci hcj hij
    have := allI_get (D i di hi).1.1.1.1.1.1 j dj hj
    simp only [Nat.zero_add, isC_eq.2 hci, isC_eq.2 hcj, Bool.true_and, decide_eq_true hij, Bool.not_true, Bool.false_or] at this
    exact this
  · intro i d t j oj hi ht hj hdt hne
    have := List.all_eq_true.1 (D i d hi).1.1.1.1.1.2 t ht
    simp only [Bool.and_eq_true] at this
    have := allI_get this.2 j oj (gl hj)
    rw [hdt] at this
    simpa [hne] using this
  · intro i d t hi ht
    have := List.all_eq_true.1 (D i d hi).1.1.1.1.1.2 t ht
    simp only [Bool.and_eq_true, decide_eq_true_eq] at this
    exact this.1
  · intro i j oi oj t hi hj hdi hdj
    refine Classical.byContradiction fun hne => ?_
    have := allI_get (A i oi hi).2 j oj (gl hj)
    rw [hdi, hdj] at this
    simp [hne] at this
  · intro i d a hi ha
    have := List.all_eq_true.1 (D i d hi).1.1.1.1.2 a ha
    simp only [Bool.and_eq_true, isC_eq] at this
    exact this
  · intro i j di dj a hi hj ha hb
    refine Classical.byContradiction fun hne => ?_
    have := allI_get (D i di hi).1.1.1.2 j dj hj
    simp only [Nat.zero_add, decide_eq_false hne, Bool.false_or] at this
    have := List.all_eq_true.1 this a ha
    simp [hb] at this
  · intro a da ha hca hno
    have := (D a da ha).1.1.2
    simp only [isA_eq.2 hca, Bool.not_true, Bool.false_or, Bool.or_eq_true, List.contains_iff_mem, List.any_eq_true] at this
    rcases this with h3 | ⟨di, h3, h4⟩
    · exact h3
    · obtain ⟨i, hi⟩ := List.getElem?_of_mem h3
      exact absurd h4 (hno i di hi)
  · intro a i di ha hi hin
    have := List.all_eq_true.1 (D i di hi).1.2 a ha
    simp [hin] at this
  · intro i d hi hc
    have := (D i d hi).2
    simp only [isL_eq.2 hc, Bool.not_true, Bool.false_or, Bool.and_eq_true, decide_eq_true_eq, hl] at this
    refine ⟨this.1.1.1, fun c dc hcc hdc hlt => ?_⟩
    have := allI_get this.1.1.2 c dc hcc
    simp only [Nat.zero_add, isC_eq.2 hdc, decide_eq_true hlt, Bool.and_self, Bool.not_true, Bool.false_or] at this
    exact this
  · intro i d hi hc
    have := (D i d hi).2
    simp only [isL_eq.2 hc, Bool.not_true, Bool.false_or, Bool.and_eq_true, decide_eq_true_eq, hl, Bool.or_eq_true] at this
    rcases this.1.2 with h3 | ⟨h3, h4⟩
    · exact .inl h3
    · unfold clsD at h3
      cases hq : ds[d.hi]? with
      | none => rw [hq] at h3; cases h3
      | some dc => rw [hq] at h3; exact .inr ⟨dc, rfl, isC_eq.1 h3, h4⟩
  · intro i d hi hc hchk F hF hFc hlo hhi
    have := (D i d hi).2
    simp only [isL_eq.2 hc, Bool.not_true, Bool.false_or, Bool.and_eq_true, decide_eq_true_eq, hl, hchk] at this
    have := List.all_eq_true.1 this.2 F (List.mem_range.2 (by omega))
    have hcond : ((decide (F = ops.size) || isC (clsD ds F)) && decide (d.lo ≤ F) && decide (F ≤ d.hi)) = true := by
      simp only [Bool.and_eq_true, Bool.or_eq_true, decide_eq_true_eq]
      refine ⟨⟨?_, hlo⟩, hhi⟩
      rcases hFc with h3 | ⟨dF, h3, h4⟩
      · exact .inl h3
      · right; unfold clsD; rw [h3]; exact isC_eq.2 h4
    rw [hcond] at this
    simp only [Bool.not_true, Bool.false_or, Bool.and_eq_true, decide_eq_true_eq] at this
    refine ⟨this.1, fun c dc hcc hdc hlt => ?_⟩
    have := allI_get this.2 c dc hcc
    simp only [Nat.zero_add, isC_eq.2 hdc, decide_eq_true hlt, Bool.and_self, Bool.not_true, Bool.false_or, decide_eq_true_eq] at this
    exact this
end Ev
end

/- A range over a function, in the machine; a function's code. -/
section
namespace Ev
open Go Go.RowKit

/-- How a round's code reads. -/
abbrev IRof (P : Program) : Nat → IC → Code → Prop := fun n ic c => comp P n false c = ic

section
variable {P : Program} {ι : Io} {rows : T ARow} {w : World} {nx : Nat} {r : R} {IR : Nat → IC → Code → Prop} {B : Base} {C : CallF}

/-- A block that no row lies at. -/
theorem Post.push (o : Obj) (h : HRel IR B ι rows w) : Post IR B ι ι rows w nx rows nx (w.alloc o) := by
  refine ⟨.refl _, fun _ _ _ => rfl, fun _ _ => rfl, Nat.le_refl _, ⟨fun b r e => ?_, h.inj, h.low, h.below.alloc h.room o, ?_⟩, fun k hk _ => ?_, ?_, fun k hk => .inl hk⟩
  · obtain ⟨L, o', h1, h2, h3⟩ := h.row b r e
    refine ⟨L, o', h1, ?_, h3⟩
    have := (Array.getElem?_eq_some_iff.1 h2).1
    show (w.heap.push o)[L.blk]? = some o'
    rw [Array.getElem?_push, if_neg (by omega)]; exact h2
  · have := h.room
    show B.n ≤ (w.heap.push o).size
    simp; omega
  · show (w.heap.push o)[k]? = _
    rw [Array.getElem?_push, if_neg (by omega)]
  · show w.heap.size ≤ (w.heap.push o).size
    simp

/-- A row that goes; what lies at its block may turn. -/
theorem Post.kill_row {w' : World} {b : Nat} {r0 : ARow} {L : Loc} (hro : r0.isRo = false) (h : HRel IR B ι rows w) (he : rows.get b = some r0) (hi : ι b = some L)
    (hoth : ∀ k, k ≠ L.blk → w'.heap[k]? = w.heap[k]?) (hsz : w'.heap.size = w.heap.size) (hb : Below B.n w w') : Post IR B ι ι rows w nx (rows.set b none) nx w' := by
  have hget : ∀ b' rr, (rows.set b none).get b' = some rr → b' ≠ b ∧ rows.get b' = some rr := fun b' rr e => by
    rw [T.get_set] at e
    split at e
    · cases e
    · rename_i hb'; exact ⟨hb', e⟩
  refine ⟨.refl _, fun _ _ _ => rfl, fun _ _ => rfl, Nat.le_refl _, ⟨fun b' rr e => ?_, fun b1 b2 r1 r2 L1 L2 e1 e2 => h.inj b1 b2 r1 r2 L1 L2 (hget _ _ e1).2 (hget _ _ e2).2, fun b' rr L' e => h.low b' rr L' (hget _ _ e).2, h.below.trans hb, by rw [hsz]; exact h.room⟩, fun k _ ho => ?_, Nat.le_of_eq hsz.symm, fun k ⟨b', rr, L', e, i, hk⟩ => .inl ⟨b', rr, L', (hget _ _ e).2, i, hk⟩⟩
  · obtain ⟨h1, h2⟩ := hget b' rr e
    obtain ⟨L1, o1, g1, g2, g3⟩ := h.row b' rr h2
    refine ⟨L1, o1, g1, ?_, g3⟩
    rw [hoth _ (fun hk => h1 (h.inj b' b rr r0 L1 L h2 he (.inr hro) g1 hi hk))]; exact g2
  · exact hoth k (fun hk => ho ⟨b, r0, L, he, hi, hk.symm⟩)

theorem below_put {n l : Nat} (w : World) (o : Obj) (h : n ≤ l) : Below n w (w.putObj l o) :=
  ⟨rfl, rfl, rfl, by simp, fun k hk => World.putObj_heap_other (by omega)⟩

theorem runs_range {E n : Nat} {f : Operand} {y : Opd} {ps : Array Tmp} {x z : Code} (hC : CallOK (IRof P) B P C) (hy : cOpd n f = some y) :
    RunsAs (IRof P) B P E n none (fun s => evRange C y ps.toList (comp P n false x) (comp P n false z) s) (.rangeFunc f ps x z) := by
  intro s xs ι a w Q he hf hE hg
  have hrel := ev_opd hy hf.sz hf.tm
  simp only [evRange] at he
  split at he
  · rename_i g cap hev
    rw [hev] at hrel
    have hv : ∃ caps : List Value, a.eval f = .func (.func g) #[] ⟨caps⟩ ∧ VRelL ι cap caps := by
      generalize a.eval f = u at hrel
      cases hrel with
      | fn h => exact ⟨_, rfl, h⟩
    obtain ⟨caps, hv, hcaps⟩ := hv
    obtain ⟨r, he1, he2⟩ := bo_some.1 he
    refine wpIn_rangeFunc fun fn hfn => ?_
    have hpA : Post (IRof P) B ι ι s.rows w s.nx s.rows s.nx (w.alloc (.deferred (some []))) := Post.push _ hf.h
    obtain ⟨ι1, i1, p1⟩ := Post.new_row (nx := s.nx) hpA.hrel (hf.fr _ (Nat.le_refl _)) (.loop { state := .ready, pending := none, fn, tmps := a.tmps, params := ps, assign := x, body := z, defers := w.heap.size }) 0
      (.loop s.tm ps.toList (comp P n false x) (comp P n false z) none) (fun ι' he' _ => .loop ⟨fun t ht => (hf.tm.rel t ht).mono he', rfl, by show comp P a.tmps.size false x = _; rw [hf.sz], by show comp P a.tmps.size false z = _; rw [hf.sz], rfl, rfl⟩)
    have hsA : (w.alloc (.deferred (some []))).heap.size = w.heap.size + 1 := World.size_alloc _ _
    have p1' : Post (IRof P) B ι ι1 s.rows w s.nx (s.rows.set s.nx (some (.loop s.tm ps.toList (comp P n false x) (comp P n false z) none))) (s.nx + 1)
        ((w.alloc (.deferred (some []))).alloc (.loop { state := .ready, pending := none, fn, tmps := a.tmps, params := ps, assign := x, body := z, defers := w.heap.size })) := hpA.trans p1
    generalize hwB : (w.alloc (.deferred (some []))).alloc (.loop { state := .ready, pending := none, fn, tmps := a.tmps, params := ps, assign := x, body := z, defers := w.heap.size }) = wB at p1'
    have hargs : VRelL ι1 (.yld s.nx :: cap) (.func (.yield (w.heap.size + 1)) #[] #[] :: caps) := by
      refine .cons ?_ (hcaps.mono p1'.ext)
      have := VRel.yld i1
      rw [hsA] at this; exact this
    obtain ⟨q1, q2⟩ := hC.r he1 p1'.hrel (post_fresh p1' hf.fr) hargs
    have eargs : (#[Value.func (.yield (w.heap.size + 1)) #[] #[]] : Array Value) ++ (⟨caps⟩ : Array Value) = ⟨.func (.yield (w.heap.size + 1)) #[] #[] :: caps⟩ := by
      apply Array.ext'; simp
    refine ⟨w.heap.size + 1, [{ target := .collected w.heap.size, args := #[] }], wB, { target := .fn (.func g) ⟨caps⟩, args := #[.func (.yield (w.heap.size + 1)) #[] #[]] }, wB, g, ⟨.func (.yield (w.heap.size + 1)) #[] #[] :: caps⟩, wB, ?_, ?_, fun f' _ => fence_fn none f', ?_, fun h => by simp [fence_depth] at h, (calls_fence none _).2 (Calls.mono q2 fun e w2 he3 => ?_)⟩
    · rw [← hwB]; exact run_enterLoop_outer fn a.tmps ps x z
    · have : a.eval (Operand.const (.func (.yield (w.heap.size + 1)) #[] #[])) = .func (.yield (w.heap.size + 1)) #[] #[] := rfl
      simp [resolve, Deferred.ofValue, hv, this]
    · show (callFunc g (#[Value.func (.yield (w.heap.size + 1)) #[] #[]] ++ (⟨caps⟩ : Array Value))).run P wB = _
      rw [eargs]; exact q1
    · obtain ⟨v, ι2, rfl, _, p2⟩ := he3
      unfold rangeEnd at he2
      split at he2
      · rename_i tm' ps' xa xb p hget
        obtain ⟨L, o, g1, g2, g3⟩ := p2.hrel.row _ _ hget
        have hL := p2.ext _ _ i1
        rw [hL] at g1; cases g1
        simp only [hsA] at g2
        have hlo := p2.hrel.low _ _ _ hget hL rfl
        simp only [hsA] at hlo
        cases g3 with
        | @loop _ _ _ _ _ rec hl =>
          obtain ⟨_, _, _, _, hst⟩ := hl
          have hnb : rec.state ≠ .busy := by
            cases p with
            | none => rw [hst.1]; simp
            | some e => cases e with
              | normal => exact hst.elim
              | exit id => rw [hst.1]; simp
              | ret => rw [hst.1]; simp
          have hend := run_endLoop (P := P) g2 hnb
          have pk : Post (IRof P) B ι2 ι2 r.rows w2 r.nx (r.rows.set s.nx none) r.nx (w2.putObj (w.heap.size + 1) (.loop { rec with state := .exhausted })) :=
            Post.kill_row (r0 := .loop _ _ _ _ _) rfl p2.hrel hget hL (fun k hk => World.putObj_heap_other (by simpa [hsA] using hk)) (by simp) (below_put w2 _ hlo)
          have pall := (p1'.trans p2).trans pk
          have hmark : ∀ k, Owns ι1 (s.rows.set s.nx (some (.loop s.tm ps.toList (comp P n false x) (comp P n false z) none))) k → k < w.heap.size ∨ k = w.heap.size + 1 := by
            rintro k ⟨b, rr, L', e1, e2, e3⟩
            rw [T.get_set] at e1
            split at e1
            · rename_i hb; subst hb
              rw [i1] at e2; cases e2
              right; rw [← e3, ← hsA]
            · obtain ⟨L1, o1, k1, k2, _⟩ := hf.h.row b rr e1
              have := p1'.ext _ _ k1
              rw [this] at e2; cases e2
              left; rw [← e3]; exact (Array.getElem?_eq_some_iff.1 k2).1
          have hD0 : wB.heap[w.heap.size]? = some (.deferred (some [])) := by
            rw [← hwB]
            show (((w.heap.push (.deferred (some []))).push _))[w.heap.size]? = _
            rw [Array.getElem?_push, if_neg (by simp), Array.getElem?_push, if_pos rfl]
          have hsB : w.heap.size < wB.heap.size := (Array.getElem?_eq_some_iff.1 hD0).1
          have hnoD : ¬ Owns ι1 (s.rows.set s.nx (some (.loop s.tm ps.toList (comp P n false x) (comp P n false z) none))) w.heap.size := fun ho => by
            rcases hmark _ ho with h | h <;> omega
          have p3 := p2.trans pk
          have hdf : DefOK E ι2 (r.rows.set s.nx none) ([{ target := .collected w.heap.size, args := #[] }] ++ a.defers) (w2.putObj (w.heap.size + 1) (.loop { rec with state := .exhausted })) := by
            have hold := hf.df.post pall
            refine ⟨fun d hd => ?_, ?_⟩
            · rcases List.mem_append.1 hd with hd | hd
              · simp only [List.mem_singleton] at hd
                subst hd
                refine ⟨w.heap.size, rfl, hE, by rw [p3.frame _ hsB hnoD]; exact hD0, fun ho => ?_⟩
                rcases p3.own _ ho with h | h
                · exact hnoD h
                · omega
              · exact hold.each d hd
            · refine List.pairwise_append.2 ⟨List.pairwise_singleton _ _, hf.df.one, fun d hd e he => ?_⟩
              simp only [List.mem_singleton] at hd
              subst hd
              obtain ⟨D, k1, _, k3, _⟩ := hf.df.each e he
              have := (Array.getElem?_eq_some_iff.1 k3).1
              rw [k1]
              intro e'
              simp only [Target.collected.injEq] at e'
              omega
          have hfr : ∀ e, Fr (IRof P) B E n ι2 (XS.mk e ⟨s.tm, r.rows.set s.nx none, r.nx⟩).s { a with defers := [{ target := .collected w.heap.size, args := #[] }] ++ a.defers } (w2.putObj (w.heap.size + 1) (.loop { rec with state := .exhausted })) :=
            fun e => ⟨hf.tm.mono pall.ext, hf.sz, pall.hrel, post_fresh pall hf.fr, hdf⟩
          generalize w2.putObj (w.heap.size + 1) (.loop { rec with state := .exhausted }) = w3 at hend pall hfr
          refine ⟨rec.pending, _, hend, ?_⟩
          cases p with
          | none =>
            rw [hst.2]
            simp only [Option.some.injEq] at he2
            subst he2
            exact hg ι2 _ _ (hfr .normal) pall
          | some e =>
            simp only [Option.some.injEq] at he2
            subst he2
            cases e with
            | normal => exact hst.elim
            | exit id =>
              rw [hst.2]
              exact wpIn_exit (hg ι2 _ _ (hfr (.exit id)) pall)
            | ret =>
              rw [hst.2]
              exact wpIn_ret (hg ι2 _ _ (hfr .ret) pall)
      · cases he2
  · cases he

/-- A function's code runs as the evaluator says. -/
theorem runs_comp {n LF : Nat} (hm : P.follows .mixedOrders = true) (hC : CallOK (IRof P) B P C) : ∀ (c : Code) (rd : Bool) (E : Nat) (ro : Option Nat), (rd = true → ro = none) → RunsAs (IRof P) B P E n ro (runIC C LF (comp P n rd c)) c := by
  intro c
  induction c with
  | skip => intro rd E ro _; exact runs_skip
  | region id ops draw =>
    intro rd E ro _
    unfold comp
    cases hgd : guardsOK n ops.toList with
    | false => intro s x ι a w Q he; cases he
    | true =>
      cases draw with
      | false => exact runs_ops hC (guardsOK_some hgd)
      | true =>
        simp only
        unfold compD
        cases hb : (Nat.ble (Region.before ops).toList.length ops.size && drawB n ops.toList (compDs P n ops (Region.before ops).toList) (((compDs P n ops (Region.before ops).toList).filter fun d => isA d.cls && !((compDs P n ops (Region.before ops).toList).any fun e => e.acc.contains d.i)).map (·.i)) (Region.before ops).toList) with
        | false => intro s x ι a w Q he; simp only [hb] at he; cases he
        | true =>
          simp only [hb]
          simp only [Bool.and_eq_true, ble_nat, decide_eq_true_eq] at hb
          exact runs_draw hm hC (drawB_ok (by simp [compDs]) (fun i o ho => compDs_get ho) hgd hb.1 hb.2)
  | seq a b iha ihb => intro rd E ro h; exact runs_seq (iha rd E ro h) (ihb rd E ro h)
  | cond c a b iha ihb =>
    intro rd E ro h
    unfold comp
    cases hc : cOpd n c with
    | none => intro s x ι a w Q he; cases he
    | some y => exact runs_cond hc (iha rd E ro h) (ihb rd E ro h)
  | block id b ih => intro rd E ro h; exact runs_block (ih rd E ro h)
  | loop b ih => intro rd E ro h; exact runs_loop (ih rd E ro h)
  | exit id => intro rd E ro _; exact runs_exit
  | label l => intro rd E ro _; exact runs_label
  | ret => intro rd E ro _; exact runs_ret
  | rangeFunc f ps a b iha ihb =>
    intro rd E ro h
    cases rd with
    | false => intro s x ι a w Q he; cases he
    | true =>
      rw [h rfl]
      unfold comp
      simp only
      cases hc : cOpd n f with
      | none => intro s x ι a w Q he; cases he
      | some y => exact runs_range hC hc
  | scope b _ => intro rd E ro _ s x ι a w Q he; cases he
  | goto l => intro rd E ro _ s x ι a w Q he; cases he
  | refuse why => intro rd E ro _ s x ι a w Q he; cases he
end
end Ev
end

/- A function, in the machine; the evaluator's calls. -/
section
namespace Ev
open Go Go.RowKit

theorem argsT_get : ∀ (l : List AV) (k : Nat) (tm : T AV) (t : Nat), (argsT l k tm).get t = if k ≤ t then (match l[t - k]? with | some v => some v | none => tm.get t) else tm.get t
  | [], k, tm, t => by
    show tm.get t = _
    split <;> simp
  | a :: l, k, tm, t => by
    show (argsT l (k+1) (tm.set k (some a))).get t = _
    rw [argsT_get l (k+1)]
    by_cases h1 : k + 1 ≤ t
    · rw [if_pos h1, if_pos (by omega)]
      rw [show t - k = (t - (k+1)) + 1 by omega, List.getElem?_cons_succ]
      cases l[t - (k+1)]? with
      | some v => rfl
      | none =>
        simp only [T.get_set]
        rw [if_neg (by omega)]
    · rw [if_neg h1, T.get_set]
      by_cases h2 : t = k
      · subst h2; simp
      · rw [if_neg h2, if_neg (by omega)]

def retV (vs : List AV) : AV := match vs with | [v] => v | l => .tup l

section
variable {P : Program} {ι : Io} {rows : T ARow} {w : World} {nx : Nat} {r : R} {B : Base} {C : CallF}

theorem loadVar_ok {IR : Nat → IC → Code → Prop} (h : HRel IR B ι rows w) {t : TypeId} {k : Kd} (hk : kdOf P t = some k) {a v : AV} {u : Value} (hl : loadAt rows k a = some v) (ha : VRel ι a u) :
    ∃ x, (do loadVar t (← asAddr u) : Sem Value).run P w = .ok x w ∧ VRel ι v x := by
  obtain ⟨x, h1, h2⟩ := kd_load h hk hl ha
  obtain ⟨b, o, rfl, _⟩ := asPtr_some.1 hl
  cases ha with
  | ptr hi =>
    refine ⟨x, ?_, h2⟩
    rw [← h1]
    unfold Instr.loadAt Instr.sureAddr
    simp [asAddr]

theorem res_list {IR : Nat → IC → Code → Prop} (h : HRel IR B ι rows w) {n nx : Nat} {tm : T AV} {tmps : Array Value} (hn : tmps.size = n) (ht : TmRel ι tm tmps) : ∀ {l : List ResultVar} {rs : List (Nat × Option Kd)} {vs : List AV}, compRes P n l = some rs → evRes ⟨tm, rows, nx⟩ rs = some vs →
    ∃ us, (l.mapM fun x => (match x with
      | .tmp t => pure (tmps.getD t undef)
      | .cell a t => do loadVar t (← asAddr (tmps.getD a undef)) : Sem Value)).run P w = .ok us w ∧ VRelL ι vs us
  | [], rs, vs, hc, he => by
    have : rs = [] := by simpa [compRes, eq_comm] using hc
    subst this
    have : vs = [] := by simpa [evRes, eq_comm] using he
    subst this
    exact ⟨[], by simp, .nil⟩
  | .tmp t :: l, rs, vs, hc, he => by
    obtain ⟨h1, h2⟩ := gd_some.1 (show gd (Nat.blt t n) (bo (compRes P n l) fun r => some ((t, none) :: r)) = some rs from hc)
    obtain ⟨rs', h3, h4⟩ := bo_some.1 h2
    cases h4
    obtain ⟨vs', h5, h6⟩ := bo_some.1 (show bo (evRes ⟨tm, rows, nx⟩ rs') (fun r => some ((Opd.t t).ev tm :: r)) = some vs from he)
    cases h6
    obtain ⟨us, h7, h8⟩ := res_list h hn ht h3 h5
    rw [blt_nat] at h1
    simp only [decide_eq_true_eq] at h1
    refine ⟨tmps.getD t undef :: us, ?_, .cons (ht.rel t (by omega)) h8⟩
    simp only [List.mapM_cons, Sem.run_bind, Sem.run_pure, Result.andThen_ok, h7]
  | .cell a t :: l, rs, vs, hc, he => by
    obtain ⟨h1, h2⟩ := gd_some.1 (show gd (Nat.blt a n) (bo (kdOf P t) fun k => bo (compRes P n l) fun r => some ((a, some k) :: r)) = some rs from hc)
    obtain ⟨k, hk, h3⟩ := bo_some.1 h2
    obtain ⟨rs', h4, h5⟩ := bo_some.1 h3
    cases h5
    obtain ⟨v, h6, h7⟩ := bo_some.1 (show bo (loadAt rows k ((Opd.t a).ev tm)) (fun v => bo (evRes ⟨tm, rows, nx⟩ rs') fun r => some (v :: r)) = some vs from he)
    obtain ⟨vs', h8, h9⟩ := bo_some.1 h7
    cases h9
    obtain ⟨us, q1, q2⟩ := res_list h hn ht h4 h8
    rw [blt_nat] at h1
    simp only [decide_eq_true_eq] at h1
    obtain ⟨x, q3, q4⟩ := loadVar_ok (P := P) h hk h6 (ht.rel a (by omega))
    refine ⟨x :: us, ?_, .cons q4 q2⟩
    simp only [List.mapM_cons, Sem.run_bind, Sem.run_pure] at q3 ⊢
    cases hx : (asAddr (tmps.getD a undef)).run P w with
    | halt e w1 => rw [hx] at q3; simp [Result.andThen] at q3
    | ok ad w1 =>
      rw [hx] at q3
      simp only [Result.andThen_ok] at q3 ⊢
      rw [q3]
      simp only [Result.andThen_ok, q1]

theorem results_ok {IR : Nat → IC → Code → Prop} (h : HRel IR B ι rows w) {nx : Nat} {fn : Func} {tm : T AV} {tmps : Array Value} (hn : tmps.size = fn.ntmps) (ht : TmRel ι tm tmps) {rs : List (Nat × Option Kd)} {vs : List AV} (hc : compRes P fn.ntmps fn.results.toList = some rs) (he : evRes ⟨tm, rows, nx⟩ rs = some vs) :
    ∃ v, (results fn tmps).run P w = .ok v w ∧ VRel ι (retV vs) v := by
  obtain ⟨us, h1, h2⟩ := res_list h hn ht hc he
  have hr : (fn.results.mapM fun x => (match x with
      | .tmp t => pure (tmps.getD t undef)
      | .cell a t => do loadVar t (← asAddr (tmps.getD a undef)) : Sem Value)).run P w = .ok us.toArray w := by
    rw [Array.mapM_eq_mapM_toList]
    simp only [map_eq_pure_bind, Sem.run_bind, h1, Result.andThen_ok, Sem.run_pure]
  have e : results fn tmps = (do
      let vs ← fn.results.mapM fun x => (match x with
        | .tmp t => pure (tmps.getD t undef)
        | .cell a t => do loadVar t (← asAddr (tmps.getD a undef)) : Sem Value)
      pure (if h : vs.size = 1 then vs[0] else .tuple vs)) := rfl
  refine ⟨if h : us.toArray.size = 1 then us.toArray[0] else .tuple us.toArray, ?_, ?_⟩
  · rw [e]
    simp only [Sem.run_bind, hr, Result.andThen_ok, Sem.run_pure]
  · cases h2 with
    | nil => exact .tup .nil
    | cons h t =>
      cases t with
      | nil => exact h
      | cons h' t' =>
        simp only [List.size_toArray, List.length_cons]
        rw [dif_neg (by omega)]
        exact .tup (.cons h (.cons h' t'))

theorem leaves_ok {fn : Func} {ι0 : Io} {rows0 : T ARow} {w0 : World} (hb : B.n ≤ w0.heap.size) {nx0 : Nat} {tm : T AV} {tmps : Array Value} (hn : tmps.size = fn.ntmps) {rs : List (Nat × Option Kd)} {vs : List AV} (hc : compRes P fn.ntmps fn.results.toList = some rs) (he : evRes ⟨tm, rows, nx⟩ rs = some vs) (ht : TmRel ι tm tmps) :
    ∀ (ds : List Deferred) {w : World}, DefOK w0.heap.size ι rows ds w → Post (IRof P) B ι0 ι rows0 w0 nx0 rows nx w →
      LeavesInM (fence none) 0 P fn tmps (fun e w'' => ∃ v ι', e = .returned v ∧ VRel ι' (retV vs) v ∧ Post (IRof P) B ι0 ι' rows0 w0 nx0 rows nx w'') ds .returning w
  | [], w, hd, hp => by
    obtain ⟨v, h1, h2⟩ := results_ok (P := P) (nx := nx) hp.hrel hn ht hc he
    exact ⟨v, h1, v, ι, rfl, h2, hp⟩
  | d :: ds, w, hd, hp => by
    obtain ⟨D, rfl, h2, h3, h4⟩ := hd.each d (by simp)
    have hD : D < w.heap.size := (Array.getElem?_eq_some_iff.1 h3).1
    refine ⟨by simp, .inl ⟨D, w.putObj D (.deferred none), rfl, run_takeDeferred h3, ?_⟩⟩
    have hoth : ∀ k, k ≠ D → (w.putObj D (.deferred none)).heap[k]? = w.heap[k]? := fun k hk => World.putObj_heap_other hk
    have hp' : Post (IRof P) B ι0 ι rows0 w0 nx0 rows nx (w.putObj D (.deferred none)) := by
      refine ⟨hp.ext, hp.new, hp.old, hp.le, ⟨fun b r e => ?_, hp.hrel.inj, hp.hrel.low, hp.hrel.below.trans (below_put w _ (by omega)), by rw [World.putObj_size]; exact hp.hrel.room⟩, fun k hk ho => ?_, by rw [World.putObj_size]; exact hp.size, hp.own⟩
      · obtain ⟨L, o, g1, g2, g3⟩ := hp.hrel.row b r e
        refine ⟨L, o, g1, ?_, g3⟩
        rw [hoth _ (fun hk => h4 ⟨b, r, L, e, g1, hk⟩)]; exact g2
      · rw [hoth _ (by omega)]; exact hp.frame k hk ho
    refine leaves_ok hb hn hc he ht ds ⟨fun e he' => ?_, (List.pairwise_cons.1 hd.one).2⟩ hp'
    obtain ⟨D', k1, k2, k3, k4⟩ := hd.each e (by simp [he'])
    have hne : D' ≠ D := fun e' => by
      have := (List.pairwise_cons.1 hd.one).1 e he'
      rw [k1, e'] at this
      exact this rfl
    exact ⟨D', k1, k2, by rw [hoth _ hne]; exact k3, k4⟩

/-- A function's contract. -/
theorem evFn_ok {LF f : Nat} {fn : Func} {ir : IFn} (hm : P.follows .mixedOrders = true) (hC : CallOK (IRof P) B P C) (hf : P.funcs[f]? = some fn) (hc : compFn P fn = some ir) {args : List AV} {us : List Value} (he : evFn C LF ir args rows nx = some r)
    (h : HRel (IRof P) B ι rows w) (hfr : ∀ b, nx ≤ b → ι b = none) (ha : VRelL ι args us) : Calls P f ⟨us⟩ w fun e w'' => ∃ v ι', e = .returned v ∧ VRel ι' r.v v ∧ Post (IRof P) B ι ι' rows w nx r.rows r.nx w'' := by
  obtain ⟨c, hb, hc1⟩ := bo_some.1 hc
  obtain ⟨rs, hrs, hc2⟩ := bo_some.1 hc1
  simp only [Option.some.injEq] at hc2
  subst hc2
  obtain ⟨h1, h2⟩ := gd_some.1 he
  rw [ble_nat, lenN_eq] at h1
  simp only [decide_eq_true_eq] at h1
  obtain ⟨x, h3, h4⟩ := bo_some.1 h2
  have hul : us.length = args.length := ha.length.symm
  refine (calls_fence none 0).1 (callsIn_of_wp_marks hf hb trivial ?_)
  refine runs_comp (n := fn.ntmps) (LF := LF) hm hC c true w.heap.size none (fun _ => rfl) h3 ⟨⟨fun t ht => ?_⟩, ?_, h, hfr, ⟨fun d hd => (List.not_mem_nil hd).elim, List.Pairwise.nil⟩⟩ (Nat.le_refl _) fun ι' a' w' hf' hp' => ?_
  · simp only [Opd.ev, argsT_get, Nat.zero_le, if_true, Nat.sub_zero, T.get_nil]
    have ht : t < us.length + (fn.ntmps - us.length) := by simpa using ht
    cases hq : args[t]? with
    | some v =>
      obtain ⟨u, hu, hr⟩ := ha.get hq
      have : ((⟨us⟩ : Array Value) ++ Array.replicate (fn.ntmps - (⟨us⟩ : Array Value).size) undef).getD t undef = u := by
        have hlt := (List.getElem?_eq_some_iff.1 hu).1
        rw [Array.getD_eq_getD_getElem?, Array.getElem?_append_left (by simpa using hlt)]
        simp [hu]
      rw [this]; exact hr
    | none =>
      have hge : us.length ≤ t := by
        rw [hul]; exact List.getElem?_eq_none_iff.1 hq
      have : ((⟨us⟩ : Array Value) ++ Array.replicate (fn.ntmps - (⟨us⟩ : Array Value).size) undef).getD t undef = undef := by
        rw [Array.getD_eq_getD_getElem?, Array.getElem?_append_right (by simpa using hge), Array.getElem?_replicate]
        split <;> rfl
      rw [this]; exact .undef
  · simp; omega
  · obtain ⟨e, s1⟩ := x
    have fin : ∀ {vs : List AV}, evRes s1 rs = some vs → r = ⟨retV vs, s1.rows, s1.nx⟩ → LeavesInM (fence none) 0 P fn a'.tmps (fun e w'' => ∃ v ι', e = .returned v ∧ VRel ι' r.v v ∧ Post (IRof P) B ι ι' rows w nx r.rows r.nx w'') a'.defers .returning w' := by
      intro vs he' hr
      subst hr
      exact leaves_ok (nx := s1.nx) h.room hf'.sz hrs he' hf'.tm a'.defers hf'.df hp'
    have fin2 : bo (evRes s1 rs) (fun l => (match l with
      | [v] => some ⟨v, s1.rows, s1.nx⟩
      | l => some ⟨.tup l, s1.rows, s1.nx⟩)) = some r → LeavesInM (fence none) 0 P fn a'.tmps (fun e w'' => ∃ v ι', e = .returned v ∧ VRel ι' r.v v ∧ Post (IRof P) B ι ι' rows w nx r.rows r.nx w'') a'.defers .returning w' := by
      intro h4
      obtain ⟨vs, h5, h6⟩ := bo_some.1 h4
      refine fin h5 ?_
      match vs, h6 with
      | [], h6 => simpa [eq_comm, retV] using h6
      | [v], h6 => simpa [eq_comm, retV] using h6
      | v :: v' :: l, h6 => simpa [eq_comm, retV] using h6
    cases e with
    | normal => exact fin2 h4
    | ret => exact fin2 h4
    | exit id => cases h4
end
end Ev
end

/- The evaluator's calls are the machine's. -/
section
namespace Ev
open Go Go.RowKit

section
variable {P : Program} {ι : Io} {rows : T ARow} {w : World} {nx : Nat} {r : R} {B : Base} {C : CallF}

theorem callFunc_enter {f : Nat} {fn : Func} {args : Array Value} (hf : P.funcs[f]? = some fn) (hb : fn.body.isSome = true) (hn : fn.name ≠ "runtime.NumGoroutine") (w : World) : (callFunc f args).run P w = .ok (.enter f args) w := by
  unfold callFunc
  cases h : fn.body with
  | none => rw [h] at hb; cases hb
  | some c => simp [hf, hn, h]

theorem argsP_rel : ∀ {ps : List Nat} {args : List AV} {us : List Value} {tm t : T AV} {tmps : Array Value}, argsP ps args tm = some t → VRelL ι args us → TmRel ι tm tmps →
    ps.length = us.length ∧ TmRel ι t ((ps.zip us).foldl (fun tmps p => tmps.setIfInBounds p.1 p.2) tmps) ∧ ((ps.zip us).foldl (fun tmps p => tmps.setIfInBounds p.1 p.2) tmps).size = tmps.size
  | [], args, us, tm, t, tmps, h, ha, ht => by
    cases ha with
    | nil =>
      have : tm = t := by simpa [argsP] using h
      subst this
      exact ⟨rfl, ht, rfl⟩
    | cons _ _ => cases h
  | p :: ps, args, us, tm, t, tmps, h, ha, ht => by
    cases ha with
    | nil => cases h
    | @cons a u l us hx ha =>
      have h : argsP ps l (tm.set p (some a)) = some t := h
      obtain ⟨q1, _, _⟩ := TmRel.put (a := { tmps := tmps, defers := [] }) (n := tmps.size) (dst := some p) ht rfl hx
      obtain ⟨g1, g2, g3⟩ := argsP_rel h ha q1
      refine ⟨by simp [g1], g2, ?_⟩
      rw [show ((p :: ps).zip (u :: us)).foldl (fun tmps p => tmps.setIfInBounds p.1 p.2) tmps = (ps.zip us).foldl (fun tmps p => tmps.setIfInBounds p.1 p.2) (tmps.setIfInBounds p u) from rfl]
      have := g3
      simpa [Act.put] using this

/-- A block that no row lies at turns. -/
theorem HRel.put {IR : Nat → IC → Code → Prop} (h : HRel IR B ι rows w) {k : Nat} (o : Obj) (hk : ¬ Owns ι rows k) (hb : B.n ≤ k) : HRel IR B ι rows (w.putObj k o) :=
  ⟨fun b r e => by
    obtain ⟨L, o', g1, g2, g3⟩ := h.row b r e
    exact ⟨L, o', g1, by rw [World.putObj_heap_other (fun hk' => hk ⟨b, r, L, e, g1, hk'⟩)]; exact g2, g3⟩, h.inj, h.low, h.below.trans (below_put w o hb), by rw [World.putObj_size]; exact h.room⟩

theorem DefOK.put {E k : Nat} {ds : List Deferred} {rec : Loop} (h : DefOK E ι rows ds w) (hk : w.heap[k]? = some (.loop rec)) (o : Obj) : DefOK E ι rows ds (w.putObj k o) :=
  ⟨fun d hd => by
    obtain ⟨D, h1, h2, h3, h4⟩ := h.each d hd
    refine ⟨D, h1, h2, ?_, h4⟩
    rw [World.putObj_heap_other (fun e => by subst e; rw [hk] at h3; cases h3)]
    exact h3, h.one⟩

/-- A round of a loop: the record's row is away while it runs. -/
theorem round_post {IR : Nat → IC → Code → Prop} {ι1 ι2 : Io} {l : Nat} {L : Loc} {r0 row' : ARow} {rows1 rows2 : T ARow} {nx1 nx2 : Nat} {w1 w3 : World} {o1 o' : Obj} (hro0 : r0.isRo = false) (h : HRel IR B ι rows w) (hl : rows.get l = some r0) (hL : ι l = some L) (hlt : L.blk < w.heap.size) (hlow : B.n ≤ L.blk)
    (p1 : Post IR B ι ι1 (rows.set l none) w nx rows1 nx1 w1) (p2 : Post IR B ι1 ι2 rows1 (w1.putObj L.blk o1) nx1 rows2 nx2 w3) (hr : RowRel IR ι2 L row' o') :
    Post IR B ι ι2 rows w nx (rows2.set l (some row')) nx2 (w3.putObj L.blk o') := by
  have hget : ∀ b rr, (rows.set l none).get b = some rr → b ≠ l ∧ rows.get b = some rr := fun b rr e => by
    rw [T.get_set] at e
    split at e
    · cases e
    · rename_i hb'; exact ⟨hb', e⟩
  have n0 : ¬ Owns ι (rows.set l none) L.blk := fun ⟨b, rr, L', e, i, hk⟩ => by
    obtain ⟨h1, h2⟩ := hget b rr e
    exact h1 (h.inj b l rr r0 L' L h2 hl (.inr hro0) i hL hk)
  have n1 : ¬ Owns ι1 rows1 L.blk := fun ho => by
    rcases p1.own _ ho with h1 | h1
    · exact n0 h1
    · omega
  have s1 := p1.size
  have s2 := p2.size
  rw [World.putObj_size] at s2
  have n2 : ¬ Owns ι2 rows2 L.blk := fun ho => by
    rcases p2.own _ ho with h1 | h1
    · exact n1 h1
    · rw [World.putObj_size] at h1; omega
  have hL2 : ι2 l = some L := p2.ext _ _ (p1.ext _ _ hL)
  have sub : ∀ k, Owns ι (rows.set l none) k → Owns ι rows k := fun k ⟨b, rr, L', e, i, hk⟩ => ⟨b, rr, L', (hget b rr e).2, i, hk⟩
  have hg2 : ∀ b rr, (rows2.set l (some row')).get b = some rr → (b = l ∧ rr = row') ∨ (b ≠ l ∧ rows2.get b = some rr) := fun b rr e => by
    rw [T.get_set] at e
    split at e
    · rename_i hb; cases e; exact .inl ⟨hb, rfl⟩
    · rename_i hb; exact .inr ⟨hb, e⟩
  refine ⟨p1.ext.trans p2.ext, fun b h1 h2 => (p2.new b (Nat.le_trans p2.le h2 |> fun h => by have := p1.le; have := p2.le; omega) h2).trans (p1.new b h1 (by have := p2.le; omega)), fun b hb => (p2.old b (Nat.lt_of_lt_of_le hb p1.le)).trans (p1.old b hb), Nat.le_trans p1.le p2.le,
    ⟨fun b rr e => ?_, fun b1 b2 r1 r2 L1 L2 e1 e2 ho12 i1 i2 hk => ?_, fun b rr L' e i => ?_, p2.hrel.below.trans (below_put w3 _ hlow), by rw [World.putObj_size]; exact p2.hrel.room⟩, fun k hk ho => ?_, by rw [World.putObj_size]; omega, fun k hk => ?_⟩
  · rcases hg2 b rr e with ⟨rfl, rfl⟩ | ⟨h1, h2⟩
    · exact ⟨L, o', hL2, World.putObj_heap_same (by omega), hr⟩
    · obtain ⟨L1, o2, g1, g2, g3⟩ := p2.hrel.row b rr h2
      exact ⟨L1, o2, g1, by rw [World.putObj_heap_other (fun hk => n2 ⟨b, rr, L1, h2, g1, hk⟩)]; exact g2, g3⟩
  · rcases hg2 b1 r1 e1 with ⟨rfl, rfl⟩ | ⟨h1, h2⟩ <;> rcases hg2 b2 r2 e2 with ⟨rfl, rfl⟩ | ⟨h3, h4⟩
    · rfl
    · rw [hL2] at i1; cases i1
      exact absurd ⟨b2, r2, L2, h4, i2, hk.symm⟩ n2
    · rw [hL2] at i2; cases i2
      exact absurd ⟨b1, r1, L1, h2, i1, hk⟩ n2
    · exact p2.hrel.inj b1 b2 r1 r2 L1 L2 h2 h4 ho12 i1 i2 hk
  · rcases hg2 b rr e with ⟨rfl, rfl⟩ | ⟨h1, h2⟩
    · rw [hL2] at i; cases i; exact fun _ => hlow
    · exact p2.hrel.low b rr L' h2 i
  · have hne : k ≠ L.blk := fun e => ho ⟨l, r0, L, hl, hL, e.symm⟩
    have ho0 : ¬ Owns ι (rows.set l none) k := fun h => ho (sub k h)
    have ho1 : ¬ Owns ι1 rows1 k := fun h => by
      rcases p1.own _ h with h1 | h1
      · exact ho0 h1
      · omega
    rw [World.putObj_heap_other hne, p2.frame k (by rw [World.putObj_size]; omega) ho1, World.putObj_heap_other hne, p1.frame k hk ho0]
  · obtain ⟨b, rr, L', e, i, hk⟩ := hk
    rcases hg2 b rr e with ⟨rfl, rfl⟩ | ⟨h1, h2⟩
    · rw [hL2] at i; cases i
      exact .inl ⟨b, r0, L, hl, hL, hk⟩
    · rcases p2.own k ⟨b, rr, L', h2, i, hk⟩ with h3 | h3
      · rcases p1.own k h3 with h4 | h4
        · exact .inl (sub k h4)
        · exact .inr h4
      · rw [World.putObj_size] at h3; exact .inr (by omega)

theorem yield_ok {LF l : Nat} {L : Loc} {tm : T AV} {ps : List Nat} {a b : IC} {args : List AV} {us : List Value} (hm : P.follows .mixedOrders = true) (hC : CallOK (IRof P) B P C) (h : HRel (IRof P) B ι rows w) (hfr : ∀ b, nx ≤ b → ι b = none) (hL : ι l = some L) (ha : VRelL ι args us)
    (hl : rows.get l = some (.loop tm ps a b none)) (he : (bo (argsP ps args tm) fun t => bo (runIC C LF a ⟨t, rows.set l none, nx⟩) fun x => (match x.e with
      | .normal => bo (runIC C LF b x.s) fun x => yldEnd l tm ps a b x
      | _ => none)) = some r) : OutOK (IRof P) B P ι rows w nx r ((Instr.yield L.blk ⟨us⟩).run P w) := by
  obtain ⟨t, h1, h2⟩ := bo_some.1 he
  obtain ⟨⟨e, s1⟩, h3, h4⟩ := bo_some.1 h2
  obtain ⟨L', o, g1, g2, g3⟩ := h.row l _ hl
  rw [hL] at g1; cases g1
  have hlt : L.blk < w.heap.size := (Array.getElem?_eq_some_iff.1 g2).1
  have hlow := h.low l _ L hl hL rfl
  cases g3 with
  | @loop _ _ _ _ _ rec hrec =>
    obtain ⟨k1, k2, k3, k4, k5, k6⟩ := hrec
    obtain ⟨q1, q2, q3⟩ := argsP_rel h1 ha ⟨k1⟩
    have hsz : (⟨us⟩ : Array Value).size = rec.params.size := by
      rw [← k2] at q1
      simpa using q1.symm
    rw [run_yield g2 hsz]
    have etm : (rec.params.zip (⟨us⟩ : Array Value)).foldl (fun tmps (p : Tmp × Value) => tmps.setIfInBounds p.1 p.2) rec.tmps = (ps.zip us).foldl (fun tmps p => tmps.setIfInBounds p.1 p.2) rec.tmps := by
      rw [← Array.foldl_toList, Array.toList_zip, k2]
    refine ⟨rfl, roundIn_of_wpIn (F := Fence.wide) trivial ?_⟩
    rw [show (rec.params.zip (⟨us⟩ : Array Value)).foldl (fun tmps (x : Tmp × Value) => match x with | (t, a) => tmps.setIfInBounds t a) rec.tmps = (ps.zip us).foldl (fun tmps p => tmps.setIfInBounds p.1 p.2) rec.tmps from etm]
    generalize (ps.zip us).foldl (fun tmps p => tmps.setIfInBounds p.1 p.2) rec.tmps = tmps1 at q2 q3
    subst k3; subst k4
    have ra : RunsAs (IRof P) B P 0 rec.tmps.size (some L.blk) (runIC C LF (comp P rec.tmps.size false rec.assign)) rec.assign := runs_comp hm hC rec.assign false 0 (some L.blk) (fun h => by cases h)
    have rb : RunsAs (IRof P) B P 0 rec.tmps.size (some L.blk) (runIC C LF (comp P rec.tmps.size false rec.body)) rec.body := runs_comp hm hC rec.body false 0 (some L.blk) (fun h => by cases h)
    cases e with
    | exit id => cases h4
    | ret => cases h4
    | normal =>
      obtain ⟨⟨e2, s2⟩, h5, h6⟩ := bo_some.1 h4
      refine ra h3 ⟨q2, q3, h.drop_row l, hfr, ⟨fun d hd => (List.not_mem_nil hd).elim, List.Pairwise.nil⟩⟩ (Nat.zero_le _) fun ι1 a1 w1 f1 p1 => ?_
      have n0 : ¬ Owns ι (rows.set l none) L.blk := fun ⟨b', rr, L', e, i, hk⟩ => by
        rw [T.get_set] at e
        split at e
        · cases e
        · rename_i hb'; exact hb' (h.inj b' l rr _ L' L e hl (.inr rfl) i hL hk)
      have n1 : ¬ Owns ι1 s1.rows L.blk := fun ho => by
        rcases p1.own _ ho with h1 | h1
        · exact n0 h1
        · omega
      have hw1 : w1.heap[L.blk]? = some (.loop rec) := by rw [p1.frame _ hlt n0]; exact g2
      refine ⟨_, run_beginRound hw1 k5, ?_⟩
      refine rb h5 ⟨f1.tm, f1.sz, f1.h.put _ n1 hlow, f1.fr, f1.df.put hw1 _⟩ (Nat.zero_le _) fun ι2 a2 w2 f2 p2 => ?_
      · have hw2 : w2.heap[L.blk]? = some (.loop { rec with state := .busy }) := by
          rw [p2.frame _ (by rw [World.putObj_size]; have := p1.size; omega) n1]
          exact World.putObj_heap_same (by have := p1.size; omega)
        have hend := fun j => run_endRound (P := P) (w := w2) (l := L.blk) j hw2
        have kk := fun t ht => (k1 t ht).mono (p1.ext.trans p2.ext)
        cases e2 with
        | normal =>
          cases h6
          refine ⟨_, _, hend none, _, ι2, rfl, .bool true, round_post rfl h hl hL hlt hlow p1 p2 (.loop ⟨kk, k2, rfl, rfl, rfl, rfl⟩)⟩
        | exit id =>
          cases h6
          refine ⟨_, _, hend (some (.exit id)), _, ι2, rfl, .bool false, round_post rfl h hl hL hlt hlow p1 p2 (.loop ⟨kk, k2, rfl, rfl, rfl, rfl⟩)⟩
        | ret =>
          cases h6
          refine ⟨_, _, hend (some .ret), _, ι2, rfl, .bool false, round_post rfl h hl hL hlt hlow p1 p2 (.loop ⟨kk, k2, rfl, rfl, rfl, rfl⟩)⟩
end
end Ev
end

/- The evaluator's calls are the machine's: the whole. -/
section
namespace Ev
open Go Go.RowKit

/-- What stands in for a function: its contract. -/
def OrcOK (B : Base) (P : Program) (f : Nat) (g : List AV → T ARow → Nat → Option R) : Prop :=
  ∀ {ι : Io} {rows : T ARow} {w : World} {nx : Nat} {args : List AV} {us : List Value} {r : R}, g args rows nx = some r → HRel (IRof P) B ι rows w → (∀ b, nx ≤ b → ι b = none) → VRelL ι args us → OutOK (IRof P) B P ι rows w nx r ((callFunc f ⟨us⟩).run P w)

structure Tied (P : Program) (fns : T IFn) : Prop where
  fn : ∀ f ir, fns.get f = some ir → ∃ fn, P.funcs[f]? = some fn ∧ compFn P fn = some ir ∧ fn.name ≠ "runtime.NumGoroutine"

section
variable {P : Program} {B : Base}

theorem evCall_ok {orc : Nat → Option (List AV → T ARow → Nat → Option R)} {fns : T IFn} {LF : Nat} (hm : P.follows .mixedOrders = true) (hfns : Tied P fns) (horc : ∀ f g, orc f = some g → OrcOK B P f g) : ∀ fuel, CallOK (IRof P) B P (evCall orc fns LF fuel) := by
  intro fuel
  induction fuel with
  | zero => exact ⟨fun h => (by cases h), fun h => (by cases h), fun h => (by cases h)⟩
  | succ fuel ih =>
    have run : ∀ {ι : Io} {rows : T ARow} {w : World} {nx : Nat} {f : Nat} {args : List AV} {us : List Value} {r : R}, bo (fns.get f) (fun fn => evFn (evCall orc fns LF fuel) LF fn args rows nx) = some r → HRel (IRof P) B ι rows w → (∀ b, nx ≤ b → ι b = none) → VRelL ι args us →
        (callFunc f ⟨us⟩).run P w = .ok (.enter f ⟨us⟩) w ∧ Calls P f ⟨us⟩ w fun e w'' => ∃ v ι', e = .returned v ∧ VRel ι' r.v v ∧ Post (IRof P) B ι ι' rows w nx r.rows r.nx w'' := by
      intro ι rows w nx f args us r he h hfr ha
      obtain ⟨ir, h1, h2⟩ := bo_some.1 he
      obtain ⟨fn, h3, h4, h5⟩ := hfns.fn f ir h1
      obtain ⟨c, hb, _⟩ := bo_some.1 h4
      exact ⟨callFunc_enter h3 (by rw [hb]; rfl) h5 w, evFn_ok hm ih h3 h4 h2 h hfr ha⟩
    refine ⟨fun {ι rows w nx f args us r} he h hfr ha => ?_, fun {ι rows w nx f args us r} he h hfr ha => run he h hfr ha, fun {ι rows w nx b L args us r} he h hfr hL ha => ?_⟩
    · have he : (match orc f with
        | some g => g args rows nx
        | none => bo (fns.get f) fun fn => evFn (evCall orc fns LF fuel) LF fn args rows nx) = some r := he
      cases ho : orc f with
      | some g =>
        rw [ho] at he
        exact horc f g ho he h hfr ha
      | none =>
        rw [ho] at he
        obtain ⟨h1, h2⟩ := run he h hfr ha
        rw [h1]
        exact ⟨rfl, h2⟩
    · have he : (match rows.get b with
        | some (.loop tm ps a b' p) => (match p with
          | none => bo (argsP ps args tm) fun t => bo (runIC (evCall orc fns LF fuel) LF a ⟨t, rows.set b none, nx⟩) fun x => (match x.e with
            | .normal => bo (runIC (evCall orc fns LF fuel) LF b' x.s) fun x => yldEnd b tm ps a b' x
            | _ => none)
          | _ => none)
        | _ => none) = some r := he
      split at he
      · rename_i tm ps a b' p hl
        cases p with
        | some e => cases he
        | none => exact yield_ok hm ih h hfr hL ha hl he
      · cases he

/-- A closed run: what a function without arguments returns. -/
theorem closed {orc : Nat → Option (List AV → T ARow → Nat → Option R)} {fns : T IFn} {LF fuel f : Nat} (hm : P.follows .mixedOrders = true) (hfns : Tied P fns) (horc : ∀ (B : Base) f g, orc f = some g → OrcOK B P f g) {v : Value} {a : AV}
    (he : (bo (evCall orc fns LF fuel (.r f) [] .nil 0) fun r => some r.v) = some a) (hv : ∀ ι u, VRel ι a u → u = v) (w : World) : Calls P f #[] w fun e w' => e = .returned v ∧ Below w.heap.size w w' := by
  obtain ⟨r, h1, h2⟩ := bo_some.1 he
  simp only [Option.some.injEq] at h2
  have hC := evCall_ok (B := ⟨w.heap.size, w⟩) (LF := LF) hm hfns (horc _) fuel
  have h0 : HRel (IRof P) ⟨w.heap.size, w⟩ (fun _ => none) .nil w :=
    ⟨fun b r e => (by rw [T.get_nil] at e; cases e), fun b b' r r' L L' e => (by rw [T.get_nil] at e; cases e), fun b r L e => (by rw [T.get_nil] at e; cases e), .refl _ _, Nat.le_refl _⟩
  obtain ⟨_, h3⟩ := hC.r h1 h0 (fun _ _ => rfl) .nil
  refine Calls.mono h3 fun e w' he' => ?_
  obtain ⟨u, ι', rfl, h4, h5⟩ := he'
  rw [h2] at h4
  exact ⟨by rw [hv ι' u h4], h5.hrel.below⟩
end
end Ev
end

/- Answers that are known: a table of a function's results at values that hold no address. -/
section
namespace Ev
open Go Go.RowKit

mutual
/-- A value that holds no address. -/
def flat : AV → Bool
  | .undef => true
  | .bool _ => true
  | .int _ _ => true
  | .str _ => true
  | .nil _ => true
  | .iface => true
  | .agg l => flatL l
  | .tup l => flatL l
  | _ => false
def flatL : List AV → Bool
  | [] => true
  | a :: l => flat a && flatL l
end

mutual
theorem flat_rel {ι ι' : Io} : ∀ {a : AV} {v : Value}, flat a = true → VRel ι a v → VRel ι' a v
  | _, _, _, .undef => .undef
  | _, _, _, .bool b => .bool b
  | _, _, _, .int k n => .int k n
  | _, _, _, .str s => .str s
  | _, _, _, .nilPtr => .nilPtr
  | _, _, _, .nilSlice => .nilSlice
  | _, _, _, .nilMap => .nilMap
  | _, _, _, .nilFn => .nilFn
  | _, _, _, .nilIface => .nilIface
  | _, _, _, .iface t v => .iface t v
  | _, _, h, .agg hl h1 => .agg (flatL_rel (by simpa [flat] using h) hl) h1
  | _, _, h, .tup hl => .tup (flatL_rel (by simpa [flat] using h) hl)
theorem flatL_rel {ι ι' : Io} : ∀ {l : List AV} {vs : List Value}, flatL l = true → VRelL ι l vs → VRelL ι' l vs
  | _, _, _, .nil => .nil
  | _, _, h, .cons ha ht => by
    simp only [flatL, Bool.and_eq_true] at h
    exact .cons (flat_rel h.1 ha) (flatL_rel h.2 ht)
end

noncomputable def lookM (tbl : List (List AV × AV)) (args : List AV) : Option AV := List.rec none (fun e _ ih => match sameL e.1 args with | true => some e.2 | false => ih) tbl
noncomputable def memo (tbl : List (List AV × AV)) (args : List AV) (rows : T ARow) (nx : Nat) : Option R := bo (lookM tbl args) fun v => some ⟨v, rows, nx⟩

theorem lookM_some : ∀ {tbl : List (List AV × AV)} {args : List AV} {v : AV}, lookM tbl args = some v → (args, v) ∈ tbl
  | [], _, _, h => by cases h
  | e :: tbl, args, v, h => by
    have h : (match sameL e.1 args with | true => some e.2 | false => lookM tbl args) = some v := h
    cases hs : sameL e.1 args with
    | true =>
      rw [hs] at h
      simp only [Option.some.injEq] at h
      have := sameL_eq hs
      rw [← this, ← h]
      exact List.mem_cons_self
    | false =>
      rw [hs] at h
      exact List.mem_cons_of_mem _ (lookM_some h)

section
variable {P : Program} {B : Base}

/-- A row of the table. -/
def RowOK (P : Program) (f : Nat) (e : List AV × AV) : Prop := ∀ (ι : Io) (us : List Value) (w : World), VRelL ι e.1 us → (callFunc f ⟨us⟩).run P w = .ok (.enter f ⟨us⟩) w ∧ Calls P f ⟨us⟩ w fun en w' => ∃ v, en = .returned v ∧ VRel ι e.2 v ∧ Below w.heap.size w w'

theorem row_ok {orc : Nat → Option (List AV → T ARow → Nat → Option R)} {fns : T IFn} {LF fuel f : Nat} (hm : P.follows .mixedOrders = true) (hfns : Tied P fns) (horc : ∀ (B : Base) f g, orc f = some g → OrcOK B P f g) {args : List AV} {a : AV}
    (he : (bo (evCall orc fns LF fuel (.r f) args .nil 0) fun r => gd (flatL args && flat r.v) (some r.v)) = some a) : RowOK P f (args, a) := by
  intro ι us w hu
  obtain ⟨r, h1, h2⟩ := bo_some.1 he
  obtain ⟨h3, h4⟩ := gd_some.1 h2
  simp only [Bool.and_eq_true] at h3
  simp only [Option.some.injEq] at h4
  have hC := evCall_ok (B := ⟨w.heap.size, w⟩) (LF := LF) hm hfns (horc _) fuel
  have h0 : HRel (IRof P) ⟨w.heap.size, w⟩ (fun _ => none) .nil w :=
    ⟨fun b r e => (by rw [T.get_nil] at e; cases e), fun b b' r r' L L' e => (by rw [T.get_nil] at e; cases e), fun b r L e => (by rw [T.get_nil] at e; cases e), .refl _ _, Nat.le_refl _⟩
  obtain ⟨q1, q2⟩ := hC.r h1 h0 (fun _ _ => rfl) (flatL_rel h3.1 hu)
  refine ⟨q1, Calls.mono q2 fun e w' he' => ?_⟩
  obtain ⟨u, ι', rfl, h5, h6⟩ := he'
  refine ⟨u, rfl, ?_, h6.hrel.below⟩
  rw [← h4]
  exact flat_rel h3.2 h5

theorem memo_ok {f : Nat} {tbl : List (List AV × AV)} (h : ∀ e ∈ tbl, RowOK P f e) : OrcOK B P f (memo tbl) := by
  intro ι rows w nx args us r he hh hfr ha
  obtain ⟨v, h1, h2⟩ := bo_some.1 he
  simp only [Option.some.injEq] at h2
  subst h2
  obtain ⟨q1, q2⟩ := h _ (lookM_some h1) ι us w ha
  rw [q1]
  refine ⟨rfl, Calls.mono q2 fun e w' he' => ?_⟩
  obtain ⟨u, rfl, h3, h4⟩ := he'
  refine ⟨u, ι, rfl, h3, ?_⟩
  have hb : ∀ k, k < w.heap.size → w'.heap[k]? = w.heap[k]? := fun k hk => h4.block k hk
  have hs : w.heap.size ≤ w'.heap.size := h4.size
  refine ⟨.refl _, fun _ _ _ => rfl, fun _ _ => rfl, Nat.le_refl _, ⟨fun b r e => ?_, hh.inj, hh.low, ?_, Nat.le_trans hh.room hs⟩, fun k hk _ => hb k hk, hs, fun k hk => .inl hk⟩
  · obtain ⟨L, o, g1, g2, g3⟩ := hh.row b r e
    exact ⟨L, o, g1, by rw [hb _ (Array.getElem?_eq_some_iff.1 g2).1]; exact g2, g3⟩
  · refine hh.below.trans ⟨h4.os, h4.tape, h4.output, ?_, fun k hk => hb k (by have := hh.room; omega)⟩
    omega
end
end Ev
end

/- The functions' code is the program's. -/
section
namespace Ev
open Go

/-- The code of a function of the program, turned. -/
def codeAt (P : Program) (k : Nat) : Option IFn := bo (P.funcs[k]?) fun fn => gd (!(fn.name == "runtime.NumGoroutine")) (compFn P fn)
noncomputable def fnsOf (l : List (Nat × IFn)) : T IFn := l.foldr (fun e t => t.set e.1 (some e.2)) .nil

theorem fnsOf_get : ∀ {l : List (Nat × IFn)} {f : Nat} {ir : IFn}, (fnsOf l).get f = some ir → (f, ir) ∈ l
  | [], f, ir, h => by cases h
  | e :: l, f, ir, h => by
    have h : ((fnsOf l).set e.1 (some e.2)).get f = some ir := h
    rw [T.get_set] at h
    split at h
    · rename_i hf
      simp only [Option.some.injEq] at h
      rw [hf, ← h]
      exact List.mem_cons_self
    · exact List.mem_cons_of_mem _ (fnsOf_get h)

theorem tied_of {P : Program} {fns : T IFn} (l : List (Nat × IFn)) (h : ∀ e ∈ l, codeAt P e.1 = some e.2) (hf : fns = fnsOf l) : Tied P fns := ⟨fun f ir hg => by
  rw [hf] at hg
  obtain ⟨fn, h1, h2⟩ := bo_some.1 (h _ (fnsOf_get hg))
  obtain ⟨h3, h4⟩ := gd_some.1 h2
  exact ⟨fn, h1, h4, by simpa using h3⟩⟩

theorem mem_nil {P : Program} : ∀ e ∈ ([] : List (Nat × IFn)), codeAt P e.1 = some e.2 := fun _ h => (List.not_mem_nil h).elim
theorem mem_cons {P : Program} {k : Nat} {ir : IFn} {l : List (Nat × IFn)} (h : codeAt P k = some ir) (t : ∀ e ∈ l, codeAt P e.1 = some e.2) : ∀ e ∈ (k, ir) :: l, codeAt P e.1 = some e.2 := fun e he => by
  rcases List.mem_cons.1 he with rfl | he
  · exact h
  · exact t e he
end Ev
end

/- Functions that stand in the model's own table. -/
section
namespace Ev
open Go Go.RowKit

abbrev Orc := List AV → T ARow → Nat → Option R
def oSame : Orc := fun a rows nx => match a with
  | [x] => rv rows nx x
  | _ => none
def idxS (l : List UInt8) (c : UInt8) : Int := match (List.range (⟨⟨l⟩⟩ : ByteArray).size).find? fun i => (⟨⟨l⟩⟩ : ByteArray)[i]! == c with
  | some i => .ofNat i
  | none => .negSucc 0
def oIndexByte : Orc := fun a rows nx => match a with
  | [.str l, .int .u8 c] => rv rows nx (.int .i64 (idxS l c.toNat.toUInt8))
  | _ => none
def oCompare : Orc := fun a rows nx => match a with
  | [.str l, .str m] => rv rows nx (.int .i64 (Extern.BytealgCompare.cmp ⟨⟨l⟩⟩ ⟨⟨m⟩⟩))
  | _ => none

section
variable {P : Program} {B : Base}

theorem callFunc_ext {f : Nat} {fn : Func} {e : Array Value → Sem Value} (hf : P.funcs[f]? = some fn) (hb : fn.body = none) (hn : fn.name ≠ "runtime.NumGoroutine") (h1 : Extern.findNext fn = none) (h2 : Extern.find fn = some e) (args : Array Value) (w : World) :
    (callFunc f args).run P w = ((e args).run P w).andThen fun v w' => .ok (.value v) w' := by
  unfold callFunc
  simp [hf, hb, hn, h1, h2, Sem.run_bind]

/-- A function of the table that only computes. -/
theorem ext_ok {f : Nat} {fn : Func} {e : Array Value → Sem Value} {g : List AV → T ARow → Nat → Option R} (hf : P.funcs[f]? = some fn) (hb : fn.body = none) (hn : fn.name ≠ "runtime.NumGoroutine") (h1 : Extern.findNext fn = none) (h2 : Extern.find fn = some e)
    (h : ∀ {ι : Io} {rows : T ARow} {w : World} {nx : Nat} {args : List AV} {us : List Value} {r : R}, g args rows nx = some r → VRelL ι args us → PureOK P ι rows w nx r (e ⟨us⟩)) : OrcOK B P f g := by
  intro ι rows w nx args us r he hh hfr ha
  obtain ⟨v, u, q1, q2, rfl⟩ := h (w := w) he ha
  rw [callFunc_ext hf hb hn h1 h2, q1]
  exact OutOK.val hh q2 rfl

theorem same_ok {ι : Io} {rows : T ARow} {w : World} {nx : Nat} {args : List AV} {us : List Value} {r : R} (h : oSame args rows nx = some r) (ha : VRelL ι args us) : PureOK P ι rows w nx r (Extern.AbiNoEscape.same ⟨us⟩) := by
  unfold oSame at h
  split at h
  · obtain rfl := rv_some h
    cases ha with
    | cons h t => cases t; exact ⟨_, _, rfl, h, rfl⟩
  · cases h
theorem indexByte_ok {ι : Io} {rows : T ARow} {w : World} {nx : Nat} {args : List AV} {us : List Value} {r : R} (h : oIndexByte args rows nx = some r) (ha : VRelL ι args us) : PureOK P ι rows w nx r (Extern.BytealgIndexByte.indexByte ⟨us⟩) := by
  unfold oIndexByte at h
  split at h
  · rename_i l c
    obtain rfl := rv_some h
    cases ha with
    | cons h1 t => cases t with
      | cons h2 t =>
        cases t; cases h1; cases h2
        refine ⟨_, .int .i64 (idxS l c.toNat.toUInt8), ?_, .int _ _, rfl⟩
        show (match (List.range (⟨⟨l⟩⟩ : ByteArray).size).find? fun i => (⟨⟨l⟩⟩ : ByteArray)[i]! == c.toNat.toUInt8 with
          | some i => (pure (goInt i) : Sem Value)
          | none => pure (goInt (-1))).run P w = _
        unfold idxS
        cases (List.range (⟨⟨l⟩⟩ : ByteArray).size).find? fun i => (⟨⟨l⟩⟩ : ByteArray)[i]! == c.toNat.toUInt8 <;> rfl
  · cases h
theorem compare_ok {ι : Io} {rows : T ARow} {w : World} {nx : Nat} {args : List AV} {us : List Value} {r : R} (h : oCompare args rows nx = some r) (ha : VRelL ι args us) : PureOK P ι rows w nx r (Extern.BytealgCompare.compare ⟨us⟩) := by
  unfold oCompare at h
  split at h
  · rename_i l m
    obtain rfl := rv_some h
    cases ha with
    | cons h1 t => cases t with
      | cons h2 t =>
        cases t; cases h1; cases h2
        exact ⟨_, _, rfl, .int _ _, rfl⟩
  · cases h
end
end Ev
end

/- Code that ends in one of some states; a range over a map, whatever the order; a function out of its code; a call that only reads what was there. -/
section
namespace Ev
open Go Go.RowKit
open Go.ChangeMaps (setBlock)

section
variable {P : Program} {ι : Io} {rows : T ARow} {w : World} {nx : Nat} {r : R} {IR : Nat → IC → Code → Prop} {B : Base} {E n : Nat} {ro : Option Nat} {κ : List (Nat × Loc)}

structure RunsTo (IR : Nat → IC → Code → Prop) (B : Base) (P : Program) (E n : Nat) (ro : Option Nat) (κ : List (Nat × Loc)) (s : St) (X : XS → Prop) (c : Code) : Prop where
  go : ∀ {ι : Io} {a : Act} {w : World} {Q : Exit → Act → World → Prop}, (∀ p ∈ κ, ι p.1 = some p.2) → Fr IR B E n ι s a w → E ≤ w.heap.size → (∀ x, X x → Goes IR B E n ι s w x Q) → c.wpIn (fence ro) 0 P Q a w

theorem RunsAs.to {f : St → Option XS} {c : Code} (h : RunsAs IR B P E n ro f c) {s : St} {x : XS} (hx : f s = some x) : RunsTo IR B P E n ro κ s (fun y => y = x) c :=
  ⟨fun _ hf hE hg => h hx hf hE (hg x rfl)⟩
theorem RunsTo.mono {s : St} {X Y : XS → Prop} {c : Code} (h : RunsTo IR B P E n ro κ s X c) (hm : ∀ x, X x → Y x) : RunsTo IR B P E n ro κ s Y c :=
  ⟨fun hκ hf hE hg => h.go hκ hf hE fun x hx => hg x (hm x hx)⟩
theorem RunsTo.seq {s : St} {X Y : XS → Prop} {c d : Code} (hc : RunsTo IR B P E n ro κ s X c) (hd : ∀ x, X x → x.e = .normal → RunsTo IR B P E n ro κ x.s Y d) (hn : ∀ x, X x → x.e ≠ .normal → Y x) : RunsTo IR B P E n ro κ s Y (.seq c d) := by
  refine ⟨fun {ι a w Q} hκ hf hE hg => ?_⟩
  refine wpIn_seq (hc.go hκ hf hE fun x hx ι1 a1 w1 hf1 hp1 => ?_)
  obtain ⟨e, s1⟩ := x
  cases e with
  | normal => exact (hd _ hx rfl).go (fun p hp => hp1.ext _ _ (hκ p hp)) hf1 (Nat.le_trans hE hp1.size) fun y hy => (hg y hy).after hp1
  | exit id => exact hg _ (hn _ hx (by simp)) ι1 a1 w1 hf1 hp1
  | ret => exact hg _ (hn _ hx (by simp)) ι1 a1 w1 hf1 hp1

def blkX (id : Nat) (x : XS) : XS := match x.e with | .exit i => if i = id then ⟨.normal, x.s⟩ else x | _ => x
theorem RunsTo.block {s : St} {Y : XS → Prop} {c : Code} {id : Nat} (hc : RunsTo IR B P E n ro κ s (fun x => Y (blkX id x)) c) : RunsTo IR B P E n ro κ s Y (.block id c) := by
  refine ⟨fun {ι a w Q} hκ hf hE hg => ?_⟩
  refine wpIn_block (hc.go hκ hf hE fun x hx ι1 a1 w1 hf1 hp1 => ?_)
  obtain ⟨e, s1⟩ := x
  cases e with
  | normal => exact hg _ hx ι1 a1 w1 hf1 hp1
  | ret => exact hg _ hx ι1 a1 w1 hf1 hp1
  | exit i =>
    show (if i = id then Q .normal a1 w1 else Q (.exit i) a1 w1)
    simp only [blkX] at hx
    by_cases hi : i = id
    · rw [if_pos hi] at hx ⊢
      exact hg _ hx ι1 a1 w1 hf1 hp1
    · rw [if_neg hi] at hx ⊢
      exact hg _ hx ι1 a1 w1 hf1 hp1

theorem RunsTo.region {C : CallF} {id : Nat} {ops : Array Oper} {s s1 : St} (hC : CallOK IR B P C) (hg : ∀ o ∈ ops.toList, ∃ g, compGuard n ops.toList o = some g) (h : evOps C (ops.toList.map (compG P n ops.toList)) s = some s1) :
    RunsTo IR B P E n ro κ s (fun y => y = ⟨.normal, s1⟩) (.region id ops false) :=
  RunsAs.to (runs_ops hC hg) (by show bo (evOps C _ s) _ = _; rw [h]; rfl)

/-! ### one operation by hand -/
theorem hand_op {ops : Array Oper} {i : Nat} {o : Oper} {a : Act} {K : Act → World → Prop} {Q : Exit → Act → World → Prop} {w w' : World} {u : Value} (hi : ops[i]? = some o) (hg : o.guard = none) (hd : ∀ c, o.op ≠ .defer c)
    (hr : (execOp a.eval o).run P w = .ok (.value u) w') (hK : K (a.put o.dst u) w') : wpOpIn (fence ro) 0 P ops Q i K a w := by
  unfold wpOpIn
  simp only [hi]
  have : Region.wanted o (yielded ops a.tmps) = true := by unfold Region.wanted; rw [hg]
  rw [this]
  simp only [if_true]
  refine ⟨fun f _ => fence_fn ro f, ?_⟩
  rw [Oper.semAt_plain (fence ro) a.eval o hd, hr]
  exact hK

/-- A new number for a place at which no row lies. -/
theorem Post.new_id (h : HRel IR B ι rows w) (hfr : ι nx = none) (L : Loc) : Post IR B ι (fun b => if b = nx then some L else ι b) rows w nx rows (nx+1) w := by
  have hext : Ext ι (fun b => if b = nx then some L else ι b) := fun b L' e => by
    show (if b = nx then some L else ι b) = some L'
    rw [if_neg (by intro e'; subst e'; rw [hfr] at e; cases e)]; exact e
  have hne : ∀ b q, rows.get b = some q → b ≠ nx := fun b q e e' => by
    subst e'
    obtain ⟨L', _, h1, _⟩ := h.row _ _ e
    rw [hfr] at h1; cases h1
  refine ⟨hext, fun b _ hb => if_neg (by omega), fun b hb => if_neg (by omega), Nat.le_succ _, ⟨fun b q e => ?_, fun b b' q q' L1 L2 e e' ho12 i i' hk => ?_, fun b q L1 e i => ?_, h.below, h.room⟩, fun _ _ _ => rfl, Nat.le_refl _, ?_⟩
  · obtain ⟨L1, o, h1, h2, h3⟩ := h.row b q e
    exact ⟨L1, o, by rw [if_neg (hne b q e)]; exact h1, h2, h3.mono hext⟩
  · rw [if_neg (hne b q e)] at i
    rw [if_neg (hne b' q' e')] at i'
    exact h.inj b b' q q' L1 L2 e e' ho12 i i' hk
  · rw [if_neg (hne b q e)] at i
    exact h.low b q L1 e i
  · rintro k ⟨b, q, L1, e, i, hk⟩
    have i : (if b = nx then some L else ι b) = some L1 := i
    rw [if_neg (hne b q e)] at i
    exact .inl ⟨b, q, L1, e, i, hk⟩

/-- What lies at a block of no row turns: a block that is newer than the world at the start. -/
theorem Post.turn {ι0 : Io} {rows0 : T ARow} {w0 w' : World} {nx0 : Nat} {k : Nat} (hp : Post IR B ι0 ι rows0 w0 nx0 rows nx w) (hk : w0.heap.size ≤ k) (ho : ¬ Owns ι rows k)
    (hoth : ∀ j, j ≠ k → w'.heap[j]? = w.heap[j]?) (hsz : w'.heap.size = w.heap.size) (hb : Below B.n w w') : Post IR B ι0 ι rows0 w0 nx0 rows nx w' := by
  refine ⟨hp.ext, hp.new, hp.old, hp.le, ⟨fun b q e => ?_, hp.hrel.inj, hp.hrel.low, hp.hrel.below.trans hb, by rw [hsz]; exact hp.hrel.room⟩, fun j hj ho' => ?_, by rw [hsz]; exact hp.size, hp.own⟩
  · obtain ⟨L, o, h1, h2, h3⟩ := hp.hrel.row b q e
    exact ⟨L, o, h1, by rw [hoth _ (fun e' => ho ⟨b, q, L, e, h1, e'⟩)]; exact h2, h3⟩
  · rw [hoth _ (by omega)]; exact hp.frame j hj ho'

theorem DefOK.turn {k : Nat} {ds : List Deferred} {w' : World} (h : DefOK E ι rows ds w) (hk : w.heap[k]? ≠ some (.deferred (some []))) (hoth : ∀ j, j ≠ k → w'.heap[j]? = w.heap[j]?) : DefOK E ι rows ds w' :=
  ⟨fun d hd => by
    obtain ⟨D, h1, h2, h3, h4⟩ := h.each d hd
    exact ⟨D, h1, h2, by rw [hoth D (fun e => hk (e ▸ h3))]; exact h3, h4⟩, h.one⟩

/-! ### a range over a map -/
theorem MapRel.split : ∀ {l : List (AV × AV)} {es : List MapEntry} (_ : MapRel ι l es) (e : MapEntry), e ∈ es → (es.map (·.born)).Nodup →
    ∃ l1 k v l2, l = l1 ++ (k, v) :: l2 ∧ VRel ι k e.key ∧ VRel ι v e.val ∧ MapRel ι (l1 ++ l2) (es.filter fun x => !(x.born == e.born))
  | _, _, .nil, e, he, _ => by cases he
  | _, _, @MapRel.cons _ k x e' l es hk hx t, e, he, hn => by
    have hn' := List.nodup_cons.1 hn
    by_cases hb : e'.born = e.born
    · rcases List.mem_cons.1 he with rfl | he
      · refine ⟨[], k, x, l, rfl, hk, hx, ?_⟩
        have : (e :: es).filter (fun x => !(x.born == e.born)) = es := by
          rw [List.filter_cons]
          simp only [beq_self_eq_true, Bool.not_true, Bool.false_eq_true, if_false]
          refine List.filter_eq_self.2 fun y hy => ?_
          have : y.born ≠ e.born := fun e' => hn'.1 (List.mem_map.2 ⟨y, hy, e'⟩)
          simpa using this
        rw [this]; exact t
      · exact absurd (List.mem_map.2 ⟨e, he, hb.symm⟩) hn'.1
    · rcases List.mem_cons.1 he with rfl | he
      · exact absurd rfl hb
      · obtain ⟨l1, k1, v1, l2, rfl, h1, h2, h3⟩ := t.split e he hn'.2
        refine ⟨(k, x) :: l1, k1, v1, l2, rfl, h1, h2, ?_⟩
        rw [List.filter_cons]
        simp only [show (e'.born == e.born) = false by simpa using hb, Bool.not_false, if_true]
        exact .cons hk hx h3

theorem left_push (mes : Array MapEntry) (seen : Array Nat) (b : Nat) : (leftOf mes (seen.push b)).toList = ((leftOf mes seen).toList).filter fun x => !(x.born == b) := by
  unfold leftOf
  rw [Array.toList_filter, Array.toList_filter, List.filter_filter]
  congr 1
  funext x
  rw [contains_push]
  cases seen.contains x.born <;> cases (x.born == b) <;> rfl

noncomputable def rangeSt (s : St) (tm ti b : Nat) : St := ⟨(s.tm.set tm (some (.map b))).set ti (some (.ptr s.nx 0)), s.rows, s.nx + 1⟩
noncomputable def overSt (s : St) (tn tx : Nat) : St := ⟨(s.tm.set tn (some (.tup [.bool false]))).set tx (some (.bool false)), s.rows, s.nx⟩
noncomputable def nextSt (s : St) (tn tx te : Nat) (k v : AV) : St := ⟨((s.tm.set tn (some (.tup [.bool true, k, v]))).set tx (some (.bool true))).set te (some (.tup [k, v])), s.rows, s.nx⟩

/-- The operations at which a range over a map begins and goes on. -/
structure RangeOps (n : Nat) (ts tm ti tn tx te : Nat) (ty : TypeId) (om orr on ox oe : Oper) : Prop where
  m : om.op = .move (.tmp ts) ∧ om.dst = some tm ∧ om.guard = none
  r : orr.op = .range ty (.tmp tm) ∧ orr.dst = some ti ∧ orr.guard = none
  nx : on.op = .next (.tmp ti) false ∧ on.dst = some tn ∧ on.guard = none
  x : ox.op = .extract (.tmp tn) 0 ∧ ox.dst = some tx ∧ ox.guard = none
  e : oe.op = .entry (.tmp ti) ∧ oe.dst = some te ∧ oe.guard = none
  lt : ts < n ∧ tm < n ∧ ti < n ∧ tn < n ∧ tx < n ∧ te < n
  ne : tm ≠ ti ∧ tn ≠ ti ∧ tx ≠ ti ∧ tn ≠ tx

theorem put_rel {tm : T AV} {a : Act} {t : Nat} {v : AV} {u : Value} (ht : TmRel ι tm a.tmps) (hn : a.tmps.size = n) (hv : VRel ι v u) : TmRel ι (tm.set t (some v)) (a.put (some t) u).tmps ∧ (a.put (some t) u).tmps.size = n ∧ (a.put (some t) u).defers = a.defers := by
  have := ht.put (dst := some t) hn hv
  simpa using this

theorem tmp_eq {tm : T AV} {a : Act} {t : Nat} {v : AV} (ht : TmRel ι tm a.tmps) (hn : a.tmps.size = n) (hlt : t < n) (hg : tm.get t = some v) : VRel ι v (a.eval (.tmp t)) := by
  have := ht.rel t (by omega)
  simp only [Opd.ev, hg] at this
  exact this

theorem runs_maprange {C : CallF} {ts tm ti tn tx te i0 i1 id3 id4 id5 : Nat} {ty kt et : TypeId} {om orr on ox oe : Oper} {ops5 : List Oper} {rest : Code} (hC : CallOK IR B P C) (ho : RangeOps n ts tm ti tn tx te ty om orr on ox oe) (hty : P.underlying ty = some (.map kt et))
    (hg5 : ∀ o ∈ oe :: ops5, ∃ g, compGuard n (oe :: ops5) o = some g) {s : St} {b : Nat} {es : List (AV × AV)} (hts : s.tm.get ts = some (.map b)) (hb : s.rows.get b = some (.roM es)) {L0 : Loc} (hL0 : (b, L0) ∈ κ) (hlow : L0.blk < B.n)
    (Inv : List (AV × AV) → St → Prop) {Y : XS → Prop} (h0 : Inv [] (rangeSt s tm ti b)) (hti : ∀ d s', Inv d s' → s'.tm.get ti = some (.ptr s.nx 0))
    (hstep : ∀ d k v l s', Inv d s' → (d ++ (k, v) :: l).Perm es → ∃ s5, evOps C (ops5.map (compG P n (oe :: ops5))) (nextSt s' tn tx te k v) = some s5 ∧
      RunsTo IR B P E n ro κ s5 (fun x => match x.e with | .normal => Inv (d ++ [(k, v)]) x.s | .exit j => j = i1 ∧ Inv (d ++ [(k, v)]) x.s | .ret => Y x) rest)
    (hend : ∀ d s', Inv d s' → d.Perm es → Y ⟨.normal, overSt s' tn tx⟩) :
    RunsTo IR B P E n ro κ s Y (.seq (.region id3 #[om, orr] false) (.block i0 (.loop (.seq (.region id4 #[on, ox] false) (.seq (.cond (.tmp tx) .skip (.exit i0)) (.block i1 (.seq (.region id5 ⟨oe :: ops5⟩ false) rest))))))) := by
  refine ⟨fun {ι a w Q} hκ hf hE hg => ?_⟩
  obtain ⟨L, o, hL, hw, hrr⟩ := hf.h.row b _ hb
  cases hrr with
  | @roM _ mes clock hmr hwf =>
  have hLB : L.blk < B.n := by
    have := hκ _ hL0
    rw [hL] at this; cases this; exact hlow
  have hv0 := tmp_eq hf.tm hf.sz ho.lt.1 hts
  have hv1 : a.eval (.tmp ts) = .map (some L.blk) := by
    generalize a.eval (.tmp ts) = u at hv0
    cases hv0 with | map h => rw [hL] at h; cases h; rfl
  refine wpIn_seq (wpIn_region ?_)
  show wpOpsIn (fence ro) 0 P #[om, orr] _ [0, 1] a w
  rw [wpOpsIn_cons]
  obtain ⟨m1, m2, m3⟩ := ho.m
  refine hand_op (o := om) (by simp) m3 (by rw [m1]; simp) (u := .map (some L.blk)) (w' := w) (by unfold execOp; rw [m1]; simp [hv1]) ?_
  rw [m2, wpOpsIn_cons]
  obtain ⟨q1, q2, q3⟩ := put_rel (t := tm) hf.tm hf.sz (.map hL)
  obtain ⟨r1, r2, r3⟩ := ho.r
  have hev : (a.put (some tm) (.map (some L.blk))).eval (.tmp tm) = .map (some L.blk) := by
    have := tmp_eq q1 q2 ho.lt.2.1 (v := .map b) (by rw [T.get_set, if_pos rfl])
    generalize (a.put (some tm) (Value.map (some L.blk))).eval (.tmp tm) = u at this
    cases this with | map h => rw [hL] at h; cases h; rfl
  refine hand_op (o := orr) (by simp) r3 (by rw [r1]; simp) (u := .pointer (some ⟨w.heap.size, 0, none⟩)) (w' := w.alloc (.mapIter (some L.blk) clock #[] clock)) (by
    unfold execOp; rw [r1]
    simp only [hev, Sem.run_bind, run_range_map w ty kt et L.blk mes clock hty hw, Result.andThen_ok, Sem.run_pure]) ?_
  rw [r2]
  -- behind the region
  show (Code.block i0 _).wpIn (fence ro) 0 P Q _ _
  have hpA : Post IR B ι ι s.rows w s.nx s.rows s.nx (w.alloc (.mapIter (some L.blk) clock #[] clock)) := Post.push _ hf.h
  have hpB := hpA.trans (Post.new_id (nx := s.nx) hpA.hrel (hf.fr _ (Nat.le_refl _)) ⟨w.heap.size, 0, 0⟩)
  have hi0 : (fun b => if b = s.nx then some (⟨w.heap.size, 0, 0⟩ : Loc) else ι b) s.nx = some ⟨w.heap.size, 0, 0⟩ := if_pos rfl
  generalize hι0 : (fun b => if b = s.nx then some (⟨w.heap.size, 0, 0⟩ : Loc) else ι b) = ι0 at hpB hi0
  have hir : (w.alloc (.mapIter (some L.blk) clock #[] clock)).heap[w.heap.size]? = some (.mapIter (some L.blk) clock #[] clock) := heap_alloc_new w _
  obtain ⟨q4, q5, q6⟩ := put_rel (t := ti) (q1.mono hpB.ext) q2 (VRel.ptr (o := 0) hi0)
  have hf0 : Fr IR B E n ι0 (rangeSt s tm ti b) ((a.put (some tm) (.map (some L.blk))).put (some ti) (.pointer (some ⟨w.heap.size, 0, none⟩))) (w.alloc (.mapIter (some L.blk) clock #[] clock)) :=
    hf.next q4 q5 (q6.trans q3) hpB
  have hno : ¬ Owns ι0 s.rows w.heap.size := by
    intro hO
    have := hpB.own _ hO
    rcases this with ⟨b', q', L', e1, e2, e3⟩ | h
    · obtain ⟨L2, o2, g1, g2, _⟩ := hf.h.row b' q' e1
      rw [e2] at g1; cases g1
      have := (Array.getElem?_eq_some_iff.1 g2).1
      omega
    · obtain ⟨b', q', L', e1, e2, e3⟩ := hO
      obtain ⟨L2, o2, g1, g2, _⟩ := hf.h.row b' q' e1
      have := hpB.ext _ _ g1
      rw [this] at e2; cases e2
      have := (Array.getElem?_eq_some_iff.1 g2).1
      omega
  generalize (a.put (some tm) (Value.map (some L.blk))).put (some ti) (.pointer (some ⟨w.heap.size, 0, none⟩)) = a0 at hf0 ⊢
  have hsz0 : (w.alloc (.mapIter (some L.blk) clock #[] clock)).heap.size = w.heap.size + 1 := World.size_alloc _ _
  generalize w.alloc (.mapIter (some L.blk) clock #[] clock) = w0 at hpB hir hf0 hsz0 ⊢
  clear hpA
  refine wpIn_block ?_
  let J : Act → World → Prop := fun a' w' => ∃ ι' s' d left seen c0, Fr IR B E n ι' s' a' w' ∧ Post IR B ι ι' s.rows w s.nx s'.rows s'.nx w' ∧ Inv d s' ∧ (d ++ left).Perm es ∧ MapRel ι' left (leftOf mes seen).toList ∧
    w'.heap[w.heap.size]? = some (.mapIter (some L.blk) clock seen c0) ∧ clock ≤ c0 ∧ ¬ Owns ι' s'.rows w.heap.size ∧ ι' s.nx = some ⟨w.heap.size, 0, 0⟩
  refine wpIn_loop J (fun _ w' => (leftOf mes (w'.iterSeen w.heap.size)).size) ⟨ι0, _, [], es, #[], clock, hf0, hpB, h0, List.Perm.refl _, ?_, hir, Nat.le_refl _, hno, hi0⟩ ?_
  · have : (leftOf mes #[]).toList = mes.toList := by
      unfold leftOf
      rw [Array.toList_filter]
      exact List.filter_eq_self.2 fun x _ => by simp
    rw [this]
    exact hmr.mono hpB.ext
  rintro a1 w1 ⟨ι1, s1, d, left, seen, c0, hf1, hp1, hinv, hperm, hmrl, hit, hc0, hno1, hi1⟩
  have hseen : w1.iterSeen w.heap.size = seen := by unfold World.iterSeen; rw [hit]
  have hmap : w1.heap[L.blk]? = some (.map mes clock) := by
    have h1 := hp1.hrel.below.block L.blk hLB
    have h2 := hf.h.below.block L.blk hLB
    rw [h1, ← h2]; exact hw
  have hroom : B.n ≤ w.heap.size := hf.h.room
  have hevi : ∀ {a' : Act} {tmx : T AV} {ιx : Io}, TmRel ιx tmx a'.tmps → a'.tmps.size = n → tmx.get ti = some (.ptr s.nx 0) → ιx s.nx = some ⟨w.heap.size, 0, 0⟩ → a'.eval (.tmp ti) = .pointer (some ⟨w.heap.size, 0, none⟩) := by
    intro a' tmx ιx h1 h2 h3 h4
    have := tmp_eq h1 h2 ho.lt.2.2.1 h3
    generalize a'.eval (.tmp ti) = u at this
    cases this with | ptr h => rw [h4] at h; cases h; rfl
  have hti1 := hti d s1 hinv
  have hev1 := hevi hf1.tm hf1.sz hti1 hi1
  obtain ⟨n1, n2, n3⟩ := ho.nx
  obtain ⟨x1, x2, x3⟩ := ho.x
  obtain ⟨e1, e2, e3⟩ := ho.e
  refine wpIn_seq (wpIn_region ?_)
  show wpOpsIn (fence ro) 0 P #[on, ox] _ [0, 1] a1 w1
  rw [wpOpsIn_cons]
  rcases run_next_at (P := P) w1 on.type w.heap.size L.blk clock c0 seen mes clock hit hmap hwf.lt hc0 with ⟨hz, hrun⟩ | ⟨e, he, w2, hw2, hrun⟩
  · -- nothing is left
    have hleft : left = [] := by
      have : (leftOf mes seen).toList = [] := by simpa using hz
      rw [this] at hmrl
      cases hmrl; rfl
    subst hleft
    refine hand_op (o := on) (by simp) n3 (by rw [n1]; simp) (u := .tuple #[.bool false]) (w' := w1) (by unfold execOp; rw [n1]; simp only [hev1, Sem.run_bind, hrun, Result.andThen_ok, Sem.run_pure]) ?_
    rw [n2, wpOpsIn_cons]
    obtain ⟨p1, p2, p3⟩ := put_rel (t := tn) hf1.tm hf1.sz (VRel.tup (l := [.bool false]) (.cons (.bool false) .nil))
    have hevn : (a1.put (some tn) (.tuple #[.bool false])).eval (.tmp tn) = .tuple #[.bool false] := by
      have := tmp_eq p1 p2 ho.lt.2.2.2.1 (v := .tup [.bool false]) (by rw [T.get_set, if_pos rfl])
      generalize (a1.put (some tn) (Value.tuple #[.bool false])).eval (.tmp tn) = u at this
      cases this with | tup h => cases h with | cons h t => cases t; cases h; rfl
    refine hand_op (o := ox) (by simp) x3 (by rw [x1]; simp) (u := .bool false) (w' := w1) (by unfold execOp; rw [x1]; simp [hevn, Instr.extract]) ?_
    rw [x2]
    obtain ⟨p4, p5, p6⟩ := put_rel (t := tx) p1 p2 (VRel.bool false)
    have hfo : Fr IR B E n ι1 (overSt s1 tn tx) ((a1.put (some tn) (.tuple #[.bool false])).put (some tx) (.bool false)) w1 := ⟨p4, p5, hf1.h, hf1.fr, by rw [p6, p3]; exact hf1.df⟩
    have hevx : ((a1.put (some tn) (.tuple #[.bool false])).put (some tx) (.bool false)).eval (.tmp tx) = .bool false := by
      have := tmp_eq p4 p5 ho.lt.2.2.2.2.1 (v := .bool false) (by rw [T.get_set, if_pos rfl])
      generalize ((a1.put (some tn) (Value.tuple #[.bool false])).put (some tx) (.bool false)).eval (.tmp tx) = u at this
      cases this; rfl
    show (Code.seq _ _).wpIn (fence ro) 0 P _ _ _
    refine wpIn_seq (wpIn_cond_false hevx (wpIn_exit ?_))
    show (if i0 = i0 then _ else _)
    rw [if_pos rfl]
    exact hg _ (hend d s1 hinv (by simpa using hperm)) ι1 _ _ hfo hp1
  · -- an entry comes
    have he' : e ∈ mes.toList ∧ seen.contains e.born = false := mem_left he
    have hnd : ((leftOf mes seen).toList.map (·.born)).Nodup := by
      unfold leftOf
      rw [Array.toList_filter]
      exact hwf.nodup.sublist (List.Sublist.map _ List.filter_sublist)
    obtain ⟨l1, k, v, l2, rfl, hk, hv, hmr2⟩ := hmrl.split e he hnd
    rw [← left_push] at hmr2
    have hw2h : w2.heap = w1.heap := by rcases hw2 with rfl | rfl <;> rfl
    generalize hw3 : setBlock w2 w.heap.size (.mapIter (some L.blk) clock (seen.push e.born) clock) = w3 at hrun
    have hlt1 : w.heap.size < w1.heap.size := (Array.getElem?_eq_some_iff.1 hit).1
    have hoth : ∀ j, j ≠ w.heap.size → w3.heap[j]? = w1.heap[j]? := fun j hj => by
      rw [← hw3]; unfold setBlock; simp only [hw2h]
      rw [Array.getElem?_setIfInBounds_ne (Ne.symm hj)]
    have hsz3 : w3.heap.size = w1.heap.size := by rw [← hw3]; unfold setBlock; simp [hw2h]
    have hit3 : w3.heap[w.heap.size]? = some (.mapIter (some L.blk) clock (seen.push e.born) clock) := by
      rw [← hw3]; unfold setBlock; simp [hw2h, hlt1]
    have hbel : Below B.n w1 w3 := by
      refine ⟨?_, ?_, ?_, by omega, fun k hk => hoth k (by omega)⟩ <;> (rw [← hw3]; rcases hw2 with rfl | rfl <;> rfl)
    have hp3 : Post IR B ι ι1 s.rows w s.nx s1.rows s1.nx w3 := hp1.turn (Nat.le_refl _) hno1 hoth hsz3 hbel
    refine hand_op (o := on) (by simp) n3 (by rw [n1]; simp) (u := .tuple #[.bool true, e.key, e.val]) (w' := w3) (by unfold execOp; rw [n1]; simp only [hev1, Sem.run_bind, hrun, Result.andThen_ok, Sem.run_pure]) ?_
    rw [n2, wpOpsIn_cons]
    obtain ⟨p1, p2, p3⟩ := put_rel (t := tn) hf1.tm hf1.sz (VRel.tup (l := [.bool true, k, v]) (vs := [.bool true, e.key, e.val]) (.cons (.bool true) (.cons hk (.cons hv .nil))))
    have hevn : ∃ x y, (a1.put (some tn) (.tuple #[.bool true, e.key, e.val])).eval (.tmp tn) = .tuple #[.bool true, x, y] := by
      have := tmp_eq p1 p2 ho.lt.2.2.2.1 (v := .tup [.bool true, k, v]) (by rw [T.get_set, if_pos rfl])
      generalize (a1.put (some tn) (Value.tuple #[.bool true, e.key, e.val])).eval (.tmp tn) = u at this
      cases this with | tup h => cases h with | cons h t => cases h; cases t with | cons h2 t => cases t with | cons h3 t => cases t; exact ⟨_, _, rfl⟩
    obtain ⟨xx, yy, hevn⟩ := hevn
    refine hand_op (o := ox) (by simp) x3 (by rw [x1]; simp) (u := .bool true) (w' := w3) (by unfold execOp; rw [x1]; simp [hevn, Instr.extract]) ?_
    rw [x2]
    obtain ⟨p4, p5, p6⟩ := put_rel (t := tx) p1 p2 (VRel.bool true)
    have hevx : ((a1.put (some tn) (.tuple #[.bool true, e.key, e.val])).put (some tx) (.bool true)).eval (.tmp tx) = .bool true := by
      have := tmp_eq p4 p5 ho.lt.2.2.2.2.1 (v := .bool true) (by rw [T.get_set, if_pos rfl])
      generalize ((a1.put (some tn) (Value.tuple #[.bool true, e.key, e.val])).put (some tx) (.bool true)).eval (.tmp tx) = u at this
      cases this; rfl
    show (Code.seq _ _).wpIn (fence ro) 0 P _ _ _
    refine wpIn_seq (wpIn_cond_true hevx (wpIn_skip ?_))
    show (Code.block i1 _).wpIn (fence ro) 0 P _ _ _
    refine wpIn_block (wpIn_seq (wpIn_region ?_))
    have hrange : List.range (⟨oe :: ops5⟩ : Array Oper).size = 0 :: (List.range ops5.length).map (· + 1) := by
      show List.range (ops5.length + 1) = _
      rw [List.range_succ_eq_map]
    rw [hrange, wpOpsIn_cons]
    have htiE : ((s1.tm.set tn (some (.tup [.bool true, k, v]))).set tx (some (.bool true))).get ti = some (.ptr s.nx 0) := by
      rw [T.get_set, if_neg ho.ne.2.2.1.symm, T.get_set, if_neg ho.ne.2.1.symm]; exact hti1
    have heve := hevi p4 p5 htiE hi1
    have hmap3 : w3.heap[L.blk]? = some (.map mes clock) := by rw [hoth _ (by omega)]; exact hmap
    have hent := run_entry_at (P := P) w3 w.heap.size L.blk clock seen mes clock e hit3 hmap3 he'.1 hwf.nodup
    refine hand_op (o := oe) (by simp) e3 (by rw [e1]; simp) (u := .tuple #[e.key, e.val]) (w' := w3) (by unfold execOp; rw [e1]; simp only [heve, Sem.run_bind, hent, Result.andThen_ok, Sem.run_pure]) ?_
    rw [e2]
    obtain ⟨p7, p8, p9⟩ := put_rel (t := te) p4 p5 (VRel.tup (l := [k, v]) (vs := [e.key, e.val]) (.cons hk (.cons hv .nil)))
    obtain ⟨s5, hs5, hrest⟩ := hstep d k v (l1 ++ l2) s1 hinv (((List.perm_middle (l₁ := l1) (a := (k, v)) (l₂ := l2)).symm.append_left d).trans hperm)
    have hdf3 : DefOK E ι1 s1.rows a1.defers w3 := hf1.df.turn (k := w.heap.size) (by rw [hit]; simp) hoth
    have hfn : Fr IR B E n ι1 (nextSt s1 tn tx te k v) (((a1.put (some tn) (.tuple #[.bool true, e.key, e.val])).put (some tx) (.bool true)).put (some te) (.tuple #[e.key, e.val])) w3 :=
      ⟨p7, p8, hp3.hrel, hf1.fr, by rw [p9, p6, p3]; exact hdf3⟩
    have hno3 : ¬ Owns ι1 s1.rows w.heap.size := hno1
    generalize ((a1.put (some tn) (Value.tuple #[.bool true, e.key, e.val])).put (some tx) (.bool true)).put (some te) (.tuple #[e.key, e.val]) = a3 at hfn ⊢
    refine ops_ok hC (ops := ⟨oe :: ops5⟩) hg5 _ (ops5.map (compG P n (oe :: ops5))) ?_ hfn.sz hfn.tm hfn.h hfn.fr hs5 fun ι5 a5 w5 t5 z5 d5 hp5 => ?_
    · apply List.ext_getElem?
      intro i
      simp only [List.getElem?_map, List.map_map]
      by_cases hi : i < ops5.length
      · rw [List.getElem?_range hi, List.getElem?_eq_getElem hi]; simp [hi]
      · simp [hi]
    have hf5 := hfn.next t5 z5 d5 hp5
    show rest.wpIn (fence ro) 0 P _ _ _
    have keep : ∀ {ι6 : Io} {s6 : St} {w6 : World}, Post IR B ι1 ι6 s1.rows w3 s1.nx s6.rows s6.nx w6 → w6.heap[w.heap.size]? = some (.mapIter (some L.blk) clock (seen.push e.born) clock) ∧ ¬ Owns ι6 s6.rows w.heap.size := by
      intro ι6 s6 w6 hp6
      refine ⟨by rw [hp6.frame _ (by omega) hno3]; exact hit3, fun hO => ?_⟩
      rcases hp6.own _ hO with h | h
      · exact hno3 h
      · omega
    have hdec : ∀ w6 : World, w6.heap[w.heap.size]? = some (.mapIter (some L.blk) clock (seen.push e.born) clock) → (leftOf mes (w6.iterSeen w.heap.size)).size < (leftOf mes (w1.iterSeen w.heap.size)).size := by
      intro w6 h6
      have : w6.iterSeen w.heap.size = seen.push e.born := by unfold World.iterSeen; rw [h6]
      rw [this, hseen, ← Array.length_toList, ← Array.length_toList, left_push]
      have := filter_lt (fun _ : MapEntry => true) (fun x => !(x.born == e.born)) (fun _ _ => rfl) e rfl (by simp) (leftOf mes seen).toList he
      rw [List.filter_eq_self.2 (show ∀ a ∈ (leftOf mes seen).toList, (fun _ : MapEntry => true) a = true from fun _ _ => rfl)] at this
      exact this
    have fin : ∀ {ι6 : Io} {s6 : St} {a6 : Act} {w6 : World}, Inv (d ++ [(k, v)]) s6 → Fr IR B E n ι6 s6 a6 w6 → Post IR B ι1 ι6 s1.rows w3 s1.nx s6.rows s6.nx w6 → J a6 w6 ∧ (leftOf mes (w6.iterSeen w.heap.size)).size < (leftOf mes (w1.iterSeen w.heap.size)).size := by
      intro ι6 s6 a6 w6 hinv6 hf6 hp6
      obtain ⟨k1, k2⟩ := keep hp6
      refine ⟨⟨ι6, s6, d ++ [(k, v)], l1 ++ l2, seen.push e.born, clock, hf6, hp3.trans hp6, hinv6, ?_, hmr2.mono hp6.ext, k1, Nat.le_refl _, k2, hp6.ext _ _ hi1⟩, hdec w6 k1⟩
      rw [List.append_assoc]
      exact ((List.perm_middle (l₁ := l1) (a := (k, v)) (l₂ := l2)).symm.append_left d).trans hperm
    have hEw : E ≤ w5.heap.size := by
      have := hp5.size
      have := hp1.size
      omega
    refine hrest.go (fun p hp => hp5.ext _ _ (hp3.ext _ _ (hκ p hp))) hf5 hEw fun x hx ι6 a6 w6 hf6 hp6 => ?_
    obtain ⟨ex, s6⟩ := x
    have hp56 := hp5.trans hp6
    cases ex with
    | normal => exact fin hx hf6 hp56
    | exit j =>
      obtain ⟨rfl, hx⟩ := hx
      show (if j = j then _ else _)
      rw [if_pos rfl]
      exact fin hx hf6 hp56
    | ret => exact hg _ hx ι6 a6 w6 hf6 (hp3.trans hp56)
end
end Ev
end
