/- Tables of answers at values with addresses: what lies there is compared. -/
import Derived.Test.YtkakkacpddiogaaGreatDoorGEwN
import Derived.Test.YtkakkacpddiogaaGreatDoorMe43
import Derived.Test.YtkakkacpddiogaaGreatDoorSc43

set_option linter.unusedSimpArgs false
set_option linter.unusedVariables false
section
namespace Ev
open Go Go.RowKit

mutual
/-- Row numbers put in. -/
def ren (f : Nat → Nat) : AV → AV
  | .ptr b o => .ptr (f b) o
  | .slice b o l c => .slice (f b) o l c
  | .agg l => .agg (renL f l)
  | .tup l => .tup (renL f l)
  | a => a
def renL (f : Nat → Nat) : List AV → List AV
  | [] => []
  | a :: l => ren f a :: renL f l
end
mutual
/-- No address but in rows of these numbers. -/
def deep (lo hi : Nat) : AV → Bool
  | .undef => true
  | .bool _ => true
  | .int _ _ => true
  | .str _ => true
  | .nil _ => true
  | .iface => true
  | .ptr b _ => Nat.ble lo b && Nat.blt b hi
  | .slice b _ _ _ => Nat.ble lo b && Nat.blt b hi
  | .agg l => deepL lo hi l
  | .tup l => deepL lo hi l
  | _ => false
def deepL (lo hi : Nat) : List AV → Bool
  | [] => true
  | a :: l => deep lo hi a && deepL lo hi l
end
mutual
def refs : AV → List Nat
  | .ptr b _ => [b]
  | .slice b _ _ _ => [b]
  | .agg l => refsL l
  | .tup l => refsL l
  | _ => []
def refsL : List AV → List Nat
  | [] => []
  | a :: l => refs a ++ refsL l
end
mutual
theorem ren_rel {ι ι' : Io} {f : Nat → Nat} {lo hi : Nat} (hf : ∀ b, lo ≤ b → b < hi → ι' b = ι (f b)) : ∀ {a : AV} {v : Value}, deep lo hi a = true → VRel ι (ren f a) v → VRel ι' a v
  | .undef, _, _, h => by cases h; exact .undef
  | .bool _, _, _, h => by cases h; exact .bool _
  | .int _ _, _, _, h => by cases h; exact .int _ _
  | .str _, _, _, h => by cases h; exact .str _
  | .nil _, _, _, h => by
    simp only [ren] at h
    cases h
    · exact .nilPtr
    · exact .nilSlice
    · exact .nilMap
    · exact .nilFn
    · exact .nilIface
  | .iface, _, _, h => by simp only [ren] at h; cases h; exact .iface _ _
  | .ptr b o, _, hd, h => by
    simp only [deep, ble_nat, blt_nat, Bool.and_eq_true, decide_eq_true_eq] at hd
    simp only [ren] at h
    cases h with
    | ptr h => exact .ptr (by rw [hf b hd.1 hd.2]; exact h)
  | .slice b o l c, _, hd, h => by
    simp only [deep, ble_nat, blt_nat, Bool.and_eq_true, decide_eq_true_eq] at hd
    simp only [ren] at h
    cases h with
    | sliceEx h h1 => exact .sliceEx (by rw [hf b hd.1 hd.2]; exact h) h1
    | sliceOp h h1 h2 => exact .sliceOp (by rw [hf b hd.1 hd.2]; exact h) h1 h2
  | .agg l, _, hd, h => by
    simp only [ren] at h
    cases h with
    | agg h h1 => exact .agg (renL_rel hf (by simpa [deep] using hd) h) h1
  | .tup l, _, hd, h => by
    simp only [ren] at h
    cases h with
    | tup h => exact .tup (renL_rel hf (by simpa [deep] using hd) h)
  | .fn _ _, _, hd, _ => by simp [deep] at hd
  | .map _, _, hd, _ => by simp [deep] at hd
  | .yld _, _, hd, _ => by simp [deep] at hd
  | .empty, _, hd, _ => by simp [deep] at hd
theorem renL_rel {ι ι' : Io} {f : Nat → Nat} {lo hi : Nat} (hf : ∀ b, lo ≤ b → b < hi → ι' b = ι (f b)) : ∀ {l : List AV} {vs : List Value}, deepL lo hi l = true → VRelL ι (renL f l) vs → VRelL ι' l vs
  | [], _, _, h => by simp only [renL] at h; cases h; exact .nil
  | a :: l, _, hd, h => by
    simp only [deepL, Bool.and_eq_true] at hd
    simp only [renL] at h
    cases h with
    | cons h t => exact .cons (ren_rel hf hd.1 h) (renL_rel hf hd.2 t)
end

/-- A row of such a table: the arguments (rows from number lo on), what lies in the rows, the answer. -/
structure DRow where
  args : List AV
  rows : List (List AV)
  ans : AV

/-- The rows of the table's own numbers. -/
noncomputable def dRows (lo : Nat) (l : List (List AV)) (t : T ARow) : T ARow := List.rec (motive := fun _ => Nat → T ARow → T ARow) (fun _ t => t) (fun c _ ih n t => ih (Nat.succ n) (t.set n (some (.ro 0 c)))) l lo t
theorem dRows_get : ∀ (l : List (List AV)) (lo : Nat) (t : T ARow) (b : Nat), (dRows lo l t).get b = if lo ≤ b then (match l[b - lo]? with | some c => some (.ro 0 c) | none => t.get b) else t.get b
  | [], lo, t, b => by
    show t.get b = _
    split <;> simp
  | c :: l, lo, t, b => by
    show (dRows (lo+1) l (t.set lo (some (.ro 0 c)))).get b = _
    rw [dRows_get l (lo+1)]
    by_cases h1 : lo + 1 ≤ b
    · rw [if_pos h1, if_pos (by omega), show b - lo = (b - (lo+1)) + 1 by omega, List.getElem?_cons_succ]
      cases l[b - (lo+1)]? with
      | some v => rfl
      | none =>
        simp only [T.get_set]
        rw [if_neg (by omega)]
    · rw [if_neg h1, T.get_set]
      by_cases h2 : b = lo
      · subst h2; simp
      · rw [if_neg h2, if_neg (by omega)]

noncomputable def dEv (ev : List AV → T ARow → Nat → Option R) (g : Nat) (tbl : List AV) (e : DRow) : Bool := match deepL (Nat.succ g) (Nat.add (Nat.succ g) (lenN e.rows)) e.args with
  | true => (match e.rows.all flatL with
    | true => (match ev e.args (dRows (Nat.succ g) e.rows (g0 g tbl)) (Nat.add (Nat.succ g) (lenN e.rows)) with
      | some r => (match flat r.v with | true => sameT r.v e.ans | false => false)
      | none => false)
    | false => false)
  | false => false

noncomputable def sameRows (rows : T ARow) : List Nat → List (List AV) → Bool
  | [], [] => true
  | b :: l, c :: m => (match rows.get b with | some (.cells _ d) => (match sameL d c with | true => sameRows rows l m | false => false) | _ => false)
  | _, _ => false
def nodupN : List Nat → Bool
  | [] => true
  | a :: l => l.all (fun b => !Nat.beq a b) && nodupN l
noncomputable def dOne (g : Nat) (e : DRow) (args : List AV) (rows : T ARow) : Bool :=
  match sameRows rows (refsL args) e.rows with
  | true => (match nodupN (refsL args) with
    | true => sameL args (renL (fun b => (refsL args).getD (Nat.sub b (Nat.succ g)) 0) e.args)
    | false => false)
  | false => false
noncomputable def dMemo (g : Nat) (t : List DRow) (ev : Tg → List AV → T ARow → Nat → Option R) (f : Nat) : Orc := fun args rows nx =>
  match (List.rec none (fun e _ ih => match dOne g e args rows with | true => some e.ans | false => ih) t : Option AV) with
  | some v => some ⟨v, rows, nx⟩
  | none => ev (.r f) args rows nx

theorem sameRows_get {rows : T ARow} : ∀ {l : List Nat} {m : List (List AV)}, sameRows rows l m = true → l.length = m.length ∧ ∀ (i b : Nat), l[i]? = some b → ∃ g c, m[i]? = some c ∧ rows.get b = some (.cells g c)
  | [], [], _ => ⟨rfl, fun i b h => by simp at h⟩
  | [], _ :: _, h => by simp [sameRows] at h
  | _ :: _, [], h => by simp [sameRows] at h
  | a :: l, c :: m, h => by
    simp only [sameRows] at h
    split at h
    · rename_i g d hd
      split at h
      · rename_i hs
        obtain ⟨h1, h2⟩ := sameRows_get h
        refine ⟨by simp [h1], fun i b hi => ?_⟩
        cases i with
        | zero =>
          simp at hi
          subst hi
          exact ⟨g, c, rfl, by rw [hd, sameL_eq hs]⟩
        | succ i => exact h2 i b (by simpa using hi)
      · cases h
    · cases h
theorem nodupN_ok : ∀ {l : List Nat}, nodupN l = true → l.Nodup
  | [], _ => .nil
  | a :: l, h => by
    simp only [nodupN, Bool.and_eq_true, List.all_eq_true, Bool.not_eq_true', beq_nat, decide_eq_false_iff_not] at h
    exact List.nodup_cons.2 ⟨fun hm => h.1 a hm rfl, nodupN_ok h.2⟩

section
variable {P : Program} {B : Base} {g : Nat} {tbl : List AV}

theorem dOne_ok {orc : Nat → Option Orc} {fns : T IFn} {LF fuel f : Nat} {e : DRow} (hm : P.follows .mixedOrders = true) (hfns : Tied P fns) (horc : ∀ (B : Base), KG g tbl B → ∀ f o, orc f = some o → OrcOK B P f o) (hK : KG g tbl B)
    (he : dEv (evCall orc fns LF fuel (.r f)) g tbl e = true) {ι : Io} {rows : T ARow} {w : World} {args : List AV} {us : List Value} (hd : dOne g e args rows = true) (hh : HRel (IRof P) B ι rows w) (ha : VRelL ι args us) :
    (callFunc f ⟨us⟩).run P w = .ok (.enter f ⟨us⟩) w ∧ Calls P f ⟨us⟩ w fun en w' => ∃ u, en = .returned u ∧ VRel ι e.ans u ∧ Below w.heap.size w w' := by
  unfold dOne at hd
  split at hd <;> try (cases hd; done)
  rename_i hs
  split at hd <;> try (cases hd; done)
  rename_i hn
  have hn := nodupN_ok hn
  obtain ⟨hlen, hget⟩ := sameRows_get hs
  have hargs := sameL_eq hd
  unfold dEv at he
  split at he <;> try (cases he; done)
  rename_i hdeep
  split at he <;> try (cases he; done)
  rename_i hflat
  split at he <;> try (cases he; done)
  rename_i r hr
  split at he <;> try (cases he; done)
  rename_i hfv
  have hans := sameT_eq he
  rw [lenN_eq] at hdeep hr
  generalize hσ : refsL args = σ at *
  let ι1 : Io := fun b => if b = g then some ⟨g, 0, 0⟩ else if g < b then (match σ[b - (g+1)]? with | some c => ι c | none => none) else none
  have hw := hK.at hh
  obtain ⟨c0, e0, fz0, hw1, hw2⟩ := id hw
  have hgsz : g < w.heap.size := (Array.getElem?_eq_some_iff.1 hw1).1
  have hrow : ∀ (i b : Nat), σ[i]? = some b → ∃ L o c gg, ι b = some L ∧ w.heap[L.blk]? = some o ∧ RowRel (IRof P) ι L (.cells gg c) o ∧ e.rows[i]? = some c ∧ rows.get b = some (.cells gg c) := fun i b hi => by
    obtain ⟨gg, c, h1, h2⟩ := hget i b hi
    obtain ⟨L, o, h3, h4, h5⟩ := hh.row b _ h2
    exact ⟨L, o, c, gg, h3, h4, h5, h1, h2⟩
  have hgetR : ∀ b q, (dRows (g+1) e.rows (g0 g tbl)).get b = some q → (b = g ∧ q = .ro (g+1) tbl) ∨ (g < b ∧ ∃ c, e.rows[b - (g+1)]? = some c ∧ q = .ro 0 c) := fun b q hq => by
    rw [dRows_get] at hq
    split at hq
    · rename_i hb
      split at hq
      · rename_i c hc
        simp only [Option.some.injEq] at hq
        exact .inr ⟨by omega, c, hc, hq.symm⟩
      · exact .inl (g0_get hq)
    · exact .inl (g0_get hq)
  have hat : ∀ b c, g < b → e.rows[b - (g+1)]? = some c → ∃ b' L o gg, σ[b - (g+1)]? = some b' ∧ ι1 b = some L ∧ ι b' = some L ∧ w.heap[L.blk]? = some o ∧ RowRel (IRof P) ι L (.cells gg c) o ∧ rows.get b' = some (.cells gg c) := fun b c hb hc => by
    have hi : b - (g+1) < σ.length := by
      rw [hlen]; exact (List.getElem?_eq_some_iff.1 hc).1
    obtain ⟨b', hb'⟩ : ∃ b', σ[b - (g+1)]? = some b' := ⟨_, List.getElem?_eq_getElem hi⟩
    obtain ⟨L, o, c', gg, h1, h2, h3, h4, h5⟩ := hrow _ _ hb'
    rw [hc] at h4; cases h4
    refine ⟨b', L, o, gg, hb', ?_, h1, h2, h3, h5⟩
    show (if b = g then _ else if g < b then (match σ[b - (g+1)]? with | some c => ι c | none => none) else none) = _
    rw [if_neg (by omega), if_pos hb, hb']
    exact h1
  have h1g : ι1 g = some ⟨g, 0, 0⟩ := if_pos rfl
  have hnew : ∀ b' L gg c, rows.get b' = some (.cells gg c) → ι b' = some L → L.blk ≠ g := fun b' L gg c h1 h2 => by
    have := hh.low b' _ L h1 h2 rfl
    have := hK.1
    omega
  have h0 : HRel (IRof P) ⟨w.heap.size, w⟩ ι1 (dRows (g+1) e.rows (g0 g tbl)) w := by
    refine ⟨fun b q hq => ?_, fun b1 b2 q1 q2 L1 L2 e1 e2 ho12 i1 i2 hk => ?_, fun b q L hq _ hro => ?_, .refl _ _, Nat.le_refl _⟩
    · rcases hgetR b q hq with ⟨rfl, rfl⟩ | ⟨hb, c, hc, rfl⟩
      · exact ⟨_, _, h1g, hw1, .ro (hw2.mono fun _ _ e => by cases e) (.inr ⟨rfl, rfl⟩)⟩
      · obtain ⟨b', L, o, gg, k1, k2, k3, k4, k5, k6⟩ := hat b c hb hc
        refine ⟨L, o, k2, k4, ?_⟩
        cases k5 with
        | cells a1 a2 a3 a4 a5 =>
          have hfl : flatL c = true := List.all_eq_true.1 hflat c (List.mem_of_getElem? hc)
          exact .ro (cells_flat hfl a2) (.inl rfl)
    · rcases hgetR b1 q1 e1 with ⟨rfl, rfl⟩ | ⟨hb1, c1, hc1, rfl⟩ <;> rcases hgetR b2 q2 e2 with ⟨rfl, rfl⟩ | ⟨hb2, c2, hc2, rfl⟩
      · rfl
      · obtain ⟨b', L, o, gg, k1, k2, k3, k4, k5, k6⟩ := hat b2 c2 hb2 hc2
        rw [h1g] at i1; cases i1
        rw [k2] at i2; cases i2
        exact absurd hk.symm (hnew b' _ gg c2 k6 k3)
      · obtain ⟨b', L, o, gg, k1, k2, k3, k4, k5, k6⟩ := hat b1 c1 hb1 hc1
        rw [h1g] at i2; cases i2
        rw [k2] at i1; cases i1
        exact absurd hk (hnew b' _ gg c1 k6 k3)
      · obtain ⟨b', L, o, gg, k1, k2, k3, k4, k5, k6⟩ := hat b1 c1 hb1 hc1
        obtain ⟨d', M, o2, gg2, j1, j2, j3, j4, j5, j6⟩ := hat b2 c2 hb2 hc2
        rw [k2] at i1; cases i1
        rw [j2] at i2; cases i2
        have := hh.inj b' d' _ _ _ _ k6 j6 (.inl rfl) k3 j3 hk
        subst this
        have h1 := (List.getElem?_eq_some_iff.1 k1)
        have h2 := (List.getElem?_eq_some_iff.1 j1)
        obtain ⟨l1, e1'⟩ := h1
        obtain ⟨l2, e2'⟩ := h2
        have hp := List.pairwise_iff_getElem.1 hn
        rcases Nat.lt_trichotomy (b1 - (g+1)) (b2 - (g+1)) with hlt | heq | hgt
        · exact absurd (e1'.trans e2'.symm) (hp _ _ l1 l2 hlt)
        · omega
        · exact absurd (e2'.trans e1'.symm) (hp _ _ l2 l1 hgt)
    · rcases hgetR b q hq with ⟨rfl, rfl⟩ | ⟨hb, c, hc, rfl⟩ <;> cases hro
  have ha0 : VRelL ι1 e.args us := by
    rw [hargs] at ha
    refine renL_rel (lo := g+1) (hi := g + 1 + e.rows.length) (fun b h1 h2 => ?_) hdeep ha
    have hi : b - (g+1) < σ.length := by omega
    show (if b = g then _ else if g < b then (match σ[b - (g+1)]? with | some c => ι c | none => none) else none) = _
    rw [if_neg (by omega), if_pos (by omega), List.getElem?_eq_getElem hi]
    show ι σ[b - (g+1)] = ι (σ.getD (b - (g+1)) 0)
    rw [List.getD_eq_getElem?_getD, List.getElem?_eq_getElem hi]
    rfl
  have hC := evCall_ok (B := ⟨w.heap.size, w⟩) (LF := LF) hm hfns (horc _ hw.kg) fuel
  obtain ⟨q1, q2⟩ := hC.r hr h0 (fun b hb => by
    show (if b = g then _ else if g < b then (match σ[b - (g+1)]? with | some c => ι c | none => none) else none) = none
    have hb : g + 1 + e.rows.length ≤ b := hb
    rw [if_neg (by omega), if_pos (by omega), List.getElem?_eq_none (by omega)]) ha0
  refine ⟨q1, Calls.mono q2 fun en w' he' => ?_⟩
  obtain ⟨u, ι', rfl, h5, h6⟩ := he'
  refine ⟨u, rfl, ?_, h6.hrel.below⟩
  rw [← hans]
  exact flat_rel hfv h5

theorem dMemo_ok {orc : Nat → Option Orc} {fns : T IFn} {LF fuel f : Nat} {t : List DRow} (hm : P.follows .mixedOrders = true) (hfns : Tied P fns) (horc : ∀ (B : Base), KG g tbl B → ∀ f o, orc f = some o → OrcOK B P f o) (hK : KG g tbl B)
    (h : ∀ e ∈ t, dEv (evCall orc fns LF fuel (.r f)) g tbl e = true) : OrcOK B P f (dMemo g t (evCall orc fns LF fuel) f) := by
  intro ι rows w nx args us r he hh hfr ha
  unfold dMemo at he
  have key : ∀ t : List DRow, (∀ e ∈ t, dEv (evCall orc fns LF fuel (.r f)) g tbl e = true) → ∀ v, (List.rec none (fun e _ ih => match dOne g e args rows with | true => some e.ans | false => ih) t : Option AV) = some v → ∃ e, dEv (evCall orc fns LF fuel (.r f)) g tbl e = true ∧ dOne g e args rows = true ∧ e.ans = v := by
    intro t
    induction t with
    | nil => intro _ v h; cases h
    | cons a t ih =>
      intro hall v hv
      have hv : (match dOne g a args rows with | true => some a.ans | false => (List.rec none (fun e _ ih => match dOne g e args rows with | true => some e.ans | false => ih) t : Option AV)) = some v := hv
      cases hd : dOne g a args rows with
      | true =>
        rw [hd] at hv
        simp only [Option.some.injEq] at hv
        exact ⟨a, hall a (by simp), hd, hv⟩
      | false =>
        rw [hd] at hv
        exact ih (fun e he => hall e (by simp [he])) v hv
  split at he
  · rename_i v hv
    obtain ⟨e, k1, k2, rfl⟩ := key t h v hv
    simp only [Option.some.injEq] at he
    subst he
    obtain ⟨q1, q2⟩ := dOne_ok hm hfns horc hK k1 k2 hh ha
    rw [q1]
    refine ⟨rfl, Calls.mono q2 fun en w' he' => ?_⟩
    obtain ⟨u, rfl, h3, h4⟩ := he'
    refine ⟨u, ι, rfl, h3, ?_⟩
    have hb : ∀ k, k < w.heap.size → w'.heap[k]? = w.heap[k]? := fun k hk => h4.block k hk
    have hs : w.heap.size ≤ w'.heap.size := h4.size
    refine ⟨.refl _, fun _ _ _ => rfl, fun _ _ => rfl, Nat.le_refl _, ⟨fun b r e => ?_, hh.inj, hh.low, ?_, Nat.le_trans hh.room hs⟩, fun k hk _ => hb k hk, hs, fun k hk => .inl hk⟩
    · obtain ⟨L, o, g1, g2, g3⟩ := hh.row b r e
      exact ⟨L, o, g1, by rw [hb _ (Array.getElem?_eq_some_iff.1 g2).1]; exact g2, g3⟩
    · refine hh.below.trans ⟨h4.os, h4.tape, h4.output, ?_, fun k hk => hb k (by have := hh.room; omega)⟩
      omega
  · have hC := evCall_ok (B := B) (LF := LF) hm hfns (horc B hK) fuel
    obtain ⟨q1, q2⟩ := hC.r he hh hfr ha
    rw [q1]
    exact ⟨rfl, q2⟩
end
end Ev
end

/- The examples of the chapter: known() returns true. -/
section
namespace Ev.Kn
open Go Ev Ev.Or
set_option maxRecDepth 1000000

noncomputable def orcM : Nat → Option Orc := orcL (Me.lM ++ lA)
theorem lM_ok {B : Base} (hK : KG 1 pow B) : ∀ e ∈ Me.lM ++ lA, OrcOK B P43 e.1 e.2 := by
  intro e he
  rcases List.mem_append.1 he with he | he
  · exact Me.lM_ok hK e he
  · exact lA_ok e he
noncomputable def evM : Tg → List AV → T ARow → Nat → Option R := evCall orcM fns43 100000 200
/-- The sheet of the examples is right. -/
def sheet : DRow := ⟨[.agg [.slice 2 0 4 (.ex 4), .slice 3 0 2 (.ex 2)]], [[.str [48], .str [48], .str [52], .str [48], .str [52], .str [52], .str [48], .str [52]], [.int .i64 (.ofNat 0), .int .i64 (.ofNat 1), .int .i64 (.ofNat 2), .int .i64 (.ofNat 0), .int .i64 (.ofNat 2), .int .i64 (.ofNat 3)]], .int .i64 (.ofNat 0)⟩
theorem sheet_run : dEv (evM (.r 102)) 1 pow sheet = true := by kernel_rfl
theorem sheet_ok {B : Base} (hK : KG 1 pow B) : OrcOK B P43 102 (dMemo 1 [sheet] evM 102) :=
  dMemo_ok mixed Td.tied (fun B hK => orcL_ok (lM_ok hK)) hK (fun e he => by
    simp only [List.mem_singleton] at he
    subst he; exact sheet_run)
noncomputable def lB : List (Nat × Orc) := (287, turnO 308 2 5 288 (sortT Sc.L1 Sc.S1)) :: (102, dMemo 1 [sheet] evM 102) :: (Me.lM ++ lA)
noncomputable def orcB : Nat → Option Orc := orcL lB
theorem lB_ok {B : Base} (hK : KG 1 pow B) : ∀ e ∈ lB, OrcOK B P43 e.1 e.2 := by
  intro e he
  rcases List.mem_cons.1 he with rfl | he
  · exact turn_ok mixed Td.tied (orcA_ok B) Sc.turned
  · rcases List.mem_cons.1 he with rfl | he
    · exact sheet_ok hK
    · exact lM_ok hK e he
noncomputable def evB : CallF := evCall orcB fns43 100000 200
theorem evB_ok (B : Base) (hK : KG 1 pow B) : CallOK (IRof P43) B P43 evB := evCall_ok mixed Td.tied (orcL_ok (lB_ok hK)) 200
theorem sort_at : orcB 287 = some (turnO 308 2 5 288 (sortT Sc.L1 Sc.S1)) := rfl
theorem evCall_f (orc : Nat → Option Orc) (fns : T IFn) (LF k f : Nat) (args : List AV) (rows : T ARow) (nx : Nat) {g : Orc} (h : orc f = some g) : evCall orc fns LF (k + 1) (.f f) args rows nx = g args rows nx := by
  show (match orc f with | some g => g args rows nx | none => bo (fns.get f) fun fn => evFn (evCall orc fns LF k) LF fn args rows nx) = _
  rw [h]

noncomputable def lC : List (Nat × Orc) := (260, Ed.oEdges evB 100000 Sc.L1 Sc.S1) :: lB
noncomputable def orcC : Nat → Option Orc := orcL lC
theorem lC_ok {B : Base} (hK : KG 1 pow B) : ∀ e ∈ lC, OrcOK B P43 e.1 e.2 := by
  intro e he
  rcases List.mem_cons.1 he with rfl | he
  · exact Ed.edges_ok hK KG.stays mixed evB 100000 Sc.L1 Sc.S1 evB_ok (by simp [Sc.L1]) fun l rows nx id h hr => by
      rw [show evB = evCall orcB fns43 100000 (199 + 1) from rfl, evCall_f orcB fns43 100000 199 287 _ rows nx sort_at]
      exact Ed.turn_sort h hr
  · exact lB_ok hK e he
theorem orcC_ok (B : Base) (hK : KG 1 pow B) : ∀ f o, orcC f = some o → OrcOK B P43 f o := orcL_ok (lC_ok hK)
end Ev.Kn
end
