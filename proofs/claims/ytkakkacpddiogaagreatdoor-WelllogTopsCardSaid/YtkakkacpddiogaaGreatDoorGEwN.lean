/- A function out of its code, the states at its end given as a set; a call that reads what was there and lays new rows. -/
import Derived.Test.YtkakkacpddiogaaGreatDoorGEwD

set_option linter.unusedSimpArgs false
set_option linter.unusedVariables false
section
namespace Ev
open Go Go.RowKit

section
variable {P : Program} {ι : Io} {rows : T ARow} {w : World} {nx : Nat} {B : Base} {κ : List (Nat × Loc)}

theorem leaves_to {fn : Func} {ι0 : Io} {rows0 : T ARow} {w0 : World} (hb : B.n ≤ w0.heap.size) {nx0 : Nat} {tm : T AV} {tmps : Array Value} (hn : tmps.size = fn.ntmps) {rs : List (Nat × Option Kd)} {vs : List AV} (hc : compRes P fn.ntmps fn.results.toList = some rs) (he : evRes ⟨tm, rows, nx⟩ rs = some vs) (ht : TmRel ι tm tmps) {R0 : Ending → World → Prop} (hR : ∀ v ι' w'', VRel ι' (retV vs) v → Post (IRof P) B ι0 ι' rows0 w0 nx0 rows nx w'' → R0 (.returned v) w'') :
    ∀ (ds : List Deferred) {w : World}, DefOK w0.heap.size ι rows ds w → Post (IRof P) B ι0 ι rows0 w0 nx0 rows nx w →
      LeavesInM (fence none) 0 P fn tmps R0 ds .returning w
  | [], w, hd, hp => by
    obtain ⟨v, h1, h2⟩ := results_ok (P := P) (nx := nx) hp.hrel hn ht hc he
    exact ⟨v, h1, hR v ι w h2 hp⟩
  | d :: ds, w, hd, hp => by
    obtain ⟨D, rfl, h2, h3, h4⟩ := hd.each d (by simp)
    have hD : D < w.heap.size := (Array.getElem?_eq_some_iff.1 h3).1
    refine ⟨by simp, .inl ⟨D, w.putObj D (.deferred none), rfl, run_takeDeferred h3, ?_⟩⟩
    have hoth : ∀ k, k ≠ D → (w.putObj D (.deferred none)).heap[k]? = w.heap[k]? := fun k hk => World.putObj_heap_other hk
    have hp' : Post (IRof P) B ι0 ι rows0 w0 nx0 rows nx (w.putObj D (.deferred none)) := by
      refine ⟨hp.ext, hp.new, hp.old, hp.le, ⟨fun b r e => ?_, hp.hrel.inj, hp.hrel.low, hp.hrel.below.trans (below_put w _ (by omega)), by rw [World.putObj_size]; exact hp.hrel.room⟩, fun k hk ho => ?_, by rw [World.putObj_size]; exact hp.size, hp.own⟩
      · obtain ⟨L, o, g1, g2, g3⟩ := hp.hrel.row b r e
        refine ⟨L, o, g1, ?_, g3⟩
        rw [hoth _ (fun hk => h4 ⟨b, r, L, e, g1, hk⟩)]; exact g2
      · rw [hoth _ (by omega)]; exact hp.frame k hk ho
    refine leaves_to hb hn hc he ht hR ds ⟨fun e he' => ?_, (List.pairwise_cons.1 hd.one).2⟩ hp'
    obtain ⟨D', k1, k2, k3, k4⟩ := hd.each e (by simp [he'])
    have hne : D' ≠ D := fun e' => by
      have := (List.pairwise_cons.1 hd.one).1 e he'
      rw [k1, e'] at this
      exact this rfl
    exact ⟨D', k1, k2, by rw [hoth _ hne]; exact k3, k4⟩


/-- A function's contract, out of its code. -/
theorem calls_to {f : Nat} {fn : Func} {c : Code} {rs : List (Nat × Option Kd)} (hf : P.funcs[f]? = some fn) (hb : fn.body = some c) (hrs : compRes P fn.ntmps fn.results.toList = some rs) {args : List AV} {us : List Value} (hl : args.length ≤ fn.ntmps)
    (h : HRel (IRof P) B ι rows w) (hfr : ∀ b, nx ≤ b → ι b = none) (ha : VRelL ι args us) {X : XS → Prop} (hX : RunsTo (IRof P) B P w.heap.size fn.ntmps none κ ⟨argsT args 0 .nil, rows, nx⟩ X c) (hκ : ∀ p ∈ κ, ι p.1 = some p.2) {Z : R → Prop}
    (hZ : ∀ x, X x → (∀ id, x.e ≠ .exit id) ∧ ∃ vs, evRes x.s rs = some vs ∧ Z ⟨retV vs, x.s.rows, x.s.nx⟩) :
    Calls P f ⟨us⟩ w fun e w'' => ∃ r v ι', Z r ∧ e = .returned v ∧ VRel ι' r.v v ∧ Post (IRof P) B ι ι' rows w nx r.rows r.nx w'' := by
  have hul : us.length = args.length := ha.length.symm
  refine (calls_fence none 0).1 (callsIn_of_wp_marks hf hb trivial ?_)
  refine hX.go hκ ⟨⟨fun t ht => ?_⟩, ?_, h, hfr, ⟨fun d hd => (List.not_mem_nil hd).elim, List.Pairwise.nil⟩⟩ (Nat.le_refl _) fun x hx ι' a' w' hf' hp' => ?_
  · simp only [Opd.ev, argsT_get, Nat.zero_le, if_true, Nat.sub_zero, T.get_nil]
    have ht : t < us.length + (fn.ntmps - us.length) := by simpa using ht
    cases hq : args[t]? with
    | some v =>
      obtain ⟨u, hu, hr⟩ := ha.get hq
      have : ((⟨us⟩ : Array Value) ++ Array.replicate (fn.ntmps - (⟨us⟩ : Array Value).size) undef).getD t undef = u := by
        have hlt := (List.getElem?_eq_some_iff.1 hu).1
        rw [Array.getD_eq_getD_getElem?, Array.getElem?_append_left (by simpa using hlt)]
        simp [hu]
      rw [this]; exact hr
    | none =>
      have hge : us.length ≤ t := by
        rw [hul]; exact List.getElem?_eq_none_iff.1 hq
      have : ((⟨us⟩ : Array Value) ++ Array.replicate (fn.ntmps - (⟨us⟩ : Array Value).size) undef).getD t undef = undef := by
        rw [Array.getD_eq_getD_getElem?, Array.getElem?_append_right (by simpa using hge), Array.getElem?_replicate]
        split <;> rfl
      rw [this]; exact .undef
  · simp; omega
  · obtain ⟨hex, vs, hvs, hz⟩ := hZ x hx
    obtain ⟨e, s1⟩ := x
    have fin : LeavesInM (fence none) 0 P fn a'.tmps (fun e w'' => ∃ r v ι', Z r ∧ e = .returned v ∧ VRel ι' r.v v ∧ Post (IRof P) B ι ι' rows w nx r.rows r.nx w'') a'.defers .returning w' := by
      exact leaves_to (P := P) (nx := s1.nx) h.room hf'.sz hrs hvs hf'.tm (fun v ι2 w'' h2 h3 => ⟨_, v, ι2, hz, rfl, h2, h3⟩) a'.defers hf'.df hp'
    cases e with
    | normal => exact fin
    | ret => exact fin
    | exit id => exact absurd rfl (hex id)

/-- A call that was looked at with all that was there as read only. -/
theorem Post.rebase {IR : Nat → IC → Code → Prop} {ι1 : Io} {rows0 rows1 rows' : T ARow} {nx1 : Nat} {w' : World} (h : HRel IR B ι rows w) (hp : Post IR ⟨w.heap.size, w⟩ ι ι1 rows0 w nx rows1 nx1 w')
    (hr : ∀ b q, rows'.get b = some q → rows.get b = some q ∨ (rows1.get b = some q ∧ q.isRo = false)) : Post IR B ι ι1 rows w nx rows' nx1 w' := by
  have hbel : Below w.heap.size w w' := hp.hrel.below
  have hB : B.n ≤ w.heap.size := h.room
  have hold : ∀ b q, rows.get b = some q → ∃ L o, ι b = some L ∧ w.heap[L.blk]? = some o ∧ RowRel IR ι L q o ∧ L.blk < w.heap.size := fun b q e => by
    obtain ⟨L, o, h1, h2, h3⟩ := h.row b q e
    exact ⟨L, o, h1, h2, h3, (Array.getElem?_eq_some_iff.1 h2).1⟩
  refine ⟨hp.ext, hp.new, hp.old, hp.le, ⟨fun b q e => ?_, fun b b' q q' L1 L2 e e' ho12 i i' hk => ?_, fun b q L1 e i hro => ?_, h.below.trans ⟨hbel.os, hbel.tape, hbel.output, hbel.size, fun k hk => hbel.block k (by omega)⟩, Nat.le_trans hB hp.size⟩, fun k hk _ => hbel.block k hk, hp.size, ?_⟩
  · rcases hr b q e with h1 | ⟨h1, _⟩
    · obtain ⟨L, o, g1, g2, g3, g4⟩ := hold b q h1
      exact ⟨L, o, hp.ext _ _ g1, by rw [hbel.block _ g4]; exact g2, g3.mono hp.ext⟩
    · exact hp.hrel.row b q h1
  · rcases hr b q e with h1 | ⟨h1, h2⟩ <;> rcases hr b' q' e' with h3 | ⟨h3, h4⟩
    · obtain ⟨M1, _, g1, _⟩ := hold b q h1
      obtain ⟨M2, _, g2, _⟩ := hold b' q' h3
      have := hp.ext _ _ g1
      rw [this] at i; cases i
      have := hp.ext _ _ g2
      rw [this] at i'; cases i'
      exact h.inj b b' q q' _ _ h1 h3 ho12 g1 g2 hk
    · obtain ⟨M1, _, g1, _, _, g5⟩ := hold b q h1
      have := hp.ext _ _ g1
      rw [this] at i; cases i
      have : w.heap.size ≤ L2.blk := hp.hrel.low b' q' L2 h3 i' h4
      omega
    · obtain ⟨M2, _, g2, _, _, g5⟩ := hold b' q' h3
      have := hp.ext _ _ g2
      rw [this] at i'; cases i'
      have : w.heap.size ≤ L1.blk := hp.hrel.low b q L1 h1 i h2
      omega
    · exact hp.hrel.inj b b' q q' L1 L2 h1 h3 ho12 i i' hk
  · rcases hr b q e with h1 | ⟨h1, h2⟩
    · obtain ⟨M1, _, g1, _⟩ := hold b q h1
      have := hp.ext _ _ g1
      rw [this] at i; cases i
      exact h.low b q _ h1 g1 hro
    · have : w.heap.size ≤ L1.blk := hp.hrel.low b q L1 h1 i h2
      omega
  · rintro k ⟨b, q, L1, e, i, hk⟩
    rcases hr b q e with h1 | ⟨h1, h2⟩
    · obtain ⟨M1, _, g1, _⟩ := hold b q h1
      have := hp.ext _ _ g1
      rw [this] at i; cases i
      exact .inl ⟨b, q, _, h1, g1, hk⟩
    · have : w.heap.size ≤ L1.blk := hp.hrel.low b q L1 h1 i h2
      exact .inr (by omega)

/-- The start of such a look: one map. -/
theorem HRel.readMap {IR : Nat → IC → Code → Prop} (h : HRel IR B ι rows w) {b : Nat} {es : List (AV × AV)} (hb : rows.get b = some (.map es) ∨ rows.get b = some (.roM es)) : HRel IR ⟨w.heap.size, w⟩ ι ((T.nil : T ARow).set b (some (.roM es))) w := by
  have hget : ∀ b' q, ((T.nil : T ARow).set b (some (.roM es))).get b' = some q → b' = b ∧ q = .roM es := fun b' q e => by
    rw [T.get_set] at e
    split at e
    · rename_i hb'
      simp only [Option.some.injEq] at e
      exact ⟨hb', e.symm⟩
    · rw [T.get_nil] at e; cases e
  refine ⟨fun b' q e => ?_, fun b1 b2 q1 q2 L1 L2 e1 e2 _ _ _ _ => ?_, fun b' q L e _ hro => ?_, .refl _ _, Nat.le_refl _⟩
  · obtain ⟨rfl, rfl⟩ := hget b' q e
    rcases hb with hb | hb
    · obtain ⟨L, o, h1, h2, h3⟩ := h.row _ _ hb
      cases h3 with
      | map hm hw => exact ⟨L, _, h1, h2, .roM hm hw⟩
    · obtain ⟨L, o, h1, h2, h3⟩ := h.row _ _ hb
      exact ⟨L, o, h1, h2, h3⟩
  · rw [(hget _ _ e1).1, (hget _ _ e2).1]
  · obtain ⟨rfl, rfl⟩ := hget b' q e
    cases hro
theorem HRel.readMap_low {IR : Nat → IC → Code → Prop} {b : Nat} {es : List (AV × AV)} (h : HRel IR ⟨w.heap.size, w⟩ ι ((T.nil : T ARow).set b (some (.roM es))) w) : ∀ L, ι b = some L → L.blk < w.heap.size := fun L hL => by
  obtain ⟨L', o, h1, h2, _⟩ := h.row b (.roM es) (by rw [T.get_set, if_pos rfl])
  rw [hL] at h1; cases h1
  exact (Array.getElem?_eq_some_iff.1 h2).1

/-- Some code, looked at with all that was there as read only (one map of it is read). -/
theorem RunsTo.rebase {IR : Nat → IC → Code → Prop} {E n : Nat} {ro : Option Nat} {s : St} {b : Nat} {es : List (AV × AV)} {X1 X : XS → Prop} {c : Code} (hb : s.rows.get b = some (.map es) ∨ s.rows.get b = some (.roM es))
    (h : ∀ (w : World) (L : Loc), Below B.n B.w w → B.n ≤ w.heap.size → L.blk < w.heap.size → RunsTo IR ⟨w.heap.size, w⟩ P E n ro [(b, L)] ⟨s.tm, (T.nil : T ARow).set b (some (.roM es)), s.nx⟩ X1 c)
    (hX : ∀ x, X1 x → ∃ rows', (∀ b' q, rows'.get b' = some q → s.rows.get b' = some q ∨ (x.s.rows.get b' = some q ∧ q.isRo = false)) ∧ X ⟨x.e, ⟨x.s.tm, rows', x.s.nx⟩⟩) : RunsTo IR B P E n ro κ s X c := by
  refine ⟨fun {ι a w Q} hκ hf hE hg => ?_⟩
  have h0 := HRel.readMap hf.h hb
  have hL : ∃ L, ι b = some L := by
    obtain ⟨L, o, h1, _⟩ := h0.row b _ (by rw [T.get_set, if_pos rfl])
    exact ⟨L, h1⟩
  obtain ⟨L, hL⟩ := hL
  have hlow := HRel.readMap_low h0 L hL
  have hsub : ∀ k, Owns ι ((T.nil : T ARow).set b (some (.roM es))) k → Owns ι s.rows k := by
    rintro k ⟨b', q, L', e1, e2, e3⟩
    rw [T.get_set] at e1
    split at e1
    · rename_i hb'
      subst hb'
      rcases hb with hb | hb
      · exact ⟨_, _, L', hb, e2, e3⟩
      · exact ⟨_, _, L', hb, e2, e3⟩
    · rw [T.get_nil] at e1; cases e1
  have hdf : DefOK E ι ((T.nil : T ARow).set b (some (.roM es))) a.defers w := ⟨fun d hd => by
    obtain ⟨D, h1, h2, h3, h4⟩ := hf.df.each d hd
    exact ⟨D, h1, h2, h3, fun ho => h4 (hsub D ho)⟩, hf.df.one⟩
  refine (h w L hf.h.below hf.h.room hlow).go (fun p hp => by
    simp only [List.mem_singleton] at hp
    subst hp; exact hL) ⟨hf.tm, hf.sz, h0, hf.fr, hdf⟩ hE fun x hx ι' a' w' hf' hp' => ?_
  obtain ⟨rows', h1, h2⟩ := hX x hx
  have hp := Post.rebase hf.h hp' h1
  refine hg _ h2 ι' a' w' ⟨hf'.tm, hf'.sz, hp.hrel, hf'.fr, ⟨fun d hd => ?_, hf'.df.one⟩⟩ hp
  obtain ⟨D, g1, g2, g3, g4⟩ := hf'.df.each d hd
  refine ⟨D, g1, g2, g3, ?_⟩
  rintro ⟨b', q, L', e1, e2, e3⟩
  rcases h1 b' q e1 with h3 | ⟨h3, _⟩
  · obtain ⟨L2, o, k1, k2, k3⟩ := hp.hrel.row b' q e1
    rw [e2] at k1; cases k1
    rw [e3, g3] at k2
    cases k2
    cases k3
  · exact g4 ⟨b', q, L', h3, e2, e3⟩

theorem RunsTo.fresh {IR : Nat → IC → Code → Prop} {E n : Nat} {ro : Option Nat} {s : St} {X : XS → Prop} {c : Code} (h : (∀ b', s.nx ≤ b' → s.rows.get b' = none) → RunsTo IR B P E n ro κ s X c) : RunsTo IR B P E n ro κ s X c := by
  refine ⟨fun {ι a w Q} hκ hf hE hg => (h fun b' hb' => ?_).go hκ hf hE hg⟩
  cases hr : s.rows.get b' with
  | none => rfl
  | some q =>
    obtain ⟨L, _, h1, _⟩ := hf.h.row b' q hr
    rw [hf.fr b' hb'] at h1; cases h1
end
end Ev
end

/- Code with ranges over maps on its spine: its form, what it comes to. -/
section
namespace Ev
open Go Go.RowKit

inductive JC where
  | ic (c : IC)
  | seq (a b : JC)
  | mrange (ts tm ti tn tx te i1 : Nat) (g5 : List GOp) (rest : IC)
  deriving Inhabited

def mvT (o : Oper) : Option (Nat × Nat) := match o.op with | .move (.tmp s) => (match o.dst with | some d => (match o.guard with | none => some (s, d) | _ => none) | _ => none) | _ => none
def rgT (o : Oper) : Option (TypeId × Nat × Nat) := match o.op with | .range ty (.tmp s) => (match o.dst with | some d => (match o.guard with | none => some (ty, s, d) | _ => none) | _ => none) | _ => none
def nxT (o : Oper) : Option (Nat × Nat) := match o.op with | .next (.tmp s) false => (match o.dst with | some d => (match o.guard with | none => some (s, d) | _ => none) | _ => none) | _ => none
def exT (o : Oper) : Option (Nat × Nat) := match o.op with | .extract (.tmp s) 0 => (match o.dst with | some d => (match o.guard with | none => some (s, d) | _ => none) | _ => none) | _ => none
def enT (o : Oper) : Option (Nat × Nat) := match o.op with | .entry (.tmp s) => (match o.dst with | some d => (match o.guard with | none => some (s, d) | _ => none) | _ => none) | _ => none

def isMapT (P : Program) (t : TypeId) : Bool := match P.underlying t with | some (.map _ _) => true | _ => false

def mapJ (P : Program) (n : Nat) (om orr on ox oe : Oper) (o5 : List Oper) (txc i0 i0' i1 : Nat) (rest : Code) : Option JC :=
  bo (mvT om) fun m => bo (rgT orr) fun r => bo (nxT on) fun x => bo (exT ox) fun e => bo (enT oe) fun q =>
    gd (Nat.beq m.2 r.2.1 && Nat.beq r.2.2 x.1 && Nat.beq x.2 e.1 && Nat.beq e.2 txc && Nat.beq r.2.2 q.1 && Nat.beq i0 i0' &&
      (Nat.blt m.1 n && Nat.blt m.2 n && Nat.blt r.2.2 n && Nat.blt x.2 n && Nat.blt e.2 n && Nat.blt q.2 n) &&
      (!Nat.beq m.2 r.2.2 && !Nat.beq x.2 r.2.2 && !Nat.beq e.2 r.2.2 && !Nat.beq x.2 e.2) && isMapT P r.1 && guardsOK n (oe :: o5))
    (some (.mrange m.1 m.2 r.2.2 x.2 e.2 q.2 i1 (o5.map (compG P n (oe :: o5))) (comp P n true rest)))

def mapRange (P : Program) (n : Nat) : Code → Option JC
  | .seq (.region _ ops3 false) (.block i0 (.loop (.seq (.region _ ops4 false) (.seq (.cond (.tmp tx) .skip (.exit i0')) (.block i1 (.seq (.region _ ops5 false) rest)))))) =>
    match ops3.toList, ops4.toList, ops5.toList with
    | [om, orr], [on, ox], oe :: o5 => mapJ P n om orr on ox oe o5 tx i0 i0' i1 rest
    | _, _, _ => none
  | _ => none

def compJ (P : Program) (n : Nat) (c : Code) : JC := match mapRange P n c with
  | some j => j
  | none => match c with
    | .seq a b => .seq (compJ P n a) (compJ P n b)
    | c => .ic (comp P n true c)

/-- What such code comes to: some state at the end, whatever the order. -/
def JRuns (C : CallF) (LF : Nat) (kb : List Nat) : JC → St → (XS → Prop) → Prop
  | .ic c, s, X => ∃ x, runIC C LF c s = some x ∧ X x
  | .seq a b, s, X => JRuns C LF kb a s (fun x => match x.e with | .normal => JRuns C LF kb b x.s X | _ => X x)
  | .mrange ts tm ti tn tx te i1 g5 rest, s, X => ((∀ b', s.nx ≤ b' → s.rows.get b' = none) → ∃ (b : Nat) (es : List (AV × AV)) (Inv : List (AV × AV) → St → Prop), s.tm.get ts = some (.map b) ∧ (s.rows.get b = some (.map es) ∨ s.rows.get b = some (.roM es)) ∧ Inv [] (rangeSt ⟨s.tm, (T.nil : T ARow).set b (some (.roM es)), s.nx⟩ tm ti b) ∧
      (∀ d s', Inv d s' → s'.tm.get ti = some (.ptr s.nx 0)) ∧
      (∀ d k v l s', Inv d s' → (d ++ (k, v) :: l).Perm es → ∃ s5 x, evOps C g5 (nextSt s' tn tx te k v) = some s5 ∧ runIC C LF rest s5 = some x ∧ (match x.e with | .normal => Inv (d ++ [(k, v)]) x.s | .exit j => j = i1 ∧ Inv (d ++ [(k, v)]) x.s | .ret => False)) ∧
      (∀ d s', Inv d s' → d.Perm es → ∃ rows', (∀ b' q, rows'.get b' = some q → s.rows.get b' = some q ∨ (s'.rows.get b' = some q ∧ q.isRo = false)) ∧ X ⟨.normal, ⟨(overSt s' tn tx).tm, rows', s'.nx⟩⟩)) ∨
    ∃ (b : Nat) (es : List (AV × AV)) (Inv : List (AV × AV) → St → Prop), s.tm.get ts = some (.map b) ∧ s.rows.get b = some (.roM es) ∧ b ∈ kb ∧ Inv [] (rangeSt s tm ti b) ∧
      (∀ d s', Inv d s' → s'.tm.get ti = some (.ptr s.nx 0)) ∧
      (∀ d k v l s', Inv d s' → (d ++ (k, v) :: l).Perm es → ∃ s5 x, evOps C g5 (nextSt s' tn tx te k v) = some s5 ∧ runIC C LF rest s5 = some x ∧ (match x.e with | .normal => Inv (d ++ [(k, v)]) x.s | .exit j => j = i1 ∧ Inv (d ++ [(k, v)]) x.s | .ret => X x)) ∧
      (∀ d s', Inv d s' → d.Perm es → X ⟨.normal, overSt s' tn tx⟩)

/-- What is known of a base world, and stays. -/
def Stays (K : Base → Prop) : Prop := ∀ B w, K B → Below B.n B.w w → B.n ≤ w.heap.size → K ⟨w.heap.size, w⟩

section
variable {P : Program} {B : Base} {E n : Nat} {K : Base → Prop} {κ : List (Nat × Loc)} {C : CallF} {LF : Nat} {kb : List Nat}

theorem mvT_some {o : Oper} {p : Nat × Nat} (h : mvT o = some p) : o.op = .move (.tmp p.1) ∧ o.dst = some p.2 ∧ o.guard = none := by
  unfold mvT at h
  split at h <;> try (cases h; done)
  split at h <;> try (cases h; done)
  split at h <;> try (cases h; done)
  cases h; exact ⟨by assumption, by assumption, by assumption⟩
theorem rgT_some {o : Oper} {p : TypeId × Nat × Nat} (h : rgT o = some p) : o.op = .range p.1 (.tmp p.2.1) ∧ o.dst = some p.2.2 ∧ o.guard = none := by
  unfold rgT at h
  split at h <;> try (cases h; done)
  split at h <;> try (cases h; done)
  split at h <;> try (cases h; done)
  cases h; exact ⟨by assumption, by assumption, by assumption⟩
theorem nxT_some {o : Oper} {p : Nat × Nat} (h : nxT o = some p) : o.op = .next (.tmp p.1) false ∧ o.dst = some p.2 ∧ o.guard = none := by
  unfold nxT at h
  split at h <;> try (cases h; done)
  split at h <;> try (cases h; done)
  split at h <;> try (cases h; done)
  cases h; exact ⟨by assumption, by assumption, by assumption⟩
theorem exT_some {o : Oper} {p : Nat × Nat} (h : exT o = some p) : o.op = .extract (.tmp p.1) 0 ∧ o.dst = some p.2 ∧ o.guard = none := by
  unfold exT at h
  split at h <;> try (cases h; done)
  split at h <;> try (cases h; done)
  split at h <;> try (cases h; done)
  cases h; exact ⟨by assumption, by assumption, by assumption⟩
theorem enT_some {o : Oper} {p : Nat × Nat} (h : enT o = some p) : o.op = .entry (.tmp p.1) ∧ o.dst = some p.2 ∧ o.guard = none := by
  unfold enT at h
  split at h <;> try (cases h; done)
  split at h <;> try (cases h; done)
  split at h <;> try (cases h; done)
  cases h; exact ⟨by assumption, by assumption, by assumption⟩
theorem isMapT_some {t : TypeId} (h : isMapT P t = true) : ∃ k e, P.underlying t = some (.map k e) := by
  unfold isMapT at h
  split at h
  · exact ⟨_, _, by assumption⟩
  · cases h

theorem JRuns.mono {C : CallF} {LF : Nat} {kb : List Nat} {X Y : XS → Prop} (h : ∀ x, X x → Y x) : ∀ (j : JC) {s : St}, JRuns C LF kb j s X → JRuns C LF kb j s Y := by
  intro j
  induction j generalizing X Y with
  | ic c => intro s hx; obtain ⟨x, h1, h2⟩ := hx; exact ⟨x, h1, h x h2⟩
  | seq a b iha ihb =>
    intro s hx
    refine iha (fun x hx => ?_) hx
    cases he : x.e with
    | normal => rw [he] at hx; exact ihb h hx
    | exit id => rw [he] at hx; exact h x hx
    | ret => rw [he] at hx; exact h x hx
  | mrange ts tm ti tn tx te i1 g5 rest =>
    intro s hx
    rcases hx with hx | ⟨b, es, Inv, r1, r2, r3, r4, r5, r6, r7⟩
    · refine .inl fun hfr => ?_
      obtain ⟨b, es, Inv, r1, r2, r4, r5, r6, r7⟩ := hx hfr
      refine ⟨b, es, Inv, r1, r2, r4, r5, r6, fun d s' hi hp => ?_⟩
      obtain ⟨rows', h1, h2⟩ := r7 d s' hi hp
      exact ⟨rows', h1, h _ h2⟩
    refine .inr ⟨b, es, Inv, r1, r2, r3, r4, r5, fun d k v l s' hi hp => ?_, fun d s' hi hp => h _ (r7 d s' hi hp)⟩
    obtain ⟨s5, x, q1, q2, q3⟩ := r6 d k v l s' hi hp
    refine ⟨s5, x, q1, q2, ?_⟩
    cases he : x.e with
    | normal => rw [he] at q3; exact q3
    | exit id => rw [he] at q3; exact q3
    | ret => rw [he] at q3; exact h x q3

theorem mapRange_ok (hm : P.follows .mixedOrders = true) (hC : ∀ B, K B → CallOK (IRof P) B P C) (hK : K B) (hS : Stays K) (hkb : ∀ b ∈ kb, ∃ L, (b, L) ∈ κ ∧ L.blk < B.n) {c : Code} {j : JC} (hj : mapRange P n c = some j) {s : St} {X : XS → Prop} (hr : JRuns C LF kb j s X) :
    RunsTo (IRof P) B P E n none κ s X c := by
  unfold mapRange at hj
  split at hj
  · rename_i id3 ops3 i0 id4 ops4 tx i0' i1 id5 ops5 rest
    split at hj
    · rename_i om orr on ox oe o5 h3 h4 h5
      obtain ⟨m, hm1, hj⟩ := bo_some.1 hj
      obtain ⟨r, hr1, hj⟩ := bo_some.1 hj
      obtain ⟨x, hx1, hj⟩ := bo_some.1 hj
      obtain ⟨e, he1, hj⟩ := bo_some.1 hj
      obtain ⟨q, hq1, hj⟩ := bo_some.1 hj
      obtain ⟨hg, hj⟩ := gd_some.1 hj
      simp only [Option.some.injEq] at hj
      subst hj
      simp only [Bool.and_eq_true, Bool.not_eq_true', beq_nat, blt_nat, decide_eq_true_eq, decide_eq_false_iff_not] at hg
      obtain ⟨⟨⟨⟨⟨⟨⟨⟨⟨a1, a2⟩, a3⟩, a4⟩, a5⟩, a6⟩, a7⟩, a8⟩, a9⟩, a10⟩ := hg
      obtain ⟨kt, et, hty⟩ := isMapT_some a9
      have e3 : ops3 = #[om, orr] := by apply Array.ext'; simpa using h3
      have e4 : ops4 = #[on, ox] := by apply Array.ext'; simpa using h4
      have e5 : ops5 = ⟨oe :: o5⟩ := by apply Array.ext'; simpa using h5
      subst e3; subst e4; subst e5; subst a6
      have ho : RangeOps n m.1 m.2 r.2.2 x.2 tx q.2 r.1 om orr on ox oe := by
        have hm' := mvT_some hm1
        have hr' := rgT_some hr1
        have hx' := nxT_some hx1
        have he' := exT_some he1
        have hq' := enT_some hq1
        rw [← a1] at hr'
        rw [← a2] at hx'
        rw [← a3, a4] at he'
        rw [← a5] at hq'
        rw [a4] at a7 a8
        exact ⟨hm', hr', hx', he', hq', ⟨a7.1.1.1.1.1, a7.1.1.1.1.2, a7.1.1.1.2, a7.1.1.2, a7.1.2, a7.2⟩, ⟨a8.1.1.1, a8.1.1.2, a8.1.2, a8.2⟩⟩
      rcases hr with hr | ⟨b, es, Inv, r1, r2, r3, r4, r5, r6, r7⟩
      · refine RunsTo.fresh fun hfr => ?_
        obtain ⟨b, es, Inv, r1, r2, r4, r5, r6, r7⟩ := hr hfr
        refine RunsTo.rebase (X1 := fun z => ∃ d s', Inv d s' ∧ d.Perm es ∧ z = ⟨.normal, overSt s' x.2 tx⟩) r2 (fun w L hbel hsz hlow => ?_) (fun x hx => ?_)
        · have hK1 := hS B w hK hbel hsz
          refine runs_maprange (n := n) (hC _ hK1) ho hty (guardsOK_some a10) (s := ⟨s.tm, (T.nil : T ARow).set b (some (.roM es)), s.nx⟩) r1 (by rw [T.get_set, if_pos rfl]) (List.mem_singleton.2 rfl) hlow Inv r4 r5 (fun d k v l s' hi hp => ?_) (fun d s' hi hp => ⟨d, s', hi, hp, rfl⟩)
          obtain ⟨s5, y, q1, q2, q3⟩ := r6 d k v l s' hi hp
          rw [a4] at q1
          refine ⟨s5, q1, ?_⟩
          refine (RunsAs.to (runs_comp (n := n) (LF := LF) hm (hC _ hK1) rest true E none (fun _ => rfl)) q2).mono fun z hz => ?_
          subst hz
          cases he : z.e with
          | normal => rw [he] at q3; exact q3
          | exit id => rw [he] at q3; exact q3
          | ret => rw [he] at q3; exact q3.elim
        · obtain ⟨d, s', hi, hp, rfl⟩ := hx
          obtain ⟨rows', h1, h2⟩ := r7 d s' hi hp
          rw [a4] at h2
          exact ⟨rows', h1, h2⟩
      obtain ⟨L, hL, hlow⟩ := hkb b r3
      refine runs_maprange (n := n) (Y := X) (hC _ hK) ho hty (guardsOK_some a10) r1 r2 hL hlow Inv r4 r5 (fun d k v l s' hi hp => ?_) (fun d s' hi hp => by rw [← a4]; exact r7 d s' hi hp)
      obtain ⟨s5, y, q1, q2, q3⟩ := r6 d k v l s' hi hp
      rw [a4] at q1
      refine ⟨s5, q1, ?_⟩
      exact (RunsAs.to (runs_comp (n := n) (LF := LF) hm (hC _ hK) rest true E none (fun _ => rfl)) q2).mono fun z hz => by subst hz; exact q3
    · cases hj
  · cases hj

theorem compJ_ok (hm : P.follows .mixedOrders = true) (hC : ∀ B, K B → CallOK (IRof P) B P C) (hK : K B) (hS : Stays K) (hkb : ∀ b ∈ kb, ∃ L, (b, L) ∈ κ ∧ L.blk < B.n) : ∀ (c : Code) {s : St} {X : XS → Prop}, JRuns C LF kb (compJ P n c) s X → RunsTo (IRof P) B P E n none κ s X c := by
  have leaf : ∀ (c : Code) {s : St} {X : XS → Prop}, JRuns C LF kb (.ic (comp P n true c)) s X → RunsTo (IRof P) B P E n none κ s X c := by
    intro c s X h
    obtain ⟨x, h1, h2⟩ := h
    exact (RunsAs.to (runs_comp (n := n) (LF := LF) hm (hC _ hK) c true E none (fun _ => rfl)) h1).mono fun z hz => by subst hz; exact h2
  intro c
  induction c with
  | seq a b iha ihb =>
    intro s X h
    rw [compJ] at h
    split at h
    · rename_i j hj
      exact mapRange_ok hm hC hK hS hkb hj h
    · have h : JRuns C LF kb (compJ P n a) s (fun x => match x.e with | .normal => JRuns C LF kb (compJ P n b) x.s X | _ => X x) := h
      refine (iha h).seq (fun x hx he => ?_) (fun x hx he => ?_)
      · rw [he] at hx; exact ihb hx
      · obtain ⟨e, s'⟩ := x
        cases e with
        | normal => exact absurd rfl he
        | _ => exact hx
  | _ =>
    intro s X h
    exact leaf _ h

/-- A call, out of the form of its function's code. -/
theorem calls_J {f : Nat} {fn : Func} {c : Code} {rs : List (Nat × Option Kd)} {j : JC} {ι : Io} {rows : T ARow} {w : World} {nx : Nat} (hm : P.follows .mixedOrders = true) (hC : ∀ B, K B → CallOK (IRof P) B P C) (hK : K B) (hS : Stays K) (hf : P.funcs[f]? = some fn) (hb : fn.body = some c) (hj : compJ P fn.ntmps c = j)
    (hrs : compRes P fn.ntmps fn.results.toList = some rs) {args : List AV} {us : List Value} (hl : args.length ≤ fn.ntmps) (h : HRel (IRof P) B ι rows w) (hfr : ∀ b, nx ≤ b → ι b = none) (ha : VRelL ι args us)
    (hkb : ∀ b ∈ kb, ∃ L, ι b = some L ∧ L.blk < B.n) {Z : R → Prop}
    (hX : JRuns C LF kb j ⟨argsT args 0 .nil, rows, nx⟩ fun x => (∀ id, x.e ≠ .exit id) ∧ ∃ vs, evRes x.s rs = some vs ∧ Z ⟨retV vs, x.s.rows, x.s.nx⟩) :
    Calls P f ⟨us⟩ w fun e w'' => ∃ r v ι', Z r ∧ e = .returned v ∧ VRel ι' r.v v ∧ Post (IRof P) B ι ι' rows w nx r.rows r.nx w'' := by
  classical
  subst hj
  let κ : List (Nat × Loc) := kb.filterMap fun b => (ι b).map fun L => (b, L)
  refine calls_to (κ := κ) hf hb hrs hl h hfr ha (compJ_ok hm hC hK hS (fun b hb => ?_) c hX) (fun p hp => ?_) (fun x hx => hx)
  · obtain ⟨L, h1, h2⟩ := hkb b hb
    exact ⟨L, List.mem_filterMap.2 ⟨b, hb, by rw [h1]; rfl⟩, h2⟩
  · obtain ⟨b, hb, hp⟩ := List.mem_filterMap.1 hp
    cases hι : ι b with
    | none => rw [hι] at hp; cases hp
    | some L => rw [hι] at hp; cases hp; exact hι
end
end Ev
end

/- An oracle out of the form of a function's code: a function that reads one map that was there, and lays new rows. -/
section
namespace Ev
open Go Go.RowKit

def noC : CallF := fun _ _ _ _ => none
theorem noC_ok {P : Program} {B : Base} : CallOK (IRof P) B P noC where
  f := fun h => by cases h
  r := fun h => by cases h
  y := fun h => by cases h

def jAt (P : Program) (f : Nat) : Option (Nat × JC × List (Nat × Option Kd)) := bo P.funcs[f]? fun fn => gd (!(fn.name == "runtime.NumGoroutine")) (bo fn.body fun c => bo (compRes P fn.ntmps fn.results.toList) fun rs => some (fn.ntmps, compJ P fn.ntmps c, rs))

theorem orc_J {P : Program} {B : Base} {K : Base → Prop} (hK : K B) (hS : Stays K) {f n : Nat} {j : JC} {rs : List (Nat × Option Kd)} (hm : P.follows .mixedOrders = true) (hj : jAt P f = some (n, j, rs)) {g : List AV → T ARow → Nat → Option R} (C : CallF) (LF : Nat)
    (hC : ∀ B, K B → CallOK (IRof P) B P C)
    (hg : ∀ args rows nx r, g args rows nx = some r → ∃ b es, (rows.get b = some (.map es) ∨ rows.get b = some (.roM es)) ∧ args.length ≤ n ∧ (b < nx → JRuns C LF [b] j ⟨argsT args 0 .nil, (T.nil : T ARow).set b (some (.roM es)), nx⟩
      fun x => (∀ id, x.e ≠ .exit id) ∧ ∃ vs, evRes x.s rs = some vs ∧ retV vs = r.v ∧ x.s.nx = r.nx ∧ ∀ b' q, r.rows.get b' = some q → rows.get b' = some q ∨ (x.s.rows.get b' = some q ∧ q.isRo = false))) : OrcOK B P f g := by
  intro ι rows w nx args us r he h hfr ha
  obtain ⟨fn, hf, hj1⟩ := bo_some.1 hj
  obtain ⟨hname, hj2⟩ := gd_some.1 hj1
  obtain ⟨c, hb, hj3⟩ := bo_some.1 hj2
  obtain ⟨rs', hrs, hj4⟩ := bo_some.1 hj3
  simp only [Option.some.injEq, Prod.mk.injEq] at hj4
  obtain ⟨rfl, hjc, rfl⟩ := hj4
  obtain ⟨b, es, hbr, hl, hJ⟩ := hg args rows nx r he
  have hn : fn.name ≠ "runtime.NumGoroutine" := by simpa using hname
  rw [callFunc_enter hf (by rw [hb]; rfl) hn w]
  refine ⟨rfl, ?_⟩
  have h0 := HRel.readMap h hbr
  have hιb : ∃ L, ι b = some L := by
    obtain ⟨L, o, h1, _⟩ := h0.row b _ (by rw [T.get_set, if_pos rfl])
    exact ⟨L, h1⟩
  obtain ⟨L, hL⟩ := hιb
  have hbn : b < nx := by
    rcases Nat.lt_or_ge b nx with h1 | h1
    · exact h1
    · rw [hfr b h1] at hL; cases hL
  have hlow := HRel.readMap_low h0
  have hcall := calls_J (kb := [b]) (Z := fun r' => r'.v = r.v ∧ r'.nx = r.nx ∧ ∀ b' q, r.rows.get b' = some q → rows.get b' = some q ∨ (r'.rows.get b' = some q ∧ q.isRo = false)) hm hC (hS B w hK h.below h.room) hS hf hb hjc hrs hl h0 hfr ha (fun b' hb' => by
    simp only [List.mem_singleton] at hb'
    subst hb'
    exact ⟨L, hL, hlow L hL⟩) (LF := LF) (by
    have := hJ hbn
    refine JRuns.mono (fun x hx => ?_) j this
    obtain ⟨h1, vs, h2, h3, h4, h5⟩ := hx
    exact ⟨h1, vs, h2, h3, h4, h5⟩)
  refine Calls.mono hcall fun e w'' he' => ?_
  obtain ⟨r', v, ι', ⟨h1, h2, h3⟩, rfl, h4, h5⟩ := he'
  rw [h2] at h5
  rw [h1] at h4
  exact ⟨v, ι', rfl, h4, Post.rebase h h5 h3⟩
end Ev
end

/- A package variable's table in the world at the start: tables of answers, closed runs, rows that are turned in place. -/
section
namespace Ev
open Go Go.RowKit

/-- Package variable g holds such cells. -/
def PowW (g : Nat) (tbl : List AV) (w : World) : Prop := ∃ c e fz, w.heap[g]? = some (.cells c e fz) ∧ CellsAt (fun _ => none) c 0 tbl
def KG (g : Nat) (tbl : List AV) (B : Base) : Prop := g < B.n ∧ PowW g tbl B.w
theorem KG.stays {g : Nat} {tbl : List AV} : Stays (KG g tbl) := by
  intro B w ⟨h1, c, e, fz, h2, h3⟩ hb hs
  exact ⟨Nat.lt_of_lt_of_le h1 hs, c, e, fz, by rw [hb.block g h1]; exact h2, h3⟩
theorem PowW.kg {g : Nat} {tbl : List AV} {w : World} (h : PowW g tbl w) : KG g tbl ⟨w.heap.size, w⟩ := by
  obtain ⟨c, e, fz, h1, h2⟩ := h
  exact ⟨(Array.getElem?_eq_some_iff.1 h1).1, c, e, fz, h1, h2⟩
theorem KG.at {g : Nat} {tbl : List AV} {B : Base} {IR : Nat → IC → Code → Prop} {ι : Io} {rows : T ARow} {w : World} (h : KG g tbl B) (hh : HRel IR B ι rows w) : PowW g tbl w := by
  obtain ⟨h1, c, e, fz, h2, h3⟩ := h
  exact ⟨c, e, fz, by rw [hh.below.block g h1]; exact h2, h3⟩

noncomputable def g0 (g : Nat) (tbl : List AV) : T ARow := (T.nil : T ARow).set g (some (.ro (Nat.succ g) tbl))
def ι0 (g : Nat) : Io := fun b => if b = g then some ⟨g, 0, 0⟩ else none
theorem g0_get {g : Nat} {tbl : List AV} {b : Nat} {q : ARow} (e : (g0 g tbl).get b = some q) : b = g ∧ q = .ro (g+1) tbl := by
  unfold g0 at e
  rw [T.get_set] at e
  split at e
  · rename_i hb
    simp only [Option.some.injEq] at e
    exact ⟨hb, e.symm⟩
  · rw [T.get_nil] at e; cases e
theorem g0_rel {g : Nat} {tbl : List AV} {w : World} {IR : Nat → IC → Code → Prop} (h : PowW g tbl w) : HRel IR ⟨w.heap.size, w⟩ (ι0 g) (g0 g tbl) w := by
  obtain ⟨c, e, fz, h1, h2⟩ := h
  refine ⟨fun b q e' => ?_, fun b1 b2 q1 q2 L1 L2 e1 e2 _ _ _ _ => ?_, fun b q L e' _ hro => ?_, .refl _ _, Nat.le_refl _⟩
  · obtain ⟨rfl, rfl⟩ := g0_get e'
    exact ⟨⟨b, 0, 0⟩, _, if_pos rfl, h1, .ro (h2.mono fun b L e => by cases e) (.inr ⟨rfl, rfl⟩)⟩
  · rw [(g0_get e1).1, (g0_get e2).1]
  · obtain ⟨rfl, rfl⟩ := g0_get e'
    cases hro

section
variable {P : Program} {B : Base} {g : Nat} {tbl : List AV}

theorem closedG {orc : Nat → Option (List AV → T ARow → Nat → Option R)} {fns : T IFn} {LF fuel f : Nat} (hm : P.follows .mixedOrders = true) (hfns : Tied P fns) (horc : ∀ (B : Base), KG g tbl B → ∀ f o, orc f = some o → OrcOK B P f o) {v : Value} {a : AV}
    (he : (bo (evCall orc fns LF fuel (.r f) [] (g0 g tbl) (Nat.succ g)) fun r => some r.v) = some a) (hv : ∀ ι u, VRel ι a u → u = v) (w : World) (hw : PowW g tbl w) : Calls P f #[] w fun e w' => e = .returned v ∧ Below w.heap.size w w' := by
  obtain ⟨r, h1, h2⟩ := bo_some.1 he
  simp only [Option.some.injEq] at h2
  have hC := evCall_ok (B := ⟨w.heap.size, w⟩) (LF := LF) hm hfns (horc _ hw.kg) fuel
  obtain ⟨_, h3⟩ := hC.r h1 (g0_rel hw) (fun b hb => if_neg (by omega)) .nil
  refine Calls.mono h3 fun e w' he' => ?_
  obtain ⟨u, ι', rfl, h4, h5⟩ := he'
  rw [h2] at h4
  exact ⟨by rw [hv ι' u h4], h5.hrel.below⟩

/-- A row of a table of answers. -/
def RowG (P : Program) (g : Nat) (tbl : List AV) (f : Nat) (e : List AV × AV) : Prop := ∀ (ι : Io) (us : List Value) (w : World), PowW g tbl w → VRelL ι e.1 us → (callFunc f ⟨us⟩).run P w = .ok (.enter f ⟨us⟩) w ∧ Calls P f ⟨us⟩ w fun en w' => ∃ u, en = .returned u ∧ VRel ι e.2 u ∧ Below w.heap.size w w'

theorem row_okG {orc : Nat → Option (List AV → T ARow → Nat → Option R)} {fns : T IFn} {LF fuel f : Nat} (hm : P.follows .mixedOrders = true) (hfns : Tied P fns) (horc : ∀ (B : Base), KG g tbl B → ∀ f o, orc f = some o → OrcOK B P f o) {args : List AV} {a : AV}
    (he : (bo (evCall orc fns LF fuel (.r f) args (g0 g tbl) (Nat.succ g)) fun r => gd (flatL args && flat r.v) (some r.v)) = some a) : RowG P g tbl f (args, a) := by
  intro ι us w hw hu
  obtain ⟨r, h1, h2⟩ := bo_some.1 he
  obtain ⟨h3, h4⟩ := gd_some.1 h2
  simp only [Bool.and_eq_true] at h3
  simp only [Option.some.injEq] at h4
  have hC := evCall_ok (B := ⟨w.heap.size, w⟩) (LF := LF) hm hfns (horc _ hw.kg) fuel
  obtain ⟨q1, q2⟩ := hC.r h1 (g0_rel hw) (fun b hb => if_neg (by omega)) (flatL_rel h3.1 hu)
  refine ⟨q1, Calls.mono q2 fun e w' he' => ?_⟩
  obtain ⟨u, ι', rfl, h5, h6⟩ := he'
  refine ⟨u, rfl, ?_, h6.hrel.below⟩
  rw [← h4]
  exact flat_rel h3.2 h5

theorem memo_okG {f : Nat} {t : List (List AV × AV)} (hK : KG g tbl B) (h : ∀ e ∈ t, RowG P g tbl f e) : OrcOK B P f (memo t) := by
  intro ι rows w nx args us r he hh hfr ha
  obtain ⟨v, h1, h2⟩ := bo_some.1 he
  simp only [Option.some.injEq] at h2
  subst h2
  obtain ⟨q1, q2⟩ := h _ (lookM_some h1) ι us w (hK.at hh) ha
  rw [q1]
  refine ⟨rfl, Calls.mono q2 fun e w' he' => ?_⟩
  obtain ⟨u, rfl, h3, h4⟩ := he'
  refine ⟨u, ι, rfl, h3, ?_⟩
  have hb : ∀ k, k < w.heap.size → w'.heap[k]? = w.heap[k]? := fun k hk => h4.block k hk
  have hs : w.heap.size ≤ w'.heap.size := h4.size
  refine ⟨.refl _, fun _ _ _ => rfl, fun _ _ => rfl, Nat.le_refl _, ⟨fun b r e => ?_, hh.inj, hh.low, ?_, Nat.le_trans hh.room hs⟩, fun k hk _ => hb k hk, hs, fun k hk => .inl hk⟩
  · obtain ⟨L, o, g1, g2, g3⟩ := hh.row b r e
    exact ⟨L, o, g1, by rw [hb _ (Array.getElem?_eq_some_iff.1 g2).1]; exact g2, g3⟩
  · refine hh.below.trans ⟨h4.os, h4.tape, h4.output, ?_, fun k hk => hb k (by have := hh.room; omega)⟩
    omega

/-! ### a row that is turned in place -/
/-- Rows that a function turns, by a table. -/
noncomputable def lookR (t : List (List AV × List AV)) (l : List AV) : Option (List AV) := List.rec none (fun e _ ih => match sameL e.1 l with | true => some e.2 | false => ih) t
theorem lookR_some : ∀ {t : List (List AV × List AV)} {l m : List AV}, lookR t l = some m → (l, m) ∈ t
  | [], _, _, h => by cases h
  | e :: t, l, m, h => by
    have h : (match sameL e.1 l with | true => some e.2 | false => lookR t l) = some m := h
    cases hs : sameL e.1 l with
    | true =>
      rw [hs] at h
      simp only [Option.some.injEq] at h
      have := sameL_eq hs
      rw [← this, ← h]
      exact List.mem_cons_self
    | false =>
      rw [hs] at h
      exact List.mem_cons_of_mem _ (lookR_some h)
noncomputable def turnO (tg sz k fv : Nat) (t : List (List AV × List AV)) : Orc := fun args rows nx => match args with
  | s :: h :: e => (match s with
    | .slice b o len c => (match c with
      | .op z => (match h with
        | .fn f cap => (match cap with
          | [] => (match e with
            | [] => gd (Nat.beq o 0 && (Nat.beq len k && (Nat.beq z sz && Nat.beq f fv))) (asCells (rows.get b) fun g l => gd (Nat.beq g tg) (bo (lookR t l) fun m => some ⟨.tup [], rows.set b (some (.cells g m)), nx⟩))
            | _ => none)
          | _ => none)
        | _ => none)
      | _ => none)
    | _ => none)
  | _ => none

/-- A row of such a table: a run over that row alone. -/
def TurnOK (ev : List AV → T ARow → Nat → Option R) (tg sz k fv : Nat) (e : List AV × List AV) : Prop :=
  flatL e.1 = true ∧ flatL e.2 = true ∧ ∃ r, ev [.slice 0 0 k (.op sz), .fn fv []] ((T.nil : T ARow).set 0 (some (.cells tg e.1))) 1 = some r ∧ r.v = .tup [] ∧ r.rows.get 0 = some (.cells tg e.2)

theorem cells_flat {ι ι' : Io} {c : Array Value} {o : Nat} {l : List AV} (hl : flatL l = true) (h : CellsAt ι c o l) : CellsAt ι' c o l := by
  intro i a ha
  obtain ⟨v, h1, h2, h3⟩ := h i a ha
  refine ⟨v, h1, ?_, h3⟩
  have : ∀ {l : List AV} {i : Nat} {a : AV}, flatL l = true → l[i]? = some a → flat a = true := by
    intro l
    induction l with
    | nil => intro i a _ h; simp at h
    | cons x l ih =>
      intro i a hf h
      simp only [flatL, Bool.and_eq_true] at hf
      cases i with
      | zero => simp at h; subst h; exact hf.1
      | succ i => exact ih hf.2 (by simpa using h)
  exact flat_rel (this hl ha) h2

theorem turn_ok {orc : Nat → Option (List AV → T ARow → Nat → Option R)} {fns : T IFn} {LF fuel f tg sz k fv : Nat} {t : List (List AV × List AV)} (hm : P.follows .mixedOrders = true) (hfns : Tied P fns) (horc : ∀ f o, orc f = some o → OrcOK B P f o)
    (ht : ∀ e ∈ t, TurnOK (evCall orc fns LF fuel (.r f)) tg sz k fv e) : OrcOK B P f (turnO tg sz k fv t) := by
  intro ι rows w nx args us r he h hfr ha
  unfold turnO at he
  repeat (split at he <;> try (cases he; done))
  rename_i b o len _ z _ f' _ _
  obtain ⟨hg, he2⟩ := gd_some.1 he
  simp only [beq_nat, Bool.and_eq_true, decide_eq_true_eq] at hg
  obtain ⟨rfl, rfl, rfl, rfl⟩ := hg
  obtain ⟨g', l, hb, he3⟩ := asCells_some.1 he2
  obtain ⟨hg', he4⟩ := gd_some.1 he3
  rw [beq_nat] at hg'
  simp only [decide_eq_true_eq] at hg'
  subst hg'
  obtain ⟨m, hl, he5⟩ := bo_some.1 he4
  simp only [Option.some.injEq] at he5
  subst he5
  obtain ⟨f1, f2, r, hr, hv, hr0⟩ := ht _ (lookR_some hl)
  obtain ⟨L, ob, hL, hw, hrel⟩ := h.row b _ hb
  let ιx : Io := fun q => if q = 0 then some L else none
  have hιx : ιx 0 = some L := if_pos rfl
  have hget : ∀ b' q, ((T.nil : T ARow).set 0 (some (.cells g' l))).get b' = some q → b' = 0 ∧ q = .cells g' l := fun b' q e => by
    rw [T.get_set] at e
    split at e
    · rename_i hb'
      simp only [Option.some.injEq] at e
      exact ⟨hb', e.symm⟩
    · rw [T.get_nil] at e; cases e
  have h0 : HRel (IRof P) B ιx ((T.nil : T ARow).set 0 (some (.cells g' l))) w := by
    refine ⟨fun b' q e => ?_, fun b1 b2 q1 q2 L1 L2 e1 e2 _ _ _ _ => ?_, fun b' q L' e i hro => ?_, h.below, h.room⟩
    · obtain ⟨rfl, rfl⟩ := hget b' q e
      refine ⟨L, ob, hιx, hw, ?_⟩
      cases hrel with
      | cells a1 a2 a3 a4 a5 => exact .cells a1 (cells_flat f1 a2) a3 a4 a5
    · rw [(hget _ _ e1).1, (hget _ _ e2).1]
    · obtain ⟨rfl, rfl⟩ := hget b' q e
      rw [hιx] at i; cases i
      exact h.low b _ L hb hL rfl
  have ha0 : VRelL ιx [.slice 0 0 len (.op z), .fn f' []] us := by
    cases ha with
    | cons a1 t1 => cases t1 with
      | cons a2 t2 =>
        cases t2
        refine .cons ?_ (.cons ?_ .nil)
        · cases a1 with
          | sliceOp i1 i2 i3 =>
            rw [hL] at i1; cases i1
            exact .sliceOp hιx i2 i3
        · cases a2 with
          | fn hl => cases hl; exact .fn .nil
  have hC := evCall_ok (B := B) (LF := LF) hm hfns horc fuel
  obtain ⟨q1, q2⟩ := hC.r hr h0 (fun b hb => if_neg (by omega)) ha0
  rw [q1]
  refine ⟨rfl, Calls.mono q2 fun e w' he' => ?_⟩
  obtain ⟨u, ι', rfl, h5, h6⟩ := he'
  rw [hv] at h5
  refine ⟨u, ι, rfl, by cases h5 with | tup h => cases h; exact .tup .nil, ?_⟩
  have hnot : ∀ k, k ≠ L.blk → ¬ Owns ιx ((T.nil : T ARow).set 0 (some (.cells g' l))) k := by
    rintro k hk ⟨b', q, L', e, i, rfl⟩
    obtain ⟨rfl, rfl⟩ := hget b' q e
    rw [hιx] at i; cases i
    exact hk rfl
  obtain ⟨L', o', k1, k2, k3⟩ := h6.hrel.row 0 _ hr0
  have := h6.ext _ _ hιx
  rw [this] at k1; cases k1
  have hLs : L.blk < w.heap.size := (Array.getElem?_eq_some_iff.1 hw).1
  have hg2 : ∀ b' q, (rows.set b (some (.cells g' m))).get b' = some q → (b' = b ∧ q = .cells g' m) ∨ (b' ≠ b ∧ rows.get b' = some q) := fun b' q e => by
    rw [T.get_set] at e
    split at e
    · rename_i hb'
      simp only [Option.some.injEq] at e
      exact .inl ⟨hb', e.symm⟩
    · rename_i hb'; exact .inr ⟨hb', e⟩
  have hold : ∀ b' q, (rows.set b (some (.cells g' m))).get b' = some q → ∃ q', rows.get b' = some q' ∧ (q.isRo = false → q'.isRo = false) := fun b' q e => by
    rcases hg2 b' q e with ⟨rfl, rfl⟩ | ⟨_, h2⟩
    · exact ⟨_, hb, fun _ => rfl⟩
    · exact ⟨q, h2, id⟩
  refine ⟨.refl _, fun _ _ _ => rfl, fun _ _ => rfl, Nat.le_refl _, ⟨fun b' q e => ?_, fun b1 b2 q1 q2 L1 L2 e1 e2 ho12 i1 i2 hk => ?_, fun b' q L' e i hro => ?_, h6.hrel.below, h6.hrel.room⟩, fun k hk ho => h6.frame k hk (hnot k fun e => ho ⟨b, _, L, hb, hL, e.symm⟩), h6.size, fun k ⟨b', q, L', e, i, hk⟩ => ?_⟩
  · rcases hg2 b' q e with ⟨rfl, rfl⟩ | ⟨h1, h2⟩
    · refine ⟨L, o', hL, k2, ?_⟩
      cases k3 with
      | cells a1 a2 a3 a4 a5 => exact .cells a1 (cells_flat f2 a2) a3 a4 a5
    · obtain ⟨M, om, j1, j2, j3⟩ := h.row b' q h2
      refine ⟨M, om, j1, ?_, j3⟩
      rw [h6.frame _ (Array.getElem?_eq_some_iff.1 j2).1 (hnot _ fun e => h1 (h.inj b' b q _ M L h2 hb (.inr rfl) j1 hL e))]
      exact j2
  · obtain ⟨_, e1', f1⟩ := hold b1 q1 e1
    obtain ⟨_, e2', f2⟩ := hold b2 q2 e2
    exact h.inj b1 b2 _ _ L1 L2 e1' e2' (ho12.imp f1 f2) i1 i2 hk
  · obtain ⟨_, e', hr'⟩ := hold b' q e
    exact h.low b' _ L' e' i (hr' hro)
  · obtain ⟨_, e', _⟩ := hold b' q e
    exact .inl ⟨b', _, L', e', i, hk⟩
end
end Ev
end

/- An oracle out of the form of a function's code: a function that hands back a slice of its own. -/
section
namespace Ev
open Go Go.RowKit

theorem Post.sub {IR : Nat → IC → Code → Prop} {B : Base} {ι ι' : Io} {rows rows' rows2 : T ARow} {w w' : World} {nx nx' : Nat} (h : Post IR B ι ι' rows w nx rows' nx' w') (hs : RLe rows2 rows') : Post IR B ι ι' rows w nx rows2 nx' w' :=
  ⟨h.ext, h.new, h.old, h.le, h.hrel.sub hs, h.frame, h.size, fun k ⟨b, q, L, e, i, hk⟩ => h.own k ⟨b, q, L, hs _ _ e, i, hk⟩⟩

theorem orc_J2 {P : Program} {B : Base} {K : Base → Prop} (hK : K B) (hS : Stays K) {f n : Nat} {j : JC} {rs : List (Nat × Option Kd)} (hm : P.follows .mixedOrders = true) (hj : jAt P f = some (n, j, rs)) {g : List AV → T ARow → Nat → Option R} (C : CallF) (LF : Nat)
    (hC : ∀ B, K B → CallOK (IRof P) B P C)
    (hg : ∀ args rows nx r, g args rows nx = some r → args.length ≤ n ∧ ∃ k sz v2 cl rowsr N, r = ⟨.tup [.slice N 0 k (.op sz), v2], rowsr, N + 1⟩ ∧ flat v2 = true ∧ cl.isRo = false ∧ JRuns C LF [] j ⟨argsT args 0 .nil, rows, nx⟩
      fun x => (∀ id, x.e ≠ .exit id) ∧ ∃ vs id, evRes x.s rs = some vs ∧ retV vs = .tup [.slice id 0 k (.op sz), v2] ∧ x.s.rows.get id = some cl ∧ x.s.nx = N ∧ ∀ b' q, rowsr.get b' = some q → (b' = N ∧ q = cl) ∨ (b' ≠ id ∧ b' ≠ N ∧ x.s.rows.get b' = some q)) : OrcOK B P f g := by
  intro ι rows w nx args us r he h hfr ha
  obtain ⟨fn, hf, hj1⟩ := bo_some.1 hj
  obtain ⟨hname, hj2⟩ := gd_some.1 hj1
  obtain ⟨c, hb, hj3⟩ := bo_some.1 hj2
  obtain ⟨rs', hrs, hj4⟩ := bo_some.1 hj3
  simp only [Option.some.injEq, Prod.mk.injEq] at hj4
  obtain ⟨rfl, hjc, rfl⟩ := hj4
  obtain ⟨hl, k, sz, v2, cl, rowsr, N, rfl, hv2, hro, hJ⟩ := hg args rows nx r he
  have hn : fn.name ≠ "runtime.NumGoroutine" := by simpa using hname
  rw [callFunc_enter hf (by rw [hb]; rfl) hn w]
  refine ⟨rfl, ?_⟩
  have hcall := calls_J (kb := []) (Z := fun r' => ∃ id, r'.v = .tup [.slice id 0 k (.op sz), v2] ∧ r'.rows.get id = some cl ∧ r'.nx = N ∧ ∀ b' q, rowsr.get b' = some q → (b' = N ∧ q = cl) ∨ (b' ≠ id ∧ b' ≠ N ∧ r'.rows.get b' = some q)) hm hC hK hS hf hb hjc hrs hl h hfr ha (fun b' hb' => by cases hb') (LF := LF) (by
    refine JRuns.mono (fun x hx => ?_) j hJ
    obtain ⟨h1, vs, id, h2, h3, h4, h5, h6⟩ := hx
    exact ⟨h1, vs, h2, id, h3, h4, h5, h6⟩)
  refine Calls.mono hcall fun e w'' he' => ?_
  obtain ⟨r', v, ι', ⟨id, h1, h2, h3, h4⟩, rfl, h5, h6⟩ := he'
  rw [h1] at h5
  rw [h3] at h6
  obtain ⟨L, o, g1, g2, g3⟩ := h6.hrel.row id cl h2
  have hNf : ι' N = none := post_fresh h6 hfr N (Nat.le_refl _)
  obtain ⟨ι2, q1, q2⟩ := Post.rebind (nx := N) (L' := L) (r := cl) hro h6.hrel hNf h2 g1 rfl g2 (fun ι2 he => g3.mono he) (fun _ _ => rfl) rfl (.refl _ _)
  have hle : RLe rowsr ((r'.rows.set id none).set N (some cl)) := fun b' q hq => by
    rcases h4 b' q hq with ⟨rfl, rfl⟩ | ⟨k1, k2, k3⟩
    · rw [T.get_set, if_pos rfl]
    · rw [T.get_set, if_neg k2, T.get_set, if_neg k1]; exact k3
  refine ⟨v, ι2, rfl, ?_, (h6.trans q2).sub hle⟩
  cases h5 with
  | tup t =>
    cases t with
    | cons a1 t => cases t with
      | cons a2 t =>
        cases t
        refine .tup (.cons ?_ (.cons (flat_rel hv2 a2) .nil))
        cases a1 with
        | sliceOp i1 i2 i3 =>
          rw [g1] at i1; cases i1
          exact .sliceOp q1 i2 i3
end Ev
end

/- An oracle for the index of a byte that the kernel runs fast; several oracles; tables by a check. -/
section
namespace Ev
open Go Go.RowKit

noncomputable def idxK (l : List UInt8) (c : Nat) : Nat → Int := List.rec (motive := fun _ => Nat → Int) (fun _ => .negSucc 0) (fun a _ ih i => Bool.rec (ih (Nat.succ i)) (.ofNat i) (Nat.beq a.toNat c)) l

theorem idxS_eq (l : List UInt8) (c : UInt8) : idxS l c = idxK l c.toNat 0 := by
  have key : ∀ (l : List UInt8) (k : Nat), (match (List.range l.length).find? (fun i => l[i]! == c) with | some i => Int.ofNat (k + i) | none => .negSucc 0) = idxK l c.toNat k := by
    intro l
    induction l with
    | nil => intro k; rfl
    | cons a l ih =>
      intro k
      have hs : (List.range (a :: l).length).find? (fun i => (a :: l)[i]! == c) = if (a == c) = true then some 0 else ((List.range l.length).find? fun i => l[i]! == c).map Nat.succ := by
        rw [List.length_cons, List.range_succ_eq_map, List.find?_cons]
        simp only [List.getElem!_cons_zero]
        cases hac : a == c with
        | true => simp
        | false =>
          simp only [Bool.false_eq_true, if_false, List.find?_map]
          congr 1
      rw [hs]
      show _ = (Bool.rec (motive := fun _ => Int) (idxK l c.toNat (Nat.succ k)) (.ofNat k) (Nat.beq a.toNat c.toNat) : Int)
      rw [beq_nat]
      by_cases hac : a = c
      · subst hac; simp
      · have h1 : (a == c) = false := by simpa using hac
        have h2 : decide (a.toNat = c.toNat) = false := decide_eq_false fun h => hac (UInt8.toNat_inj.1 h)
        rw [h1, h2]
        simp only [Bool.false_eq_true, if_false]
        rw [← ih (Nat.succ k)]
        cases (List.range l.length).find? fun i => l[i]! == c with
        | none => rfl
        | some i =>
          show Int.ofNat (k + Nat.succ i) = Int.ofNat (Nat.succ k + i)
          congr 1; omega
  have := key l 0
  unfold idxS
  rw [← this]
  have e1 : (⟨⟨l⟩⟩ : ByteArray).size = l.length := rfl
  have e2 : (fun i : Nat => (⟨⟨l⟩⟩ : ByteArray)[i]! == c) = fun i : Nat => l[i]! == c := by
    funext i
    congr 1
    by_cases hi : i < l.length
    · have h1 : i < (⟨⟨l⟩⟩ : ByteArray).size := hi
      rw [getElem!_pos (⟨⟨l⟩⟩ : ByteArray) i h1, getElem!_pos l i hi]
      rfl
    · have h1 : ¬ i < (⟨⟨l⟩⟩ : ByteArray).size := hi
      rw [getElem!_neg (⟨⟨l⟩⟩ : ByteArray) i h1, getElem!_neg l i hi]
  rw [e1, e2]
  simp only [Nat.zero_add]
  cases (List.range l.length).find? (fun i : Nat => l[i]! == c) <;> rfl

noncomputable def oIdx : Orc := fun a rows nx => match a with
  | x :: y :: l => asStr x fun s => asInt y fun k c => (match l with
    | [] => gd (k == .u8) (rv rows nx (.int .i64 (idxK s (Nat.mod c.toNat 256) 0)))
    | _ => none)
  | _ => none
theorem oIdx_eq {a : List AV} {rows : T ARow} {nx : Nat} {r : R} (h : oIdx a rows nx = some r) : oIndexByte a rows nx = some r := by
  unfold oIdx at h
  split at h
  · obtain ⟨s, rfl, h1⟩ := asStr_some.1 h
    obtain ⟨k, c, rfl, h2⟩ := asInt_some.1 h1
    split at h2
    · obtain ⟨hk, h3⟩ := gd_some.1 h2
      simp only [beq_iff_eq] at hk
      subst hk
      rw [← h3]
      show rv rows nx (.int .i64 (idxS s c.toNat.toUInt8)) = _
      rw [idxS_eq]
      congr 3
    · cases h2
  · cases h

/-- Oracles side by side. -/
noncomputable def orcL (l : List (Nat × Orc)) (f : Nat) : Option Orc := List.rec none (fun e _ ih => Bool.rec ih (some e.2) (Nat.beq f e.1)) l
theorem orcL_ok {B : Base} {P : Program} : ∀ {l : List (Nat × Orc)}, (∀ e ∈ l, OrcOK B P e.1 e.2) → ∀ f o, orcL l f = some o → OrcOK B P f o
  | [], _, f, o, h => by cases h
  | e :: l, hl, f, o, h => by
    have h : Bool.rec (orcL l f) (some e.2) (Nat.beq f e.1) = some o := h
    rw [beq_nat] at h
    by_cases hf : f = e.1
    · rw [decide_eq_true hf] at h
      simp only [Option.some.injEq] at h
      subst h; subst hf
      exact hl e (by simp)
    · rw [decide_eq_false hf] at h
      exact orcL_ok (fun e he => hl e (by simp [he])) f o h

/-- The same value, by sight; a tuple too. -/
def sameT (v w : AV) : Bool := match v with
  | .tup l => (match w with | .tup m => sameL l m | _ => false)
  | v => sameV v w
theorem sameT_eq {v w : AV} (h : sameT v w = true) : v = w := by
  unfold sameT at h
  split at h
  · split at h
    · rw [sameL_eq h]
    · cases h
  · exact sameV_eq h
/-- A table is right, by a run of each row. -/
noncomputable def allG (ev : List AV → Option R) (t : List (List AV × AV)) : Bool := List.rec true (fun e _ ih => match bo (ev e.1) (fun r => gd (flatL e.1 && flat r.v) (some r.v)) with | some v => (match sameT v e.2 with | true => ih | false => false) | none => false) t
theorem allG_ok {ev : List AV → Option R} : ∀ {t : List (List AV × AV)}, allG ev t = true → ∀ e ∈ t, bo (ev e.1) (fun r => gd (flatL e.1 && flat r.v) (some r.v)) = some e.2
  | [], _, e, he => by cases he
  | a :: t, h, e, he => by
    have h : (match bo (ev a.1) (fun r => gd (flatL a.1 && flat r.v) (some r.v)) with | some v => (match sameT v a.2 with | true => allG ev t | false => false) | none => false) = true := h
    cases hv : bo (ev a.1) (fun r => gd (flatL a.1 && flat r.v) (some r.v)) with
    | none => rw [hv] at h; cases h
    | some v =>
      rw [hv] at h
      simp only at h
      cases hs : sameT v a.2 with
      | false => rw [hs] at h; cases h
      | true =>
        rw [hs] at h
        rcases List.mem_cons.1 he with rfl | he
        · rw [hv, sameT_eq hs]
        · exact allG_ok h e he

noncomputable def turnB (ev : List AV → T ARow → Nat → Option R) (tg sz k fv : Nat) (e : List AV × List AV) : Bool :=
  match flatL e.1 && flatL e.2 with
  | true => (match ev [.slice 0 0 k (.op sz), .fn fv []] ((T.nil : T ARow).set 0 (some (.cells tg e.1))) 1 with
    | some r => (match r.v with
      | .tup l => (match l with
        | [] => (match r.rows.get 0 with
          | some (.cells g l) => (match Nat.beq g tg with | true => sameL l e.2 | false => false)
          | _ => false)
        | _ => false)
      | _ => false)
    | none => false)
  | false => false
theorem turnB_ok {ev : List AV → T ARow → Nat → Option R} {tg sz k fv : Nat} {e : List AV × List AV} (h : turnB ev tg sz k fv e = true) : TurnOK ev tg sz k fv e := by
  unfold turnB at h
  split at h
  · rename_i hf
    simp only [Bool.and_eq_true] at hf
    split at h
    · rename_i r hr
      split at h
      · rename_i l hv
        split at h
        · split at h
          · rename_i g l' hg
            split at h
            · rename_i hgt
              rw [beq_nat] at hgt
              simp only [decide_eq_true_eq] at hgt
              subst hgt
              exact ⟨hf.1, hf.2, r, hr, hv, by rw [hg, sameL_eq h]⟩
            · cases h
          · cases h
        · cases h
      · cases h
    · cases h
  · cases h
noncomputable def allR (p : List AV × List AV → Bool) (t : List (List AV × List AV)) : Bool := List.rec true (fun e _ ih => match p e with | true => ih | false => false) t
theorem allR_ok {p : List AV × List AV → Bool} : ∀ {t : List (List AV × List AV)}, allR p t = true → ∀ e ∈ t, p e = true
  | [], _, e, he => by cases he
  | a :: t, h, e, he => by
    have h : (match p a with | true => allR p t | false => false) = true := h
    cases hp : p a with
    | false => rw [hp] at h; cases h
    | true =>
      rw [hp] at h
      rcases List.mem_cons.1 he with rfl | he
      · exact hp
      · exact allR_ok h e he

/-- A table, and a run where it has no row. -/
noncomputable def memoE (ev : Tg → List AV → T ARow → Nat → Option R) (f : Nat) (t : List (List AV × AV)) : Orc := fun args rows nx => match lookM t args with
  | some v => some ⟨v, rows, nx⟩
  | none => ev (.r f) args rows nx
theorem memoE_ok {P : Program} {B : Base} {g : Nat} {tbl : List AV} {orc : Nat → Option Orc} {fns : T IFn} {LF fuel f : Nat} {t : List (List AV × AV)} (hm : P.follows .mixedOrders = true) (hfns : Tied P fns) (horc : ∀ f o, orc f = some o → OrcOK B P f o) (hK : KG g tbl B) (h : ∀ e ∈ t, RowG P g tbl f e) :
    OrcOK B P f (memoE (evCall orc fns LF fuel) f t) := by
  intro ι rows w nx args us r he hh hfr ha
  unfold memoE at he
  split at he
  · rename_i v hv
    refine memo_okG hK h (r := r) ?_ hh hfr ha
    show bo (lookM t args) (fun v => some ⟨v, rows, nx⟩) = some r
    rw [hv]; exact he
  · have hC := evCall_ok (B := B) (LF := LF) hm hfns horc fuel
    obtain ⟨q1, q2⟩ := hC.r he hh hfr ha
    rw [q1]
    exact ⟨rfl, q2⟩
end Ev
end

/- Short words for the evaluator's code. -/
section
namespace Ev.I
def m (d s : Nat) : GOp := ⟨none, d, .mv, [.t s]⟩
def o (d : Nat) (k : K) (xs : List Opd) : GOp := ⟨none, d, k, xs⟩
def o0 (d : Nat) (k : K) : GOp := ⟨none, d, k, []⟩
def o1 (d : Nat) (k : K) (a : Nat) : GOp := ⟨none, d, k, [.t a]⟩
def o2 (d : Nat) (k : K) (a b : Nat) : GOp := ⟨none, d, k, [.t a, .t b]⟩
def o3 (d : Nat) (k : K) (a b c : Nat) : GOp := ⟨none, d, k, [.t a, .t b, .t c]⟩
def g (t d : Nat) (k : K) (xs : List Opd) : GOp := ⟨some (t, true), d, k, xs⟩
def h (t d : Nat) (k : K) (xs : List Opd) : GOp := ⟨some (t, false), d, k, xs⟩
def k (n : Nat) : Opd := .c (.int .i64 (.ofNat n))
def k8 (n : Nat) : Opd := .c (.int .u8 (.ofNat n))
def q (l : List GOp) (x : IC) : IC := .seq (.ops l) x
def s (x y : IC) : IC := .seq x y
def c (n : Nat) (x y : IC) : IC := .cond (.t n) x y
def dp (i n : Nat) (g : GOp) : DOp := ⟨i, .p, [], n, n, false, g⟩
def dl (i n : Nat) (g : GOp) : DOp := ⟨i, .l, [], n, n, false, g⟩
end Ev.I
end
