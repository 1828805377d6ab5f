/- A function out of its code, the states at its end given as a set; a call that reads what was there and lays new rows. -/
import Derived.Test.YtlbmmpefejjjpaaGreatDoorGEwD

set_option linter.unusedSimpArgs false
set_option linter.unusedVariables false
section
namespace Ev
open Go Go.RowKit

section
variable {P : Program} {ι : Io} {rows : T ARow} {w : World} {nx : Nat} {B : Base} {κ : List (Nat × Loc)}

theorem leaves_to {fn : Func} {ι0 : Io} {rows0 : T ARow} {w0 : World} (hb : B.n ≤ w0.heap.size) {nx0 : Nat} {tm : T AV} {tmps : Array Value} (hn : tmps.size = fn.ntmps) {rs : List (Nat × Option Kd)} {vs : List AV} (hc : compRes P fn.ntmps fn.results.toList = some rs) (he : evRes ⟨tm, rows, nx⟩ rs = some vs) (ht : TmRel ι tm tmps) {R0 : Ending → World → Prop} (hR : ∀ v ι' w'', VRel ι' (retV vs) v → Post (IRof P) B ι0 ι' rows0 w0 nx0 rows nx w'' → R0 (.returned v) w'') :
    ∀ (ds : List Deferred) {w : World}, DefOK w0.heap.size ι rows ds w → Post (IRof P) B ι0 ι rows0 w0 nx0 rows nx w →
      LeavesInM (fence none) 0 P fn tmps R0 ds .returning w
  | [], w, hd, hp => by
    obtain ⟨v, h1, h2⟩ := results_ok (P := P) (nx := nx) hp.hrel hn ht hc he
    exact ⟨v, h1, hR v ι w h2 hp⟩
  | d :: ds, w, hd, hp => by
    obtain ⟨D, rfl, h2, h3, h4⟩ := hd.each d (by simp)
    have hD : D < w.heap.size := (Array.getElem?_eq_some_iff.1 h3).1
    refine ⟨by simp, .inl ⟨D, w.putObj D (.deferred none), rfl, run_takeDeferred h3, ?_⟩⟩
    have hoth : ∀ k, k ≠ D → (w.putObj D (.deferred none)).heap[k]? = w.heap[k]? := fun k hk => World.putObj_heap_other hk
    have hp' : Post (IRof P) B ι0 ι rows0 w0 nx0 rows nx (w.putObj D (.deferred none)) := by
      refine ⟨hp.ext, hp.new, hp.old, hp.le, ⟨fun b r e => ?_, hp.hrel.inj, hp.hrel.low, hp.hrel.below.trans (below_put w _ (by omega)), by rw [World.putObj_size]; exact hp.hrel.room⟩, fun k hk ho => ?_, by rw [World.putObj_size]; exact hp.size, hp.own⟩
      · obtain ⟨L, o, g1, g2, g3⟩ := hp.hrel.row b r e
        refine ⟨L, o, g1, ?_, g3⟩
        rw [hoth _ (fun hk => h4 ⟨b, r, L, e, g1, hk⟩)]; exact g2
      · rw [hoth _ (by omega)]; exact hp.frame k hk ho
    refine leaves_to hb hn hc he ht hR ds ⟨fun e he' => ?_, (List.pairwise_cons.1 hd.one).2⟩ hp'
    obtain ⟨D', k1, k2, k3, k4⟩ := hd.each e (by simp [he'])
    have hne : D' ≠ D := fun e' => by
      have := (List.pairwise_cons.1 hd.one).1 e he'
      rw [k1, e'] at this
      exact this rfl
    exact ⟨D', k1, k2, by rw [hoth _ hne]; exact k3, k4⟩


/-- A function's contract, out of its code. -/
theorem calls_to {f : Nat} {fn : Func} {c : Code} {rs : List (Nat × Option Kd)} (hf : P.funcs[f]? = some fn) (hb : fn.body = some c) (hrs : compRes P fn.ntmps fn.results.toList = some rs) {args : List AV} {us : List Value} (hl : args.length ≤ fn.ntmps)
    (h : HRel (IRof P) B ι rows w) (hfr : ∀ b, nx ≤ b → ι b = none) (ha : VRelL ι args us) {X : XS → Prop} (hX : RunsTo (IRof P) B P w.heap.size fn.ntmps none κ ⟨argsT args 0 .nil, rows, nx⟩ X c) (hκ : ∀ p ∈ κ, ι p.1 = some p.2) {Z : R → Prop}
    (hZ : ∀ x, X x → (∀ id, x.e ≠ .exit id) ∧ ∃ vs, evRes x.s rs = some vs ∧ Z ⟨retV vs, x.s.rows, x.s.nx⟩) :
    Calls P f ⟨us⟩ w fun e w'' => ∃ r v ι', Z r ∧ e = .returned v ∧ VRel ι' r.v v ∧ Post (IRof P) B ι ι' rows w nx r.rows r.nx w'' := by
  have hul : us.length = args.length := ha.length.symm
  refine (calls_fence none 0).1 (callsIn_of_wp_marks hf hb trivial ?_)
  refine hX.go hκ ⟨⟨fun t ht => ?_⟩, ?_, h, hfr, ⟨fun d hd => (List.not_mem_nil hd).elim, List.Pairwise.nil⟩⟩ (Nat.le_refl _) fun x hx ι' a' w' hf' hp' => ?_
  · simp only [Opd.ev, argsT_get, Nat.zero_le, if_true, Nat.sub_zero, T.get_nil]
    have ht : t < us.length + (fn.ntmps - us.length) := by simpa using ht
    cases hq : args[t]? with
    | some v =>
      obtain ⟨u, hu, hr⟩ := ha.get hq
      have : ((⟨us⟩ : Array Value) ++ Array.replicate (fn.ntmps - (⟨us⟩ : Array Value).size) undef).getD t undef = u := by
        have hlt := (List.getElem?_eq_some_iff.1 hu).1
        rw [Array.getD_eq_getD_getElem?, Array.getElem?_append_left (by simpa using hlt)]
        simp [hu]
      rw [this]; exact hr
    | none =>
      have hge : us.length ≤ t := by
        rw [hul]; exact List.getElem?_eq_none_iff.1 hq
      have : ((⟨us⟩ : Array Value) ++ Array.replicate (fn.ntmps - (⟨us⟩ : Array Value).size) undef).getD t undef = undef := by
        rw [Array.getD_eq_getD_getElem?, Array.getElem?_append_right (by simpa using hge), Array.getElem?_replicate]
        split <;> rfl
      rw [this]; exact .undef
  · simp; omega
  · obtain ⟨hex, vs, hvs, hz⟩ := hZ x hx
    obtain ⟨e, s1⟩ := x
    have fin : LeavesInM (fence none) 0 P fn a'.tmps (fun e w'' => ∃ r v ι', Z r ∧ e = .returned v ∧ VRel ι' r.v v ∧ Post (IRof P) B ι ι' rows w nx r.rows r.nx w'') a'.defers .returning w' := by
      exact leaves_to (P := P) (nx := s1.nx) h.room hf'.sz hrs hvs hf'.tm (fun v ι2 w'' h2 h3 => ⟨_, v, ι2, hz, rfl, h2, h3⟩) a'.defers hf'.df hp'
    cases e with
    | normal => exact fin
    | ret => exact fin
    | exit id => exact absurd rfl (hex id)

/-- A call that was looked at with all that was there as read only. -/
theorem Post.rebase {IR : Nat → IC → Code → Prop} {ι1 : Io} {rows0 rows1 rows' : T ARow} {nx1 : Nat} {w' : World} (h : HRel IR B ι rows w) (hp : Post IR ⟨w.heap.size, w⟩ ι ι1 rows0 w nx rows1 nx1 w')
    (hr : ∀ b q, rows'.get b = some q → rows.get b = some q ∨ (rows1.get b = some q ∧ q.isRo = false)) : Post IR B ι ι1 rows w nx rows' nx1 w' := by
  have hbel : Below w.heap.size w w' := hp.hrel.below
  have hB : B.n ≤ w.heap.size := h.room
  have hold : ∀ b q, rows.get b = some q → ∃ L o, ι b = some L ∧ w.heap[L.blk]? = some o ∧ RowRel IR ι L q o ∧ L.blk < w.heap.size := fun b q e => by
    obtain ⟨L, o, h1, h2, h3⟩ := h.row b q e
    exact ⟨L, o, h1, h2, h3, (Array.getElem?_eq_some_iff.1 h2).1⟩
  refine ⟨hp.ext, hp.new, hp.old, hp.le, ⟨fun b q e => ?_, fun b b' q q' L1 L2 e e' i i' hk => ?_, fun b q L1 e i hro => ?_, h.below.trans ⟨hbel.os, hbel.tape, hbel.output, hbel.size, fun k hk => hbel.block k (by omega)⟩, Nat.le_trans hB hp.size⟩, fun k hk _ => hbel.block k hk, hp.size, ?_⟩
  · rcases hr b q e with h1 | ⟨h1, _⟩
    · obtain ⟨L, o, g1, g2, g3, g4⟩ := hold b q h1
      exact ⟨L, o, hp.ext _ _ g1, by rw [hbel.block _ g4]; exact g2, g3.mono hp.ext⟩
    · exact hp.hrel.row b q h1
  · rcases hr b q e with h1 | ⟨h1, h2⟩ <;> rcases hr b' q' e' with h3 | ⟨h3, h4⟩
    · obtain ⟨M1, _, g1, _⟩ := hold b q h1
      obtain ⟨M2, _, g2, _⟩ := hold b' q' h3
      have := hp.ext _ _ g1
      rw [this] at i; cases i
      have := hp.ext _ _ g2
      rw [this] at i'; cases i'
      exact h.inj b b' q q' _ _ h1 h3 g1 g2 hk
    · obtain ⟨M1, _, g1, _, _, g5⟩ := hold b q h1
      have := hp.ext _ _ g1
      rw [this] at i; cases i
      have : w.heap.size ≤ L2.blk := hp.hrel.low b' q' L2 h3 i' h4
      omega
    · obtain ⟨M2, _, g2, _, _, g5⟩ := hold b' q' h3
      have := hp.ext _ _ g2
      rw [this] at i'; cases i'
      have : w.heap.size ≤ L1.blk := hp.hrel.low b q L1 h1 i h2
      omega
    · exact hp.hrel.inj b b' q q' L1 L2 h1 h3 i i' hk
  · rcases hr b q e with h1 | ⟨h1, h2⟩
    · obtain ⟨M1, _, g1, _⟩ := hold b q h1
      have := hp.ext _ _ g1
      rw [this] at i; cases i
      exact h.low b q _ h1 g1 hro
    · have : w.heap.size ≤ L1.blk := hp.hrel.low b q L1 h1 i h2
      omega
  · rintro k ⟨b, q, L1, e, i, hk⟩
    rcases hr b q e with h1 | ⟨h1, h2⟩
    · obtain ⟨M1, _, g1, _⟩ := hold b q h1
      have := hp.ext _ _ g1
      rw [this] at i; cases i
      exact .inl ⟨b, q, _, h1, g1, hk⟩
    · have : w.heap.size ≤ L1.blk := hp.hrel.low b q L1 h1 i h2
      exact .inr (by omega)

/-- The start of such a look: one map. -/
theorem HRel.readMap {IR : Nat → IC → Code → Prop} (h : HRel IR B ι rows w) {b : Nat} {es : List (AV × AV)} (hb : rows.get b = some (.map es) ∨ rows.get b = some (.roM es)) : HRel IR ⟨w.heap.size, w⟩ ι ((T.nil : T ARow).set b (some (.roM es))) w := by
  have hget : ∀ b' q, ((T.nil : T ARow).set b (some (.roM es))).get b' = some q → b' = b ∧ q = .roM es := fun b' q e => by
    rw [T.get_set] at e
    split at e
    · rename_i hb'
      simp only [Option.some.injEq] at e
      exact ⟨hb', e.symm⟩
    · rw [T.get_nil] at e; cases e
  refine ⟨fun b' q e => ?_, fun b1 b2 q1 q2 L1 L2 e1 e2 _ _ _ => ?_, fun b' q L e _ hro => ?_, .refl _ _, Nat.le_refl _⟩
  · obtain ⟨rfl, rfl⟩ := hget b' q e
    rcases hb with hb | hb
    · obtain ⟨L, o, h1, h2, h3⟩ := h.row _ _ hb
      cases h3 with
      | map hm hw => exact ⟨L, _, h1, h2, .roM hm hw⟩
    · obtain ⟨L, o, h1, h2, h3⟩ := h.row _ _ hb
      exact ⟨L, o, h1, h2, h3⟩
  · rw [(hget _ _ e1).1, (hget _ _ e2).1]
  · obtain ⟨rfl, rfl⟩ := hget b' q e
    cases hro
theorem HRel.readMap_low {IR : Nat → IC → Code → Prop} {b : Nat} {es : List (AV × AV)} (h : HRel IR ⟨w.heap.size, w⟩ ι ((T.nil : T ARow).set b (some (.roM es))) w) : ∀ L, ι b = some L → L.blk < w.heap.size := fun L hL => by
  obtain ⟨L', o, h1, h2, _⟩ := h.row b (.roM es) (by rw [T.get_set, if_pos rfl])
  rw [hL] at h1; cases h1
  exact (Array.getElem?_eq_some_iff.1 h2).1

/-- Some code, looked at with all that was there as read only (one map of it is read). -/
theorem RunsTo.rebase {IR : Nat → IC → Code → Prop} {E n : Nat} {ro : Option Nat} {s : St} {b : Nat} {es : List (AV × AV)} {X1 X : XS → Prop} {c : Code} (hb : s.rows.get b = some (.map es) ∨ s.rows.get b = some (.roM es))
    (h : ∀ (w : World) (L : Loc), Below B.n B.w w → B.n ≤ w.heap.size → L.blk < w.heap.size → RunsTo IR ⟨w.heap.size, w⟩ P E n ro [(b, L)] ⟨s.tm, (T.nil : T ARow).set b (some (.roM es)), s.nx⟩ X1 c)
    (hX : ∀ x, X1 x → ∃ rows', (∀ b' q, rows'.get b' = some q → s.rows.get b' = some q ∨ (x.s.rows.get b' = some q ∧ q.isRo = false)) ∧ X ⟨x.e, ⟨x.s.tm, rows', x.s.nx⟩⟩) : RunsTo IR B P E n ro κ s X c := by
  refine ⟨fun {ι a w Q} hκ hf hE hg => ?_⟩
  have h0 := HRel.readMap hf.h hb
  have hL : ∃ L, ι b = some L := by
    obtain ⟨L, o, h1, _⟩ := h0.row b _ (by rw [T.get_set, if_pos rfl])
    exact ⟨L, h1⟩
  obtain ⟨L, hL⟩ := hL
  have hlow := HRel.readMap_low h0 L hL
  have hsub : ∀ k, Owns ι ((T.nil : T ARow).set b (some (.roM es))) k → Owns ι s.rows k := by
    rintro k ⟨b', q, L', e1, e2, e3⟩
    rw [T.get_set] at e1
    split at e1
    · rename_i hb'
      subst hb'
      rcases hb with hb | hb
      · exact ⟨_, _, L', hb, e2, e3⟩
      · exact ⟨_, _, L', hb, e2, e3⟩
    · rw [T.get_nil] at e1; cases e1
  have hdf : DefOK E ι ((T.nil : T ARow).set b (some (.roM es))) a.defers w := ⟨fun d hd => by
    obtain ⟨D, h1, h2, h3, h4⟩ := hf.df.each d hd
    exact ⟨D, h1, h2, h3, fun ho => h4 (hsub D ho)⟩, hf.df.one⟩
  refine (h w L hf.h.below hf.h.room hlow).go (fun p hp => by
    simp only [List.mem_singleton] at hp
    subst hp; exact hL) ⟨hf.tm, hf.sz, h0, hf.fr, hdf⟩ hE fun x hx ι' a' w' hf' hp' => ?_
  obtain ⟨rows', h1, h2⟩ := hX x hx
  have hp := Post.rebase hf.h hp' h1
  refine hg _ h2 ι' a' w' ⟨hf'.tm, hf'.sz, hp.hrel, hf'.fr, ⟨fun d hd => ?_, hf'.df.one⟩⟩ hp
  obtain ⟨D, g1, g2, g3, g4⟩ := hf'.df.each d hd
  refine ⟨D, g1, g2, g3, ?_⟩
  rintro ⟨b', q, L', e1, e2, e3⟩
  rcases h1 b' q e1 with h3 | ⟨h3, _⟩
  · obtain ⟨L2, o, k1, k2, k3⟩ := hp.hrel.row b' q e1
    rw [e2] at k1; cases k1
    rw [e3, g3] at k2
    cases k2
    cases k3
  · exact g4 ⟨b', q, L', h3, e2, e3⟩

theorem RunsTo.fresh {IR : Nat → IC → Code → Prop} {E n : Nat} {ro : Option Nat} {s : St} {X : XS → Prop} {c : Code} (h : (∀ b', s.nx ≤ b' → s.rows.get b' = none) → RunsTo IR B P E n ro κ s X c) : RunsTo IR B P E n ro κ s X c := by
  refine ⟨fun {ι a w Q} hκ hf hE hg => (h fun b' hb' => ?_).go hκ hf hE hg⟩
  cases hr : s.rows.get b' with
  | none => rfl
  | some q =>
    obtain ⟨L, _, h1, _⟩ := hf.h.row b' q hr
    rw [hf.fr b' hb'] at h1; cases h1
end
end Ev
end

/- Code with ranges over maps on its spine: its form, what it comes to. -/
section
namespace Ev
open Go Go.RowKit

inductive JC where
  | ic (c : IC)
  | seq (a b : JC)
  | mrange (ts tm ti tn tx te i1 : Nat) (g5 : List GOp) (rest : IC)
  deriving Inhabited

def mvT (o : Oper) : Option (Nat × Nat) := match o.op with | .move (.tmp s) => (match o.dst with | some d => (match o.guard with | none => some (s, d) | _ => none) | _ => none) | _ => none
def rgT (o : Oper) : Option (TypeId × Nat × Nat) := match o.op with | .range ty (.tmp s) => (match o.dst with | some d => (match o.guard with | none => some (ty, s, d) | _ => none) | _ => none) | _ => none
def nxT (o : Oper) : Option (Nat × Nat) := match o.op with | .next (.tmp s) false => (match o.dst with | some d => (match o.guard with | none => some (s, d) | _ => none) | _ => none) | _ => none
def exT (o : Oper) : Option (Nat × Nat) := match o.op with | .extract (.tmp s) 0 => (match o.dst with | some d => (match o.guard with | none => some (s, d) | _ => none) | _ => none) | _ => none
def enT (o : Oper) : Option (Nat × Nat) := match o.op with | .entry (.tmp s) => (match o.dst with | some d => (match o.guard with | none => some (s, d) | _ => none) | _ => none) | _ => none

def isMapT (P : Program) (t : TypeId) : Bool := match P.underlying t with | some (.map _ _) => true | _ => false

def mapJ (P : Program) (n : Nat) (om orr on ox oe : Oper) (o5 : List Oper) (txc i0 i0' i1 : Nat) (rest : Code) : Option JC :=
  bo (mvT om) fun m => bo (rgT orr) fun r => bo (nxT on) fun x => bo (exT ox) fun e => bo (enT oe) fun q =>
    gd (Nat.beq m.2 r.2.1 && Nat.beq r.2.2 x.1 && Nat.beq x.2 e.1 && Nat.beq e.2 txc && Nat.beq r.2.2 q.1 && Nat.beq i0 i0' &&
      (Nat.blt m.1 n && Nat.blt m.2 n && Nat.blt r.2.2 n && Nat.blt x.2 n && Nat.blt e.2 n && Nat.blt q.2 n) &&
      (!Nat.beq m.2 r.2.2 && !Nat.beq x.2 r.2.2 && !Nat.beq e.2 r.2.2 && !Nat.beq x.2 e.2) && isMapT P r.1 && guardsOK n (oe :: o5))
    (some (.mrange m.1 m.2 r.2.2 x.2 e.2 q.2 i1 (o5.map (compG P n (oe :: o5))) (comp P n true rest)))

def mapRange (P : Program) (n : Nat) : Code → Option JC
  | .seq (.region _ ops3 false) (.block i0 (.loop (.seq (.region _ ops4 false) (.seq (.cond (.tmp tx) .skip (.exit i0')) (.block i1 (.seq (.region _ ops5 false) rest)))))) =>
    match ops3.toList, ops4.toList, ops5.toList with
    | [om, orr], [on, ox], oe :: o5 => mapJ P n om orr on ox oe o5 tx i0 i0' i1 rest
    | _, _, _ => none
  | _ => none

def compJ (P : Program) (n : Nat) (c : Code) : JC := match mapRange P n c with
  | some j => j
  | none => match c with
    | .seq a b => .seq (compJ P n a) (compJ P n b)
    | c => .ic (comp P n true c)

/-- What such code comes to: some state at the end, whatever the order. -/
def JRuns (C : CallF) (LF : Nat) (kb : List Nat) : JC → St → (XS → Prop) → Prop
  | .ic c, s, X => ∃ x, runIC C LF c s = some x ∧ X x
  | .seq a b, s, X => JRuns C LF kb a s (fun x => match x.e with | .normal => JRuns C LF kb b x.s X | _ => X x)
  | .mrange ts tm ti tn tx te i1 g5 rest, s, X => ((∀ b', s.nx ≤ b' → s.rows.get b' = none) → ∃ (b : Nat) (es : List (AV × AV)) (Inv : List (AV × AV) → St → Prop), s.tm.get ts = some (.map b) ∧ (s.rows.get b = some (.map es) ∨ s.rows.get b = some (.roM es)) ∧ Inv [] (rangeSt ⟨s.tm, (T.nil : T ARow).set b (some (.roM es)), s.nx⟩ tm ti b) ∧
      (∀ d s', Inv d s' → s'.tm.get ti = some (.ptr s.nx 0)) ∧
      (∀ d k v l s', Inv d s' → (d ++ (k, v) :: l).Perm es → ∃ s5 x, evOps C g5 (nextSt s' tn tx te k v) = some s5 ∧ runIC C LF rest s5 = some x ∧ (match x.e with | .normal => Inv (d ++ [(k, v)]) x.s | .exit j => j = i1 ∧ Inv (d ++ [(k, v)]) x.s | .ret => False)) ∧
      (∀ d s', Inv d s' → d.Perm es → ∃ rows', (∀ b' q, rows'.get b' = some q → s.rows.get b' = some q ∨ (s'.rows.get b' = some q ∧ q.isRo = false)) ∧ X ⟨.normal, ⟨(overSt s' tn tx).tm, rows', s'.nx⟩⟩)) ∨
    ∃ (b : Nat) (es : List (AV × AV)) (Inv : List (AV × AV) → St → Prop), s.tm.get ts = some (.map b) ∧ s.rows.get b = some (.roM es) ∧ b ∈ kb ∧ Inv [] (rangeSt s tm ti b) ∧
      (∀ d s', Inv d s' → s'.tm.get ti = some (.ptr s.nx 0)) ∧
      (∀ d k v l s', Inv d s' → (d ++ (k, v) :: l).Perm es → ∃ s5 x, evOps C g5 (nextSt s' tn tx te k v) = some s5 ∧ runIC C LF rest s5 = some x ∧ (match x.e with | .normal => Inv (d ++ [(k, v)]) x.s | .exit j => j = i1 ∧ Inv (d ++ [(k, v)]) x.s | .ret => X x)) ∧
      (∀ d s', Inv d s' → d.Perm es → X ⟨.normal, overSt s' tn tx⟩)

/-- What is known of a base world, and stays. -/
def Stays (K : Base → Prop) : Prop := ∀ B w, K B → Below B.n B.w w → B.n ≤ w.heap.size → K ⟨w.heap.size, w⟩

section
variable {P : Program} {B : Base} {E n : Nat} {K : Base → Prop} {κ : List (Nat × Loc)} {C : CallF} {LF : Nat} {kb : List Nat}

theorem mvT_some {o : Oper} {p : Nat × Nat} (h : mvT o = some p) : o.op = .move (.tmp p.1) ∧ o.dst = some p.2 ∧ o.guard = none := by
  unfold mvT at h
  split at h <;> try (cases h; done)
  split at h <;> try (cases h; done)
  split at h <;> try (cases h; done)
  cases h; exact ⟨by assumption, by assumption, by assumption⟩
theorem rgT_some {o : Oper} {p : TypeId × Nat × Nat} (h : rgT o = some p) : o.op = .range p.1 (.tmp p.2.1) ∧ o.dst = some p.2.2 ∧ o.guard = none := by
  unfold rgT at h
  split at h <;> try (cases h; done)
  split at h <;> try (cases h; done)
  split at h <;> try (cases h; done)
  cases h; exact ⟨by assumption, by assumption, by assumption⟩
theorem nxT_some {o : Oper} {p : Nat × Nat} (h : nxT o = some p) : o.op = .next (.tmp p.1) false ∧ o.dst = some p.2 ∧ o.guard = none := by
  unfold nxT at h
  split at h <;> try (cases h; done)
  split at h <;> try (cases h; done)
  split at h <;> try (cases h; done)
  cases h; exact ⟨by assumption, by assumption, by assumption⟩
theorem exT_some {o : Oper} {p : Nat × Nat} (h : exT o = some p) : o.op = .extract (.tmp p.1) 0 ∧ o.dst = some p.2 ∧ o.guard = none := by
  unfold exT at h
  split at h <;> try (cases h; done)
  split at h <;> try (cases h; done)
  split at h <;> try (cases h; done)
  cases h; exact ⟨by assumption, by assumption, by assumption⟩
theorem enT_some {o : Oper} {p : Nat × Nat} (h : enT o = some p) : o.op = .entry (.tmp p.1) ∧ o.dst = some p.2 ∧ o.guard = none := by
  unfold enT at h
  split at h <;> try (cases h; done)
  split at h <;> try (cases h; done)
  split at h <;> try (cases h; done)
  cases h; exact ⟨by assumption, by assumption, by assumption⟩
theorem isMapT_some {t : TypeId} (h : isMapT P t = true) : ∃ k e, P.underlying t = some (.map k e) := by
  unfold isMapT at h
  split at h
  · exact ⟨_, _, by assumption⟩
  · cases h

theorem JRuns.mono {C : CallF} {LF : Nat} {kb : List Nat} {X Y : XS → Prop} (h : ∀ x, X x → Y x) : ∀ (j : JC) {s : St}, JRuns C LF kb j s X → JRuns C LF kb j s Y := by
  intro j
  induction j generalizing X Y with
  | ic c => intro s hx; obtain ⟨x, h1, h2⟩ := hx; exact ⟨x, h1, h x h2⟩
  | seq a b iha ihb =>
    intro s hx
    refine iha (fun x hx => ?_) hx
    cases he : x.e with
    | normal => rw [he] at hx; exact ihb h hx
    | exit id => rw [he] at hx; exact h x hx
    | ret => rw [he] at hx; exact h x hx
  | mrange ts tm ti tn tx te i1 g5 rest =>
    intro s hx
    rcases hx with hx | ⟨b, es, Inv, r1, r2, r3, r4, r5, r6, r7⟩
    · refine .inl fun hfr => ?_
      obtain ⟨b, es, Inv, r1, r2, r4, r5, r6, r7⟩ := hx hfr
      refine ⟨b, es, Inv, r1, r2, r4, r5, r6, fun d s' hi hp => ?_⟩
      obtain ⟨rows', h1, h2⟩ := r7 d s' hi hp
      exact ⟨rows', h1, h _ h2⟩
    refine .inr ⟨b, es, Inv, r1, r2, r3, r4, r5, fun d k v l s' hi hp => ?_, fun d s' hi hp => h _ (r7 d s' hi hp)⟩
    obtain ⟨s5, x, q1, q2, q3⟩ := r6 d k v l s' hi hp
    refine ⟨s5, x, q1, q2, ?_⟩
    cases he : x.e with
    | normal => rw [he] at q3; exact q3
    | exit id => rw [he] at q3; exact q3
    | ret => rw [he] at q3; exact h x q3

theorem mapRange_ok (hm : P.follows .mixedOrders = true) (hC : ∀ B, K B → CallOK (IRof P) B P C) (hK : K B) (hS : Stays K) (hkb : ∀ b ∈ kb, ∃ L, (b, L) ∈ κ ∧ L.blk < B.n) {c : Code} {j : JC} (hj : mapRange P n c = some j) {s : St} {X : XS → Prop} (hr : JRuns C LF kb j s X) :
    RunsTo (IRof P) B P E n none κ s X c := by
  unfold mapRange at hj
  split at hj
  · rename_i id3 ops3 i0 id4 ops4 tx i0' i1 id5 ops5 rest
    split at hj
    · rename_i om orr on ox oe o5 h3 h4 h5
      obtain ⟨m, hm1, hj⟩ := bo_some.1 hj
      obtain ⟨r, hr1, hj⟩ := bo_some.1 hj
      obtain ⟨x, hx1, hj⟩ := bo_some.1 hj
      obtain ⟨e, he1, hj⟩ := bo_some.1 hj
      obtain ⟨q, hq1, hj⟩ := bo_some.1 hj
      obtain ⟨hg, hj⟩ := gd_some.1 hj
      simp only [Option.some.injEq] at hj
      subst hj
      simp only [Bool.and_eq_true, Bool.not_eq_true', beq_nat, blt_nat, decide_eq_true_eq, decide_eq_false_iff_not] at hg
      obtain ⟨⟨⟨⟨⟨⟨⟨⟨⟨a1, a2⟩, a3⟩, a4⟩, a5⟩, a6⟩, a7⟩, a8⟩, a9⟩, a10⟩ := hg
      obtain ⟨kt, et, hty⟩ := isMapT_some a9
      have e3 : ops3 = #[om, orr] := by apply Array.ext'; simpa using h3
      have e4 : ops4 = #[on, ox] := by apply Array.ext'; simpa using h4
      have e5 : ops5 = ⟨oe :: o5⟩ := by apply Array.ext'; simpa using h5
      subst e3; subst e4; subst e5; subst a6
      have ho : RangeOps n m.1 m.2 r.2.2 x.2 tx q.2 r.1 om orr on ox oe := by
        have hm' := mvT_some hm1
        have hr' := rgT_some hr1
        have hx' := nxT_some hx1
        have he' := exT_some he1
        have hq' := enT_some hq1
        rw [← a1] at hr'
        rw [← a2] at hx'
        rw [← a3, a4] at he'
        rw [← a5] at hq'
        rw [a4] at a7 a8
        exact ⟨hm', hr', hx', he', hq', ⟨a7.1.1.1.1.1, a7.1.1.1.1.2, a7.1.1.1.2, a7.1.1.2, a7.1.2, a7.2⟩, ⟨a8.1.1.1, a8.1.1.2, a8.1.2, a8.2⟩⟩
      rcases hr with hr | ⟨b, es, Inv, r1, r2, r3, r4, r5, r6, r7⟩
      · refine RunsTo.fresh fun hfr => ?_
        obtain ⟨b, es, Inv, r1, r2, r4, r5, r6, r7⟩ := hr hfr
        refine RunsTo.rebase (X1 := fun z => ∃ d s', Inv d s' ∧ d.Perm es ∧ z = ⟨.normal, overSt s' x.2 tx⟩) r2 (fun w L hbel hsz hlow => ?_) (fun x hx => ?_)
        · have hK1 := hS B w hK hbel hsz
          refine runs_maprange (n := n) (hC _ hK1) ho hty (guardsOK_some a10) (s := ⟨s.tm, (T.nil : T ARow).set b (some (.roM es)), s.nx⟩) r1 (by rw [T.get_set, if_pos rfl]) (List.mem_singleton.2 rfl) hlow Inv r4 r5 (fun d k v l s' hi hp => ?_) (fun d s' hi hp => ⟨d, s', hi, hp, rfl⟩)
          obtain ⟨s5, y, q1, q2, q3⟩ := r6 d k v l s' hi hp
          rw [a4] at q1
          refine ⟨s5, q1, ?_⟩
          refine (RunsAs.to (runs_comp (n := n) (LF := LF) hm (hC _ hK1) rest true E none (fun _ => rfl)) q2).mono fun z hz => ?_
          subst hz
          cases he : z.e with
          | normal => rw [he] at q3; exact q3
          | exit id => rw [he] at q3; exact q3
          | ret => rw [he] at q3; exact q3.elim
        · obtain ⟨d, s', hi, hp, rfl⟩ := hx
          obtain ⟨rows', h1, h2⟩ := r7 d s' hi hp
          rw [a4] at h2
          exact ⟨rows', h1, h2⟩
      obtain ⟨L, hL, hlow⟩ := hkb b r3
      refine runs_maprange (n := n) (Y := X) (hC _ hK) ho hty (guardsOK_some a10) r1 r2 hL hlow Inv r4 r5 (fun d k v l s' hi hp => ?_) (fun d s' hi hp => by rw [← a4]; exact r7 d s' hi hp)
      obtain ⟨s5, y, q1, q2, q3⟩ := r6 d k v l s' hi hp
      rw [a4] at q1
      refine ⟨s5, q1, ?_⟩
      exact (RunsAs.to (runs_comp (n := n) (LF := LF) hm (hC _ hK) rest true E none (fun _ => rfl)) q2).mono fun z hz => by subst hz; exact q3
    · cases hj
  · cases hj

theorem compJ_ok (hm : P.follows .mixedOrders = true) (hC : ∀ B, K B → CallOK (IRof P) B P C) (hK : K B) (hS : Stays K) (hkb : ∀ b ∈ kb, ∃ L, (b, L) ∈ κ ∧ L.blk < B.n) : ∀ (c : Code) {s : St} {X : XS → Prop}, JRuns C LF kb (compJ P n c) s X → RunsTo (IRof P) B P E n none κ s X c := by
  have leaf : ∀ (c : Code) {s : St} {X : XS → Prop}, JRuns C LF kb (.ic (comp P n true c)) s X → RunsTo (IRof P) B P E n none κ s X c := by
    intro c s X h
    obtain ⟨x, h1, h2⟩ := h
    exact (RunsAs.to (runs_comp (n := n) (LF := LF) hm (hC _ hK) c true E none (fun _ => rfl)) h1).mono fun z hz => by subst hz; exact h2
  intro c
  induction c with
  | seq a b iha ihb =>
    intro s X h
    rw [compJ] at h
    split at h
    · rename_i j hj
      exact mapRange_ok hm hC hK hS hkb hj h
    · have h : JRuns C LF kb (compJ P n a) s (fun x => match x.e with | .normal => JRuns C LF kb (compJ P n b) x.s X | _ => X x) := h
      refine (iha h).seq (fun x hx he => ?_) (fun x hx he => ?_)
      · rw [he] at hx; exact ihb hx
      · obtain ⟨e, s'⟩ := x
        cases e with
        | normal => exact absurd rfl he
        | _ => exact hx
  | _ =>
    intro s X h
    exact leaf _ h

/-- A call, out of the form of its function's code. -/
theorem calls_J {f : Nat} {fn : Func} {c : Code} {rs : List (Nat × Option Kd)} {j : JC} {ι : Io} {rows : T ARow} {w : World} {nx : Nat} (hm : P.follows .mixedOrders = true) (hC : ∀ B, K B → CallOK (IRof P) B P C) (hK : K B) (hS : Stays K) (hf : P.funcs[f]? = some fn) (hb : fn.body = some c) (hj : compJ P fn.ntmps c = j)
    (hrs : compRes P fn.ntmps fn.results.toList = some rs) {args : List AV} {us : List Value} (hl : args.length ≤ fn.ntmps) (h : HRel (IRof P) B ι rows w) (hfr : ∀ b, nx ≤ b → ι b = none) (ha : VRelL ι args us)
    (hkb : ∀ b ∈ kb, ∃ L, ι b = some L ∧ L.blk < B.n) {Z : R → Prop}
    (hX : JRuns C LF kb j ⟨argsT args 0 .nil, rows, nx⟩ fun x => (∀ id, x.e ≠ .exit id) ∧ ∃ vs, evRes x.s rs = some vs ∧ Z ⟨retV vs, x.s.rows, x.s.nx⟩) :
    Calls P f ⟨us⟩ w fun e w'' => ∃ r v ι', Z r ∧ e = .returned v ∧ VRel ι' r.v v ∧ Post (IRof P) B ι ι' rows w nx r.rows r.nx w'' := by
  classical
  subst hj
  let κ : List (Nat × Loc) := kb.filterMap fun b => (ι b).map fun L => (b, L)
  refine calls_to (κ := κ) hf hb hrs hl h hfr ha (compJ_ok hm hC hK hS (fun b hb => ?_) c hX) (fun p hp => ?_) (fun x hx => hx)
  · obtain ⟨L, h1, h2⟩ := hkb b hb
    exact ⟨L, List.mem_filterMap.2 ⟨b, hb, by rw [h1]; rfl⟩, h2⟩
  · obtain ⟨b, hb, hp⟩ := List.mem_filterMap.1 hp
    cases hι : ι b with
    | none => rw [hι] at hp; cases hp
    | some L => rw [hι] at hp; cases hp; exact hι
end
end Ev
end
