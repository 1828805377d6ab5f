/- A call with slices that came in. -/
import Derived.Test.YtkakkacpddiogaaGreatDoorGEwY
import Derived.Test.YtkakkacpddiogaaGreatDoorGEwN
import Derived.Test.YtkakkacpddiogaaGreatDoorTb43
import Derived.Test.YtkakkacpddiogaaGreatDoorTc43
import Derived.Test.YtkakkacpddiogaaGreatDoorGNo43
import Derived.Test.YtkakkacpddiogaaGreatDoorKk43

set_option linter.unusedSimpArgs false
set_option linter.unusedVariables false
section
namespace Ev
open Go Go.RowKit

/-- Three places: a package variable's table, and up to two slices that came in. -/
def ι3 (L2 L3 : Option Loc) : Io := fun b => if b = 1 then some ⟨1, 0, 0⟩ else if b = 2 then L2 else if b = 3 then L3 else none
noncomputable def rows3 (tbl : List AV) (c2 c3 : Option ARow) : T ARow := ((g0 1 tbl).set 2 c2).set 3 c3
/-- The row of a slice that came in. -/
def RoAt (w : World) (L : Option Loc) (c : Option ARow) : Prop := c = none ∨ ∃ l L' cs e fz, c = some (.ro 0 l) ∧ L = some L' ∧ w.heap[L'.blk]? = some (.cells cs e fz) ∧ CellsAt (fun _ => none) cs L'.sh l
theorem rows3_rel {tbl : List AV} {w : World} {IR : Nat → IC → Code → Prop} {L2 L3 : Option Loc} {c2 c3 : Option ARow} (h : PowW 1 tbl w) (h2 : RoAt w L2 c2) (h3 : RoAt w L3 c3) : HRel IR ⟨w.heap.size, w⟩ (ι3 L2 L3) (rows3 tbl c2 c3) w := by
  have hget : ∀ b q, (rows3 tbl c2 c3).get b = some q → (b = 1 ∧ q = .ro 2 tbl) ∨ (b = 2 ∧ c2 = some q) ∨ (b = 3 ∧ c3 = some q) := fun b q e => by
    unfold rows3 at e
    rw [T.get_set] at e
    split at e
    · rename_i hb; exact .inr (.inr ⟨hb, e⟩)
    · rw [T.get_set] at e
      split at e
      · rename_i hb; exact .inr (.inl ⟨hb, e⟩)
      · exact .inl (g0_get e)
  have hro : ∀ b q, (rows3 tbl c2 c3).get b = some q → q.isRo = true := fun b q e => by
    rcases hget b q e with ⟨_, rfl⟩ | ⟨_, h⟩ | ⟨_, h⟩
    · rfl
    · rcases h2 with h2 | ⟨l, _, _, _, _, h2, _⟩
      · rw [h2] at h; cases h
      · rw [h2] at h; cases h; rfl
    · rcases h3 with h3 | ⟨l, _, _, _, _, h3, _⟩
      · rw [h3] at h; cases h
      · rw [h3] at h; cases h; rfl
  refine ⟨fun b q e => ?_, fun b1 b2 q1 q2 L1 L2 e1 e2 ho _ _ _ => ?_, fun b q L e _ hr => ?_, .refl _ _, Nat.le_refl _⟩
  · rcases hget b q e with ⟨rfl, rfl⟩ | ⟨rfl, h'⟩ | ⟨rfl, h'⟩
    · obtain ⟨c, e, fz, k1, k2⟩ := h
      exact ⟨⟨1, 0, 0⟩, _, if_pos rfl, k1, .ro (k2.mono fun b L e => by cases e) (.inr ⟨rfl, rfl⟩)⟩
    · rcases h2 with h2 | ⟨l, L', cs, e, fz, h2, h4, h5, h6⟩
      · rw [h2] at h'; cases h'
      · rw [h2] at h'; cases h'
        exact ⟨L', _, h4, h5, .ro (h6.mono fun b L e => by cases e) (.inl rfl)⟩
    · rcases h3 with h3 | ⟨l, L', cs, e, fz, h3, h4, h5, h6⟩
      · rw [h3] at h'; cases h'
      · rw [h3] at h'; cases h'
        exact ⟨L', _, h4, h5, .ro (h6.mono fun b L e => by cases e) (.inl rfl)⟩
  · rw [hro _ _ e1, hro _ _ e2] at ho
    rcases ho with ho | ho <;> cases ho
  · rw [hro _ _ e] at hr; cases hr

theorem calls3 {P : Program} {tbl : List AV} {orc : Nat → Option (List AV → T ARow → Nat → Option R)} {fns : T IFn} {LF fuel f : Nat} (hm : P.follows .mixedOrders = true) (hfns : Tied P fns) (horc : ∀ (B : Base), KG 1 tbl B → ∀ f o, orc f = some o → OrcOK B P f o)
    {w : World} (hw : PowW 1 tbl w) {L2 L3 : Option Loc} {c2 c3 : Option ARow} (h2 : RoAt w L2 c2) (h3 : RoAt w L3 c3) {args : List AV} {us : List Value} (ha : VRelL (ι3 L2 L3) args us)
    (he : oR (evCall orc fns LF fuel (.r f) args (rows3 tbl c2 c3) 4) fun v _ _ => v = .bool true) : Calls P f ⟨us⟩ w fun e w' => e = .returned (.bool true) ∧ Below w.heap.size w w' := by
  obtain ⟨r, h1, hv⟩ := he
  have hC := evCall_ok (B := ⟨w.heap.size, w⟩) (LF := LF) hm hfns (horc _ hw.kg) fuel
  obtain ⟨_, h4⟩ := hC.r h1 (rows3_rel hw h2 h3) (fun b hb => by unfold ι3; rw [if_neg (by omega), if_neg (by omega), if_neg (by omega)]) ha
  refine Calls.mono h4 fun e w' he' => ?_
  obtain ⟨u, ι', rfl, h5, h6⟩ := he'
  rw [hv] at h5
  cases h5
  exact ⟨rfl, h6.hrel.below⟩

/-- A slice that came in, as a value and as a row. -/
structure SlArg (w : World) (b sz n : Nat) (v : Value) (av : AV) (L : Option Loc) (c : Option ARow) (cells : List AV) : Prop where
  rel : ∀ ι : Io, ι b = L → VRel ι av v
  ro : RoAt w L c
  rd : ∀ (rows : T ARow) (nx : Nat), b < nx → rows.get b = c → RdV rows nx sz n av cells
theorem slArg_nil {w : World} {b sz : Nat} : SlArg w b sz 0 (.slice none 0 0) (.nil .slice) none none [] :=
  ⟨fun _ _ => .nilSlice, .inl rfl, fun _ _ _ _ => ⟨by simp, .inl ⟨rfl, .inl rfl⟩⟩⟩
theorem slArg_empty {w : World} {b sz cap : Nat} {p : Option Addr} : SlArg w b sz 0 (.slice p 0 cap) .empty none none [] :=
  ⟨fun _ _ => .empty p cap, .inl rfl, fun _ _ _ _ => ⟨by simp, .inl ⟨rfl, .inr rfl⟩⟩⟩
theorem slArg_some {w : World} {b sz n cap : Nat} {a : Addr} {cells : List AV} {cs : Array Value} {e : TypeId} {fz : Nat × Nat} (hs : a.spot = none) (hc : n ≤ cap) (hl : cells.length = n * sz) (hw : w.heap[a.block]? = some (.cells cs e fz)) (hr : CellsAt (fun _ => none) cs a.off cells) :
    SlArg w b sz n (.slice (some a) n cap) (.slice b 0 n (.ex cap)) (some ⟨a.block, a.off, 0⟩) (some (.ro 0 cells)) cells := by
  refine ⟨fun ι hι => ?_, .inr ⟨_, _, cs, e, fz, rfl, rfl, hw, hr⟩, fun rows nx hb hg => ⟨hl, .inr ⟨b, 0, .ex cap, cells, [], rfl, hb, by rw [hg]; rfl, by simp⟩⟩⟩
  have : a = (⟨a.block, a.off, 0⟩ : Loc).at 0 := by
    obtain ⟨k, o, s⟩ := a
    simp only at hs
    subst hs
    rfl
  rw [this]
  exact .sliceEx hι hc
theorem cell_heap {w : World} {a : Addr} {v : Value} (h : w.cell? a = some v) : ∃ c e fz, w.heap[a.block]? = some (.cells c e fz) ∧ c[a.off]? = some v ∧ a.spot = none := by
  unfold World.cell? at h
  split at h
  · rename_i c e fz hh
    cases hs : a.spot with
    | some s => simp [hs] at h
    | none =>
      simp [hs] at h
      exact ⟨c, e, fz, hh, h, rfl⟩
  · cases h
theorem add_block (a : Addr) (n : Nat) : (a.add n).block = a.block := by unfold Addr.add; split <;> rfl
theorem add_off (a : Addr) (n : Nat) : (a.add n).off = a.off + n := by
  unfold Addr.add
  split
  · rename_i h; rw [h]; rfl
  · rfl
end Ev
end

/- The law of tops, with all that it calls. -/
section
namespace Ev.Tp
open Go Ev Ev.Or Ev.Nm
set_option maxRecDepth 1000000

theorem H_all : ((List.range 71).all fun x => (List.range 71).all fun a => !decide (H x = H a) || decide (x = a)) = true := by kernel_rfl
theorem H_inj {x a : Nat} (hx : x < 71) (ha : a < 71) (h : H x = H a) : x = a := by
  have h1 := List.all_eq_true.1 H_all x (List.mem_range.2 hx)
  have h2 := List.all_eq_true.1 h1 a (List.mem_range.2 ha)
  rw [decide_eq_true h] at h2
  simpa using h2

noncomputable def nameG (a : List AV) : Option AV := match a with | [x] => asStr x fun s => some (.bool (nameV s)) | _ => none
theorem name_row : ∀ args v, nameG args = some v → RowG P43 1 pow 54 (args, v) := by
  intro args v h
  unfold nameG at h
  split at h
  · obtain ⟨s, rfl, h1⟩ := asStr_some.1 h
    simp only [Option.some.injEq] at h1
    subst h1
    exact fn_row (orc := orcA) (fns := fns43) (LF := 100000) (fuel := 10) mixed Td.tied (fun B _ => orcA_ok B) (ir := I.I54) rfl rfl rfl ⟨_, _, Nm.call (by omega)⟩
  · cases h
theorem known_row : RowG P43 1 pow 8 ([], .bool true) := by
  intro ι us w hw hu
  cases hu
  have h1 : P43.funcs[8]? = some (fn 8) := by kernel_rfl
  have h2 : (fn 8).body.isSome = true := by kernel_rfl
  have h3 : (fn 8).name ≠ "runtime.NumGoroutine" := by
    intro h
    have : ((fn 8).name == "runtime.NumGoroutine") = false := by kernel_rfl
    simp [h] at this
  refine ⟨callFunc_enter h1 h2 h3 w, Calls.mono (Kn.known w hw) fun e w' h => ?_⟩
  exact ⟨_, h.1, .bool true, h.2⟩

def tCm : List (List AV × AV) := (List.range 455).map rowC
noncomputable def lT : List (Nat × Orc) := [(8, memo [([], .bool true)]), (35, memo tOf), (36, memo tUn), (40, memo tCk), (55, memo tSg), (24, memo tCm), (54, oFun nameG)]
theorem lT_ok (B : Base) (hK : KG 1 pow B) : ∀ f o, orcL lT f = some o → OrcOK B P43 f o := orcL_ok (fun e he => by
  simp only [lT, List.mem_cons, List.not_mem_nil, or_false] at he
  rcases he with rfl | rfl | rfl | rfl | rfl | rfl | rfl
  · exact memo_okG hK (fun e he => by
      simp only [List.mem_singleton] at he
      subst he; exact known_row)
  · exact memo_okG hK (Me.rows mOf)
  · exact memo_okG hK (Me.rows mUn)
  · exact memo_okG hK (Me.rows mCk)
  · exact memo_okG hK (Me.rows mSg)
  · exact memo_okG hK (fun e he => by
      obtain ⟨n, hn, rfl⟩ := List.mem_map.1 he
      exact cm_row n (List.mem_range.1 hn))
  · exact fun_okG hK name_row)
noncomputable abbrev CT (k : Nat) : CallF := evCall (orcL lT) fns43 100000 k

theorem memo_get {t : List (List AV × AV)} {args : List AV} {v : AV} (h : lookM t args = some v) (rows : T ARow) (nx : Nat) : memo t args rows nx = some ⟨v, rows, nx⟩ := by
  unfold memo; rw [h]; rfl
theorem c8 (k : Nat) (rows : T ARow) (nx : Nat) : CT (k + 1) (.f 8) [] rows nx = some ⟨.bool true, rows, nx⟩ := rfl
theorem c35 (k n : Nat) (hn : n ≤ 64) (rows : T ARow) (nx : Nat) : CT (k + 1) (.f 35) [.int .i64 (.ofNat n), .int .i64 (.ofNat 2)] rows nx = some ⟨.tup [.str (H n), .int .i64 (.ofNat 0)], rows, nx⟩ := by
  refine memo_get (t := tOf) ?_ rows nx
  exact look_map (fun n => [.int .i64 (.ofNat n), .int .i64 (.ofNat 2)]) (fun n => .tup [.str (H n), .int .i64 (.ofNat 0)]) n _ (fun x _ e => by
    simp only [List.cons.injEq, AV.int.injEq, Int.ofNat.injEq, true_and, and_true] at e
    rw [e]) (List.mem_range.2 (by omega)) (by simp [sameL, sameV, eqI, beq_nat])
theorem c36 (k n : Nat) (hn : n < 256) (rows : T ARow) (nx : Nat) : CT (k + 1) (.f 36) [.int .u8 (.ofNat n)] rows nx = some ⟨.str (unitS n), rows, nx⟩ := by
  refine memo_get (t := tUn) ?_ rows nx
  exact look_map (fun n => [.int .u8 (.ofNat n)]) (fun n => .str (unitS n)) n _ (fun x _ e => by
    simp only [List.cons.injEq, AV.int.injEq, Int.ofNat.injEq, true_and, and_true] at e
    rw [e]) (List.mem_range.2 (by omega)) (by simp [sameL, sameV, eqI, beq_nat])
theorem same1 (s : S) : sameL [.str s] [.str s] = true := by simp [sameL, sameV]
theorem same2 (s t : S) : sameL [.str s, .str t] [.str s, .str t] = true := by simp [sameL, sameV]
theorem c40 (k n : Nat) (hn : n ≤ 64) (rows : T ARow) (nx : Nat) : CT (k + 1) (.f 40) [.str (H n)] rows nx = some ⟨.int .i64 (.ofNat 0), rows, nx⟩ := by
  refine memo_get (t := tCk) ?_ rows nx
  exact look_map (fun n => [.str (H n)]) (fun _ => .int .i64 (.ofNat 0)) n _ (fun x _ _ => rfl) (List.mem_range.2 (by omega)) (same1 _)
theorem c55 (k n : Nat) (hn : n ≤ 64) (rows : T ARow) (nx : Nat) : CT (k + 1) (.f 55) [.str (H n)] rows nx = some ⟨.int .i64 (.ofNat (min n 1)), rows, nx⟩ := by
  refine memo_get (t := tSg) ?_ rows nx
  exact look_map (fun n => [.str (H n)]) (fun n => .int .i64 (.ofNat (min n 1))) n _ (fun x hx e => by
    simp only [List.cons.injEq, AV.str.injEq, and_true] at e
    have := H_inj (by have := List.mem_range.1 hx; omega) (by omega) e
    rw [this]) (List.mem_range.2 (by omega)) (same1 _)
theorem c24 (k a d : Nat) (ha : a ≤ 64) (hd : d ≤ 6) (rows : T ARow) (nx : Nat) : CT (k + 1) (.f 24) [.str (H (a + d)), .str (H a)] rows nx = some ⟨.int .i64 (.ofNat (min d 1)), rows, nx⟩ := by
  refine memo_get (t := tCm) ?_ rows nx
  have h1 : (7 * a + d) / 7 = a := by omega
  have h2 : (7 * a + d) % 7 = d := by omega
  have := look_map (fun n => (rowC n).1) (fun n => (rowC n).2) (7 * a + d) (List.range 455) (fun x hx e => by
    have hx := List.mem_range.1 hx
    simp only [rowC, List.cons.injEq, AV.str.injEq, and_true] at e
    have e2 := H_inj (by omega) (by omega) e.2
    have e1 := H_inj (by omega) (by omega) e.1
    show AV.int .i64 (.ofNat (min (x % 7) 1)) = .int .i64 (.ofNat (min ((7 * a + d) % 7) 1))
    have : x % 7 = (7 * a + d) % 7 := by omega
    rw [this]) (List.mem_range.2 (by omega)) (same2 _ _)
  simp only [rowC, h1, h2] at this
  exact this
theorem c54 (k : Nat) (s : S) (rows : T ARow) (nx : Nat) : CT (k + 1) (.f 54) [.str s] rows nx = some ⟨.bool (nameV s), rows, nx⟩ := rfl

noncomputable def FT : Fs := ⟨nameV, fun _ => .ofNat 0, fun s => .ofNat (if s = H 0 then 0 else 1), fun s t => .ofNat (if s = t then 0 else 1)⟩
def DT (s : S) : Prop := ∃ n, n ≤ 64 ∧ s = H n
def PT (s t : S) : Prop := ∃ a d, a ≤ 64 ∧ d ≤ 6 ∧ s = H (a + d) ∧ t = H a
theorem FT_ok (k : Nat) : FsOK (CT (k + 1)) FT DT PT where
  name := fun s _ rows nx => c54 k s rows nx
  ck := fun s ⟨n, hn, e⟩ rows nx => by subst e; exact c40 k n hn rows nx
  sg := fun s ⟨n, hn, e⟩ _ rows nx => by
    subst e
    rw [c55 k n hn rows nx]
    have : min n 1 = if H n = H 0 then 0 else 1 := by
      by_cases h : n = 0
      · subst h; simp
      · rw [if_neg (fun e => h (H_inj (by omega) (by omega) e))]; omega
    rw [this]; rfl
  cmp := fun s t ⟨a, d, ha, hd, e1, e2⟩ _ _ rows nx => by
    subst e1; subst e2
    rw [c24 k a d ha hd rows nx]
    have : min d 1 = if H (a + d) = H a then 0 else 1 := by
      by_cases h : d = 0
      · subst h; simp
      · rw [if_neg (fun e => by have := H_inj (by omega) (by omega) e; omega)]; omega
    rw [this]; rfl

theorem mem_mk : ∀ {a : Nat} {l : List Bit} {x : Iv}, a + 8 * l.length ≤ 64 → x ∈ mk a l → ∃ f d u, f + d ≤ 64 ∧ 1 ≤ d ∧ d ≤ 6 ∧ x = ⟨unitS u, H f, H (f + d)⟩
  | a, [], x, _, h => by cases h
  | a, b :: l, x, ha, h => by
    simp only [List.length_cons] at ha
    rcases List.mem_cons.1 h with rfl | h
    · exact ⟨a + b.g % 3, 1 + b.t % 6, b.u, by omega, by omega, by omega, rfl⟩
    · exact mem_mk (a := a + b.g % 3 + (1 + b.t % 6)) (by omega) h
theorem next_mk : ∀ {a : Nat} {l : List Bit} {i : Nat} {x y : Iv}, a + 8 * l.length ≤ 64 → (mk a l)[i]? = some x → (mk a l)[i + 1]? = some y → ∃ e g, e + g ≤ 64 ∧ g ≤ 2 ∧ x.t = H e ∧ y.f = H (e + g)
  | a, [], i, x, y, _, h, _ => by simp [mk] at h
  | a, b :: l, 0, x, y, ha, h, h' => by
    simp only [List.length_cons] at ha
    simp only [mk, List.getElem?_cons_zero, Option.some.injEq] at h
    subst h
    cases l with
    | nil => simp [mk] at h'
    | cons c l =>
      simp only [mk, List.getElem?_cons_succ, List.getElem?_cons_zero, Option.some.injEq] at h'
      subst h'
      simp only [List.length_cons] at ha
      exact ⟨a + b.g % 3 + (1 + b.t % 6), c.g % 3, by omega, by omega, rfl, rfl⟩
  | a, b :: l, i + 1, x, y, ha, h, h' => by
    simp only [List.length_cons] at ha
    exact next_mk (a := a + b.g % 3 + (1 + b.t % 6)) (l := l) (i := i) (by omega) (by simpa [mk] using h) (by simpa [mk] using h')
theorem name_unit (u : Nat) : (!decide (unitS u = []) && !nameV (unitS u)) = false := by
  have h : u % 6 = 0 ∨ u % 6 = 1 ∨ u % 6 = 2 ∨ u % 6 = 3 ∨ u % 6 = 4 ∨ u % 6 = 5 := by omega
  unfold unitS
  rcases h with h | h | h | h | h | h <;> rw [h] <;> rfl
theorem logV_mk : ∀ (l : List Bit) (a : Nat) (first : Bool) (e : S), a + 8 * l.length ≤ 64 → logV FT first e (mk a l) = .ofNat 0
  | [], _, _, _, _ => rfl
  | b :: l, a, first, e, ha => by
    simp only [List.length_cons] at ha
    have h1 : FT.cmp (H (a + b.g % 3 + (1 + b.t % 6))) (H (a + b.g % 3)) = .ofNat 1 := by
      show Int.ofNat (if _ then 0 else 1) = _
      rw [if_neg (fun e => by have := H_inj (by omega) (by omega) e; omega)]
    have h2 : ∀ s t, decide (FT.cmp s t < .ofNat 0) = false := fun s t => decide_eq_false (by
      show ¬ (Int.ofNat _ < Int.ofNat 0)
      simp only [Int.ofNat_eq_natCast]; omega)
    have h3 : ∀ s, decide (FT.sg s < .ofNat 0) = false := fun s => decide_eq_false (by
      show ¬ (Int.ofNat _ < Int.ofNat 0)
      simp only [Int.ofNat_eq_natCast]; omega)
    have h4 : decide (FT.cmp (H (a + b.g % 3 + (1 + b.t % 6))) (H (a + b.g % 3)) ≤ .ofNat 0) = false := by rw [h1]; rfl
    have h5 : ∀ s, FT.ck s = .ofNat 0 := fun _ => rfl
    have h6 : (!decide (unitS b.u = []) && !FT.name (unitS b.u)) = false := name_unit b.u
    simp only [mk, logV, h6, h5, h3, h4, h2, decide_true, Bool.not_true, Bool.or_self, Bool.and_false, Bool.false_eq_true, if_false]
    exact logV_mk l _ false _ (by omega)

theorem law_all {rows : T ARow} {nx n : Nat} {v : AV} {l : List Bit} (hlen : ∀ rows' nx', evK [v] rows' nx' (CT 5) (.len .sl) = some ⟨.int .i64 (.ofNat n), rows', nx'⟩) (hl : l.length ≤ 8) (hB : ∀ x ∈ l, BitOK x)
    (h : n ≤ 8 → l.length = n ∧ RdV rows nx 3 n v (encBs l)) : oR (evFn (CT 5) 100000 I.I3 [v] rows nx) fun r _ _ => r = .bool true := by
  have hlm : (mk 0 l).length ≤ 8 := by rw [mk_len]; exact hl
  refine law_run (l := l) (by omega) hlen (c8 4) (fun hn => ?_) (fun a rows nx ha => ?_)
  · obtain ⟨hln, hR⟩ := h hn
    subst hln
    refine ⟨rfl, ?_⟩
    show oR (evCall (orcL lT) fns43 100000 (4 + 1) (.f 9) [v] rows nx) _
    rw [call_r (fn := I.I9) rfl rfl]
    exact make_run hR (Nat.le_refl _) hl (by omega) hB (fun n hn rows nx => c35 3 n hn rows nx) (fun n hn rows nx => c36 3 n hn rows nx)
  · show oR (evCall (orcL lT) fns43 100000 (4 + 1) (.f 10) [a] rows nx) _
    rw [call_r (fn := I.I10) rfl rfl]
    refine tops_run ha.rd (Nat.le_refl _) (by omega) (by omega) ?_ (fun v' us x rows nx hv hu => ?_)
    · show oR (evCall (orcL lT) fns43 100000 (3 + 1) (.f 29) [a] rows nx) _
      rw [call_r (fn := I.I29) rfl rfl]
      have := log_run (FT_ok 2) (LF := 100000) ha.rd (Nat.le_refl _) (by omega) (by omega) (fun x hx => by
        obtain ⟨f, d, u, h1, h2, h3, rfl⟩ := mem_mk (by omega) hx
        refine ⟨⟨f, by omega, rfl⟩, ⟨f + d, h1, rfl⟩, ?_⟩
        show (unitS u).length ≤ 1000
        unfold unitS
        split <;> simp) (fun x hx => by
        obtain ⟨f, d, u, h1, h2, h3, rfl⟩ := mem_mk (by omega) hx
        exact ⟨f, d, by omega, h3, rfl, rfl⟩) (fun i x y hx hy => by
        obtain ⟨e, g, h1, h2, h3, h4⟩ := next_mk (by omega) hx hy
        exact ⟨e, g, by omega, by omega, h4, h3⟩)
      rw [logV_mk l 0 true [48] (by omega)] at this
      exact this
    · show evCall (orcL lT) fns43 100000 (3 + 1) (.f 37) [v', .str x] rows nx = _
      rw [call_r (fn := I.I37) rfl rfl]
      refine contains_run hv ?_
      obtain ⟨⟨r, rows', nx'⟩, h1, ⟨k, h2, h3⟩, h4, h5⟩ := index_run (C := CT 2) (LF := 100000) (x := x) hv (by omega) (by omega)
      simp only at h2 h4 h5
      subst h2; subst h4; subst h5
      refine ⟨k, ?_, h3⟩
      show evCall (orcL lT) fns43 100000 (2 + 1) (.f 71) [v', .str x] _ _ = _
      rw [call_r (fn := I.I71) rfl rfl]
      exact h1
end Ev.Tp
end
