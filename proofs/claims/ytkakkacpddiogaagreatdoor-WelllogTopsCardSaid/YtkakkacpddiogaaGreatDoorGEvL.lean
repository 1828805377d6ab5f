/- What each operation of the evaluator's code comes to in the machine: tests of equality, maps that are read. -/
import Derived.Test.YtkakkacpddiogaaGreatDoorGEvK
import Derived.Great.FillDense
import Derived.Deep.AppendSrc
import Derived.Deep.Upon
import Derived.MapKept
import Derived.DeepKeys4

set_option linter.unusedSimpArgs false
set_option linter.unusedVariables false
section
namespace Ev
open Go Go.RowKit

section
variable {P : Program} {ι : Io} {rows : T ARow} {w : World} {nx : Nat} {r : R}

theorem nilCheck_ok {x : AV} {ux : Value} {tl : List AV} (hx : VRel ι x ux) (he : evRare (x :: tl) rows nx .nilCheck = some r) :
    ∃ v, (match ux with
      | .pointer none | .nilIface | .nilFunc => (runtimePanic .nilDeref : Sem Next)
      | .func (.method name) first captured =>
        match (first[0]? : Option Value) with
        | some .nilIface => runtimePanic .nilDeref
        | some (.iface t w) => do
          if (← nilAhead ((← program).types.size + Made.depth) t w name) != some false then
            unsupported (.noEntry "op/nilCheck.the method's receiver behind this interface value is a nil pointer, or cannot be seen to be none, and the arguments act or may panic (ledger 612)")
          pure (.value (.func (.method name) first captured))
        | _ => pure (.value (.func (.method name) first captured))
      | x => pure (.value x)).run P w = .ok (.value ux) w ∧ VRel ι v ux ∧ r = ⟨v, rows, nx⟩ := by
  simp only [evRare, u1] at he
  cases x <;> simp only at he <;> try (cases he; done)
  case ptr b o => obtain rfl := rv_some he; cases hx with | ptr h => exact ⟨_, rfl, .ptr h, rfl⟩
  case fn f c => obtain rfl := rv_some he; cases hx with | fn h => exact ⟨_, rfl, .fn h, rfl⟩
  case yld l => obtain rfl := rv_some he; cases hx with | yld h => exact ⟨_, rfl, .yld h, rfl⟩

theorem binI_ok {op : BinOp} {t : TypeId} {ox oy : Operand} {x y : AV} {ux uy : Value} {tl : List AV} (hx : VRel ι x ux) (hy : VRel ι y uy) (he : kBinI (x :: y :: tl) rows nx op = some r) :
    PureOK P ι rows w nx r (do eqGuard op t ox oy ux uy; binOp op t ux uy) := by
  simp only [kBinI, u2] at he
  obtain ⟨k, a, rfl, he1⟩ := asInt_some.1 he
  obtain ⟨j, b, rfl, he2⟩ := asInt_some.1 he1
  obtain ⟨v, hv, hr⟩ := rvo_some he2
  subst hr
  cases hx; cases hy
  obtain ⟨u, hu, hr⟩ := binI2_ok (P := P) (w := w) (ι := ι) t hv
  exact ⟨v, u, by simp [eqGuard_int, hu], hr, rfl⟩
theorem binS_ok {op : BinOp} {t : TypeId} {ox oy : Operand} {x y : AV} {ux uy : Value} {tl : List AV} (hx : VRel ι x ux) (hy : VRel ι y uy) (he : kBinS (x :: y :: tl) rows nx op = some r) :
    PureOK P ι rows w nx r (do eqGuard op t ox oy ux uy; binOp op t ux uy) := by
  simp only [kBinS, u2] at he
  obtain ⟨a, rfl, he1⟩ := asStr_some.1 he
  obtain ⟨b, rfl, he2⟩ := asStr_some.1 he1
  obtain ⟨v, hv, hr⟩ := rvo_some he2
  subst hr
  cases hx; cases hy
  obtain ⟨u, hu, hr⟩ := binS1_ok (P := P) (w := w) (ι := ι) t hv
  exact ⟨v, u, by simp [eqGuard_str, hu], hr, rfl⟩

def eqOp (n : Bool) : BinOp := match n with | true => .neq | false => .eql

theorem binB_ok {n : Bool} {t : TypeId} {ox oy : Operand} {x y : AV} {ux uy : Value} {tl : List AV} (hu : P.underlying t = some .bool) (hx : VRel ι x ux) (hy : VRel ι y uy) (he : evRare (x :: y :: tl) rows nx (.binB n) = some r) :
    PureOK P ι rows w nx r (do eqGuard (eqOp n) t ox oy ux uy; binOp (eqOp n) t ux uy) := by
  simp only [evRare, u2] at he
  obtain ⟨b, hb, he⟩ := bo_some.1 he
  obtain rfl := rv_some he
  have hq := equal_one (P := P) (t := t) (k := .bool) (by simp [skOf, hu]) hb hx hy w
  obtain ⟨p, rfl, hb1⟩ := asBool_some.1 hb
  obtain ⟨q, rfl, hb2⟩ := asBool_some.1 hb1
  cases hx; cases hy
  refine ⟨_, .bool (flipB n b), ?_, .bool _, rfl⟩
  cases n <;> simp [eqOp, flipB, eqGuard_bool, binOp, hq]

theorem binA_ok {n : Bool} {t : TypeId} {ox oy : Operand} {sh : List SK} {x y : AV} {ux uy : Value} {tl : List AV} (hs : eqShape P t = some sh) (ha : isAggT P t = true) (hx : VRel ι x ux) (hy : VRel ι y uy) (he : evRare (x :: y :: tl) rows nx (.binA n sh) = some r) :
    PureOK P ι rows w nx r (do eqGuard (eqOp n) t ox oy ux uy; binOp (eqOp n) t ux uy) := by
  simp only [evRare, u2] at he
  obtain ⟨l, rfl, he1⟩ := asAgg_some.1 he
  obtain ⟨m, rfl, he2⟩ := asAgg_some.1 he1
  obtain ⟨b, hb, he3⟩ := bo_some.1 he2
  have hr := rv_some he3
  subst hr
  cases hx with
  | agg hl _ => cases hy with
    | agg hm _ =>
      have hq := equal_agg (P := P) hs ha hb hl hm w
      have hg : P.eqGuardType P.depth t = false := by
        obtain ⟨h1, _⟩ := gd_some.1 hs
        simp only [Bool.and_eq_true, Bool.not_eq_true'] at h1
        exact h1.2.2
      refine ⟨_, .bool (flipB n b), ?_, .bool _, rfl⟩
      cases n <;> simp [eqOp, flipB, run_eqGuard_agg w _ t ox oy _ _ hg, binOp, hq]

def nilable (v : Value) : Bool := match v with
  | .pointer _ => true | .slice _ _ _ => true | .map _ => true | .func _ _ _ => true | .nilFunc => true | .iface _ _ => true | .nilIface => true
  | _ => false
theorem binOp_eql {t : TypeId} {u v : Value} (hu : nilable u = true) (hv : nilable v = true) : binOp .eql t u v = (do pure (.bool (← Op.equal t u v))) := by
  cases u <;> first | (cases hu; done) | (cases v <;> first | (cases hv; done) | rfl)
theorem binOp_neq {t : TypeId} {u v : Value} (hu : nilable u = true) (hv : nilable v = true) : binOp .neq t u v = (do pure (.bool (!(← Op.equal t u v)))) := by
  cases u <;> first | (cases hu; done) | (cases v <;> first | (cases hv; done) | rfl)
theorem eqGuard_nil {op : BinOp} {t : TypeId} {ox : Operand} {c : Value} {u v : Value} (hu : nilable u = true) (hv : nilable v = true) : (eqGuard op t ox (.const c) u v).run P w = .ok () w := by
  unfold eqGuard
  cases op <;> simp <;> (cases u <;> first | (cases hu; done) | (cases v <;> first | (cases hv; done) | rfl | simp))
theorem nil_test {n b : Bool} {t : TypeId} {ox : Operand} {c : Value} {u v : Value} (hu : nilable u = true) (hv : nilable v = true) (h : (Op.equal t u v).run P w = .ok b w) :
    (do eqGuard (eqOp n) t ox (.const c) u v; binOp (eqOp n) t u v : Sem Value).run P w = .ok (.bool (flipB n b)) w := by
  cases n
  · simp only [eqOp, Sem.run_bind, eqGuard_nil hu hv, Result.andThen_ok, binOp_eql hu hv, h, Sem.run_pure]; rfl
  · simp only [eqOp, Sem.run_bind, eqGuard_nil hu hv, Result.andThen_ok, binOp_neq hu hv, h, Sem.run_pure]; rfl

/-- Against nil, at a type that has one. -/
theorem binN_ok {n : Bool} {k : NK} {t : TypeId} {d : TypeDesc} {ox oy : Operand} {x y : AV} {ux uy : Value} {tl : List AV} (hu : P.underlying t = some d)
    (hd : match k with | .slice => ∃ e, d = .slice e | .map => ∃ q e, d = .map q e | .fn => ∃ a b c, d = .func a b c | .iface => ∃ m, d = .interface m | .ptr => ∃ e, d = .pointer e)
    (hc : isNilC oy = true) (hx : VRel ι x ux) (hy : VRel ι y uy) (he : evRare (x :: y :: tl) rows nx (.binN n k) = some r) :
    PureOK P ι rows w nx r (do eqGuard (eqOp n) t ox oy ux uy; binOp (eqOp n) t ux uy) := by
  simp only [evRare, u2] at he
  obtain ⟨c, hcy, he⟩ := bo_some.1 he
  obtain ⟨h1, he⟩ := gd_some.1 he
  obtain ⟨b, hb, he⟩ := bo_some.1 he
  obtain rfl := rv_some he
  subst h1
  have hcc : ∃ v, oy = .const v := by cases oy <;> simp [isNilC] at hc; exact ⟨_, rfl⟩
  obtain ⟨vc, rfl⟩ := hcc
  refine ⟨_, .bool (flipB n b), ?_, .bool _, rfl⟩
  have fin : ∀ d' : Nat, (Op.equalIn (d' + 1) t ux uy).run P w = .ok b w ∧ nilable ux = true ∧ nilable uy = true := fun d' => by
    cases k <;> simp only at hd
    case slice =>
      obtain ⟨e, rfl⟩ := hd
      cases hy <;> simp [isNil, gd] at hcy
      cases hx <;> simp [isNil, gd] at hb <;> subst hb <;> simp [Op.equalIn, run_underlying hu, nilable]
    case map =>
      obtain ⟨q, e, rfl⟩ := hd
      cases hy <;> simp [isNil, gd] at hcy
      cases hx <;> simp [isNil, gd] at hb <;> subst hb <;> simp [Op.equalIn, run_underlying hu, nilable]
    case fn =>
      obtain ⟨q, e, f, rfl⟩ := hd
      cases hy <;> simp [isNil, gd] at hcy
      cases hx <;> simp [isNil, gd] at hb <;> subst hb <;> simp [Op.equalIn, run_underlying hu, nilable]
    case iface =>
      obtain ⟨m, rfl⟩ := hd
      cases hy <;> simp [isNil, gd] at hcy
      cases hx <;> simp [isNil, gd] at hb <;> subst hb <;> simp [Op.equalIn, run_underlying hu, nilable]
    case ptr =>
      obtain ⟨e, rfl⟩ := hd
      cases hy <;> simp [isNil, gd] at hcy
      cases hx <;> simp [isNil, gd] at hb <;> subst hb <;> simp [Op.equalIn, run_underlying hu, nilable]
  exact nil_test (fin 9999).2.1 (fin 9999).2.2 (fin 9999).1
end
end Ev
end

/- What each operation of the evaluator's code comes to in the machine: what is built, new rows. -/
section
namespace Ev
open Go Go.RowKit

section
variable {P : Program} {ι : Io} {rows : T ARow} {w : World} {nx : Nat} {r : R} {IR : Nat → IC → Code → Prop} {B : Base}

theorem zeroFits_some {t : TypeId} (h : zeroFits P t = true) : ∃ z, zeroV P t = some z ∧ z.cells.size = P.cellsOf t ∧ ∀ v ∈ z.cells.toList, v.oneCell' = true := by
  unfold zeroFits at h
  cases hz : zeroV P t with
  | none => simp [hz] at h
  | some z =>
    simp only [hz, Bool.and_eq_true, beq_nat, decide_eq_true_eq] at h
    refine ⟨z, rfl, h.1, fun v hv => ?_⟩
    have := List.all_eq_true.1 h.2 v hv
    cases v <;> simp_all [Value.oneCell']
theorem zeroA_some {t : TypeId} {z : AV} (h : zeroA P t = some z) : ∃ v, zeroV P t = some v ∧ ∀ ι : Io, VRel ι z v := by
  obtain ⟨v, h1, h2⟩ := bo_some.1 h
  exact ⟨v, h1, fun ι => cv_rel ι _ h2⟩
/-- The zero value's cells. -/
theorem zero_cells {t : TypeId} {z : AV} {v : Value} (h : zeroFits P t = true) (hz : zeroA P t = some z) (hv : zeroV P t = some v) (ι : Io) : VRelL ι z.cells v.cells.toList ∧ v.cells.size = P.cellsOf t ∧ ∀ u ∈ v.cells.toList, u.oneCell' = true := by
  obtain ⟨v', h1, h2, h3⟩ := zeroFits_some h
  obtain ⟨v'', h4, h5⟩ := zeroA_some hz
  rw [hv] at h1 h4
  cases h1; cases h4
  refine ⟨?_, h2, h3⟩
  have hr := h5 ι
  cases hr <;> first
    | exact (VRel.cells (by constructor <;> assumption) (by rfl)).1
    | (simp [Value.cells, Value.oneCell', undef] at h3; done)
    | skip

theorem foldl_cells (v : Value) (off : Nat) (cells : Array Value) (h : off + v.cells.size ≤ cells.size) :
    (v.cells.zipIdx.foldl (fun cs (x : Value × Nat) => cs.setIfInBounds (off + x.2) x.1) cells) = (cells.toList.take off ++ v.cells.toList ++ cells.toList.drop (off + v.cells.size)).toArray := by
  have e : v.cells.zipIdx.foldl (fun cs (x : Value × Nat) => cs.setIfInBounds (off + x.2) x.1) cells = (v.cells.toList.zipIdx 0).foldl (fun cs (x : Value × Nat) => cs.setIfInBounds (off + x.2) x.1) cells := by
    rw [← Array.foldl_toList]; simp
  rw [e]
  obtain ⟨h1, h2⟩ := Go.Great.foldl_set off v.cells.toList 0 cells
  apply Array.ext_getElem?
  intro k
  rw [h2 k]
  simp only [List.getElem?_toArray, Nat.add_zero, Array.length_toList]
  by_cases ha : k < off
  · rw [if_neg (by omega), List.append_assoc, List.getElem?_append_left (by simp; omega), List.getElem?_take_of_lt ha]; simp
  · by_cases hb : k < off + v.cells.size
    · rw [if_pos ⟨by omega, hb, by omega⟩, List.append_assoc, List.getElem?_append_right (by simp; omega), List.getElem?_append_left (by simp; omega)]
      congr 1; simp; omega
    · rw [if_neg (by omega), List.getElem?_append_right (by simp; omega)]
      simp only [List.length_append, List.length_take, Array.length_toList]
      rw [List.getElem?_drop, Array.getElem?_toList]
      congr 1; omega

theorem VRelL.put {cs : List AV} {vs : List Value} : ∀ {l : List AV} {us : List Value} (o : Nat), VRelL ι l us → VRelL ι cs vs → o + cs.length ≤ l.length → VRelL ι (l.take o ++ cs ++ l.drop (o + cs.length)) (us.take o ++ vs ++ us.drop (o + vs.length)) :=
  fun o h hv _ => ((h.take o).append hv).append (by rw [← hv.length]; exact h.drop _)

/-- Parts laid into zero cells. 'is': the parts' numbers; 'place': where a number lies. -/
theorem fill_ok {place : Nat → Option (Nat × Nat)} : ∀ {offs : Offs} {is : List Nat} {vs : List AV} {us : List Value} {z z' : List AV} {zs : List Value}, evParts offs vs z = some z' → VRelL ι vs us →
    (∀ (j : Nat) (o : Nat × Kd) (i : Nat), offs[j]? = some o → is[j]? = some i → place i = some (o.1, o.2.width)) → is.length = offs.length → VRelL ι z zs → (∀ u ∈ zs, u.oneCell' = true) →
    ∃ zs', Instr.fill place zs.toArray (is.zip us) = some zs'.toArray ∧ VRelL ι z' zs' ∧ (∀ u ∈ zs', u.oneCell' = true) ∧ zs'.length = zs.length
  | [], is, vs, us, z, z', zs, h, hv, hp, hl, hz, h1 => by
    have : is = [] := by simpa using hl
    subst this
    cases vs with
    | cons v vs => cases h
    | nil =>
      have : z' = z := by simpa [evParts, eq_comm] using h
      subst this
      exact ⟨zs, by simp [Instr.fill], hz, h1, rfl⟩
  | o :: offs, is, vs, us, z, z', zs, h, hv, hp, hl, hz, h1 => by
    cases is with
    | nil => simp at hl
    | cons i is =>
      cases vs with
      | nil => cases h
      | cons v vs =>
        obtain ⟨u, us', rfl, hu, hv'⟩ := hv.cons_inv
        have h : bo (cellsK o.2 v) (fun c => bo (putN c o.1 z) fun z => evParts offs vs z) = some z' := h
        obtain ⟨c, hc, h⟩ := bo_some.1 h
        obtain ⟨z1, hz1, h⟩ := bo_some.1 h
        obtain ⟨rfl, hst, hlen⟩ := cellsK_some hc
        obtain ⟨hle, rfl⟩ := putN_some.1 hz1
        obtain ⟨hcv, hco⟩ := hu.cells hst
        have hzl := hz.length
        have hcl := hcv.length
        simp only [Array.length_toList] at hcl
        obtain ⟨zs', q1, q2, q3, q4⟩ := fill_ok (place := place) (is := is) h hv' (fun j o' i' ho hi => hp (j+1) o' i' (by simpa using ho) (by simpa using hi)) (by simpa using hl) (hz.put o.1 hcv hle) (fun x hx => by
          simp only [List.mem_append] at hx
          rcases hx with (hx | hx) | hx
          · exact h1 x (List.mem_of_mem_take hx)
          · exact hco x hx
          · exact h1 x (List.mem_of_mem_drop hx))
        refine ⟨zs', ?_, q2, q3, ?_⟩
        · simp only [List.zip_cons_cons]
          unfold Instr.fill
          rw [hp 0 o i (by simp) (by simp)]
          simp only
          have hsz : u.cells.size = o.2.width := by rw [← hcl]; exact hlen
          rw [if_neg (by
            simp only [ne_eq, Bool.or_eq_true, decide_eq_true_eq, List.size_toArray]
            rw [hsz]; simp; omega)]
          rw [← q1]
          congr 1
          rw [foldl_cells u o.1 zs.toArray (by simp; omega)]
          simp
        · rw [q4]
          simp only [List.length_append, List.length_take, List.length_drop, Array.length_toList]
          omega

/-- A new row behind some draws. -/
theorem Post.row_behind {w1 : World} (h : HRel IR B ι rows w) (hfr : ι nx = none) (hh : w1.heap = w.heap) (hb : Below B.n w w1) (sz : Nat) {l : List AV} {vs : List Value} {rest : List Value} (g : Nat) (e : TypeId) (hg : g = 0 ∨ g = e + 1) (hl : VRelL ι l vs) (h1 : ∀ u ∈ vs, u.oneCell' = true) (hsz : vs.length + rest.length = sz) :
    ∃ ι', ι' nx = some ⟨w.heap.size, 0, sz⟩ ∧ Post IR B ι ι' rows w nx (rows.set nx (some (.cells g l))) (nx+1) { w1 with heap := w1.heap.push (.cells (vs ++ rest).toArray e) } := by
  have h' : HRel IR B ι rows w1 := h.heap_eq hh hb
  have hws : w1.heap.size = w.heap.size := by rw [hh]
  obtain ⟨ι', q1, q2⟩ := Post.new_row (nx := nx) h' hfr (.cells (vs ++ rest).toArray e) sz (.cells g l) (fun ι' he _ => by
    refine .cells (by simpa using hsz) (fun i a ha => ?_) (by simp [hl.length]) (by intro o _; omega) (hg.imp_right fun h => ⟨h, rfl⟩)
    obtain ⟨v, hv, hr⟩ := hl.get ha
    refine ⟨v, ?_, hr.mono he, h1 v (List.mem_of_getElem? hv)⟩
    simp only [Nat.zero_add, List.getElem?_toArray]
    rw [List.getElem?_append_left (List.getElem?_eq_some_iff.1 hv).1]; exact hv)
  rw [hws] at q1
  exact ⟨ι', q1, (Post.of_below h hh hb).trans q2⟩

theorem box_ok {t : TypeId} {g : Nat} (hg : g = 0 ∨ g = t + 1) {x : AV} {ux : Value} {tl : List AV} (h : HRel IR B ι rows w) (hfr : ι nx = none) (hx : VRel ι x ux) (he : kBox (x :: tl) rows nx g = some r) :
    ∃ u w' ι', (Instr.box t ux).run P w = .ok u w' ∧ VRel ι' r.v u ∧ Post IR B ι ι' rows w nx r.rows r.nx w' := by
  simp only [kBox, u1] at he
  obtain ⟨hs, he⟩ := gd_some.1 he
  simp only [rnew, Option.some.injEq] at he
  subst he
  obtain ⟨hc, h1⟩ := hx.cells hs
  obtain ⟨ι', q1, q2⟩ := Post.row_behind (rest := []) (w1 := w) h hfr rfl (.refl _ _) ux.cells.size g t hg hc h1 (by simp)
  refine ⟨_, _, ι', by simp [Instr.box, newVar, newRow]; exact ⟨rfl, rfl⟩, .ptr q1, ?_⟩
  simpa using q2
end
end Ev
end

/- What each operation of the evaluator's code comes to in the machine: structs and slices that are built, new maps, bytes. -/
section
namespace Ev
open Go Go.RowKit

section
variable {P : Program} {ι : Io} {rows : T ARow} {w : World} {nx : Nat} {r : R} {IR : Nat → IC → Code → Prop} {B : Base}

theorem kdW_some {t : TypeId} {k : Kd} (h : kdW P t = some k) : kdOf P t = some k ∧ k.width = P.cellsOf t := by
  obtain ⟨k', h1, h2⟩ := bo_some.1 h
  obtain ⟨h3, h4⟩ := gd_some.1 h2
  cases h4
  rw [beq_nat] at h3
  exact ⟨h1, by simpa using h3⟩
theorem cellsOf_info {t : TypeId} {i : TypeInfo} (h : P.info? t = some i) : P.cellsOf t = i.size := by simp [Program.cellsOf, h]

theorem mapM_all {α β : Type} {f : α → Option β} : ∀ {l : List α}, (∀ a ∈ l, (f a).isSome = true) → ∃ r, l.mapM f = some r ∧ r.map some = l.map f
  | [], _ => ⟨[], by simp, rfl⟩
  | a :: l, h => by
    obtain ⟨r, h1, h2⟩ := mapM_all (l := l) (fun b hb => h b (by simp [hb]))
    obtain ⟨b, hb⟩ := Option.isSome_iff_exists.1 (h a (by simp))
    exact ⟨b :: r, by simp [List.mapM_cons, hb, h1], by simp [hb, h2]⟩

theorem zip_parts {α : Type} (ρ : Operand → Value) (ps : List (α × Operand)) : ps.map (fun p => (p.1, ρ p.2)) = (ps.map (·.1)).zip ((ps.map (·.2)).map ρ) := by
  induction ps with
  | nil => rfl
  | cons p ps ih => simp [ih]

theorem build_ok {t : TypeId} {ps : Array (Nat × Operand)} {k : K} {xs : List Operand} {ρ : Operand → Value} {vs : List AV} {C : CallF} (hc : compBuild P t ps = some (k, xs)) (hv : VRelL ι vs (xs.map ρ)) (he : evK vs rows nx C k = some r) :
    PureOK P ι rows w nx r (Instr.build t (ps.map fun (i, x) => (i, ρ x))) := by
  obtain ⟨z, hz, hc⟩ := bo_some.1 hc
  obtain ⟨hzf, hc⟩ := gd_some.1 hc
  obtain ⟨zv, hzv, hzr⟩ := zeroA_some hz
  obtain ⟨i, hi, hiz⟩ := bo_some.1 hzv
  obtain ⟨hzc, hzs, hz1⟩ := zero_cells hzf hz hzv ι
  cases hu : P.underlying t with
  | none => simp [hu] at hc
  | some d =>
    simp only [hu] at hc
    cases d <;> simp only at hc <;> try (cases hc; done)
    case struct fs =>
      obtain ⟨hall, hc⟩ := gd_some.1 hc
      obtain ⟨offs, ho, hc⟩ := bo_some.1 hc
      simp only [Option.some.injEq, Prod.mk.injEq] at hc
      obtain ⟨rfl, rfl⟩ := hc
      have he : kBuild vs rows nx z.cells offs = some r := he
      obtain ⟨l, hl, he⟩ := bo_some.1 he
      obtain rfl := rv_some he
      have ho := allSome_some.1 ho
      obtain ⟨places, hp, hpm⟩ := mapM_all (f := fun f : Field => (P.info? f.type).map fun i => (f.offset, i.size)) (l := fs.toList) (fun f hf => by
        have := List.all_eq_true.1 hall f hf
        simpa using this)
      have hlen : ps.toList.length = offs.length := by simpa using congrArg List.length ho
      obtain ⟨zs', q1, q2, q3, _⟩ := fill_ok (place := (places.toArray[·]?)) (is := ps.toList.map (·.1)) hl hv (fun j o i' hj hi' => by
        have e1 := congrArg (·[j]?) ho
        simp only [List.getElem?_map, hj, Option.map_some] at e1
        simp only [List.getElem?_map] at hi'
        cases hpj : ps.toList[j]? with
        | none => simp [hpj] at hi'
        | some p =>
          simp only [hpj, Option.map_some, Option.some.injEq] at hi' e1
          subst hi'
          obtain ⟨f, hf, e1⟩ := bo_some.1 e1
          obtain ⟨kk, hk, e1⟩ := bo_some.1 e1
          simp only [Option.some.injEq] at e1
          subst e1
          have e2 := congrArg (·[p.1]?) hpm
          simp only [List.getElem?_map, hf, Option.map_some] at e2
          cases hpl : places[p.1]? with
          | none => simp [hpl] at e2
          | some pl =>
            simp only [hpl, Option.map_some, Option.some.injEq] at e2
            obtain ⟨inf, hinf, e3⟩ := Option.map_eq_some_iff.1 e2.symm
            simp only [List.getElem?_toArray, hpl]
            rw [← e3, (kdW_some hk).2, cellsOf_info hinf]) (by simpa using hlen) hzc hz1
      refine ⟨_, .agg ⟨zs'⟩, run_build w t _ _ ?_, .agg q2 q3, rfl⟩
      unfold Program.built
      simp only [hi, hu, hiz, hp]
      have ez : zv.cells = zv.cells.toList.toArray := by simp
      have ep : (ps.map fun (i, x) => (i, ρ x)).toList = (ps.toList.map (·.1)).zip ((ps.toList.map (·.2)).map ρ) := by
        rw [← zip_parts]; simp
      rw [ez, ep]
      exact q1
    case array n e =>
      obtain ⟨kk, hk, hc⟩ := bo_some.1 hc
      simp only [Option.some.injEq, Prod.mk.injEq] at hc
      obtain ⟨rfl, rfl⟩ := hc
      have he : kBuild vs rows nx z.cells (ps.toList.map fun p => (p.1 * P.cellsOf e, kk)) = some r := he
      obtain ⟨l, hl, he⟩ := bo_some.1 he
      obtain rfl := rv_some he
      obtain ⟨hk1, hk2⟩ := kdW_some hk
      obtain ⟨d', hd', _⟩ := kdOf_some hk1
      obtain ⟨ie, hie⟩ := info_of hd'
      obtain ⟨zs', q1, q2, q3, _⟩ := fill_ok (place := fun i => some (i * ie.size, ie.size)) (is := ps.toList.map (·.1)) hl hv (fun j o i' hj hi' => by
        simp only [List.getElem?_map] at hi' hj
        cases hpj : ps.toList[j]? with
        | none => simp [hpj] at hi'
        | some p =>
          simp only [hpj, Option.map_some, Option.some.injEq] at hi' hj
          subst hi'; subst hj
          rw [hk2, cellsOf_info hie]) (by simp) hzc hz1
      refine ⟨_, .agg ⟨zs'⟩, run_build w t _ _ ?_, .agg q2 q3, rfl⟩
      unfold Program.built
      simp only [hi, hu, hiz, hie]
      have ez : zv.cells = zv.cells.toList.toArray := by simp
      have ep : (ps.map fun (i, x) => (i, ρ x)).toList = (ps.toList.map (·.1)).zip ((ps.toList.map (·.2)).map ρ) := by
        rw [← zip_parts]; simp
      rw [ez, ep]
      exact q1

theorem flatten_rel {l : List AV} {us : List Value} (h : VRelL ι l us) : ∀ n, VRelL ι (List.replicate n l).flatten (List.replicate n us).flatten
  | 0 => by simpa using .nil
  | n+1 => by
    simp only [List.replicate_succ, List.flatten_cons]
    exact h.append (flatten_rel h n)
theorem range_flatten (z : Array Value) (n : Nat) : (Array.range (n * z.size)).map (fun i => z[i % z.size]!) = (List.replicate n z.toList).flatten.toArray := by
  apply Array.ext_getElem?
  intro i
  rw [Array.getElem?_map]
  by_cases hi : i < n * z.size
  · have hz : 0 < z.size := Nat.pos_of_ne_zero (by intro e; rw [e] at hi; simp at hi)
    have hm : i % z.size < z.size := Nat.mod_lt _ hz
    have hlt : i < (List.replicate n z.toList).flatten.length := by simp; exact hi
    rw [show (Array.range (n * z.size))[i]? = some i from by simp [hi], List.getElem?_toArray]
    have key : ∀ (n i : Nat), i < n * z.size → (List.replicate n z.toList).flatten[i]? = z[i % z.size]? := by
      intro n
      induction n with
      | zero => intro i h; simp at h
      | succ n ih =>
        intro i h
        simp only [List.replicate_succ, List.flatten_cons]
        by_cases h1 : i < z.size
        · rw [List.getElem?_append_left (by simpa using h1), Nat.mod_eq_of_lt h1]; simp
        · rw [List.getElem?_append_right (by simpa using Nat.le_of_not_lt h1)]
          simp only [Array.length_toList]
          rw [ih (i - z.size) (by rw [Nat.succ_mul] at h; omega), ← Nat.mod_eq_sub_mod (Nat.le_of_not_lt h1)]
    rw [key n i hi]
    simp [hm]
  · have h1 : (Array.range (n * z.size))[i]? = none := by simp; omega
    rw [h1]
    symm
    simp
    omega

theorem buildSlice_ok {t : TypeId} {len : Nat} {ps : Array (Nat × Operand)} {k : K} {xs : List Operand} {ρ : Operand → Value} {vs : List AV} {C : CallF} (h : HRel IR B ι rows w) (hfr : ι nx = none) (hc : compBuildSlice P t len ps = some (k, xs)) (hv : VRelL ι vs (xs.map ρ)) (he : evK vs rows nx C k = some r) :
    ∃ u w' ι', (Instr.buildSlice t len (ps.map fun (i, x) => (i, ρ x))).run P w = .ok u w' ∧ VRel ι' r.v u ∧ Post IR B ι ι' rows w nx r.rows r.nx w' := by
  unfold compBuildSlice at hc
  cases hu : P.underlying t with
  | none => simp [hu] at hc
  | some d =>
    simp only [hu] at hc
    cases d <;> simp only at hc <;> try (cases hc; done)
    case slice e =>
      obtain ⟨z, hz, hc⟩ := bo_some.1 hc
      obtain ⟨kk, hk, hc⟩ := bo_some.1 hc
      obtain ⟨hg, hc⟩ := gd_some.1 hc
      simp only [Option.some.injEq, Prod.mk.injEq] at hc
      obtain ⟨rfl, rfl⟩ := hc
      rw [ble_nat, blt_nat] at hg
      simp only [Bool.and_eq_true, decide_eq_true_eq] at hg
      obtain ⟨hle, hpos, hzf⟩ := hg
      obtain ⟨zv, hzv, _⟩ := zeroA_some hz
      obtain ⟨hzc, hzs, hz1⟩ := zero_cells hzf hz hzv ι
      have he : bo (evParts (ps.toList.map fun p => (p.1 * P.cellsOf e, kk)) vs (List.replicate len z.cells).flatten) (fun l => rnew rows nx (.slice nx 0 len (.ex len)) (.cells 0 l)) = some r := he
      obtain ⟨l, hl, he⟩ := bo_some.1 he
      simp only [rnew, Option.some.injEq] at he
      subst he
      obtain ⟨hk1, hk2⟩ := kdW_some hk
      obtain ⟨zs', q1, q2, q3, q4⟩ := fill_ok (place := fun i => some (i * P.cellsOf e, P.cellsOf e)) (is := ps.toList.map (·.1)) hl hv (fun j o i' hj hi' => by
        simp only [List.getElem?_map] at hi' hj
        cases hpj : ps.toList[j]? with
        | none => simp [hpj] at hi'
        | some p =>
          simp only [hpj, Option.map_some, Option.some.injEq] at hi' hj
          subst hi'; subst hj
          rw [hk2]) (by simp) (flatten_rel hzc len) (fun u hu => by
            simp only [List.mem_flatten, List.mem_replicate] at hu
            obtain ⟨q, ⟨_, rfl⟩, hu⟩ := hu
            exact hz1 u hu)
      obtain ⟨ι', p1, p2⟩ := Post.row_behind (rest := []) (w1 := w) h hfr rfl (.refl _ _) zs'.length 0 e (.inl rfl) q2 q3 (by simp)
      refine ⟨.slice (some ⟨w.heap.size, 0, none⟩) len len, { w with heap := w.heap.push (.cells zs'.toArray e) }, ι', ?_, .sliceEx (L := ⟨w.heap.size, 0, zs'.length⟩) p1 (Nat.le_refl _), by simpa using p2⟩
      have ep : (ps.map fun (i, x) => (i, ρ x)).toList = (ps.toList.map (·.1)).zip ((ps.toList.map (·.2)).map ρ) := by
        rw [← zip_parts]; simp
      unfold Instr.buildSlice
      simp only [Sem.run_bind, run_underlying hu, Result.andThen_ok, run_size_pos hpos, Sem.run_ite]
      rw [if_neg (by omega)]
      simp only [Sem.run_pure, Result.andThen_ok]
      rw [ep]
      by_cases hl0 : len * P.cellsOf e = 0
      · rw [if_pos hl0]
        have : len = 0 := by
          rcases Nat.mul_eq_zero.1 hl0 with h | h
          · exact h
          · omega
        subst this
        simp only [List.replicate_zero, List.flatten_nil] at q1
        simp only [Nat.zero_mul]
        rw [show (Array.map (fun x => (#[] : Array Value)[x % (#[] : Array Value).size]!) (Array.range 0)) = [].toArray from by simp]
        rw [q1]
        simp [newRow]
      · rw [if_neg hl0]
        simp only [run_zeroValue hzv, Result.andThen_ok]
        rw [show len * P.cellsOf e = len * zv.cells.size from by rw [hzs], range_flatten, q1]
        simp [newRow]
end
end Ev
end

/- What each operation of the evaluator's code comes to in the machine: make, append. -/
section
namespace Ev
open Go Go.RowKit

section
variable {P : Program} {ι : Io} {rows : T ARow} {w : World} {nx : Nat} {r : R} {IR : Nat → IC → Code → Prop} {B : Base}

theorem bytes_run {e : TypeId} (hpos : 0 < P.cellsOf e) (w : World) : ∃ i, P.info? e = some i ∧ P.bytesOf e = i.bytes ∧ (typeInfo e).run P w = .ok i w := by
  unfold Program.cellsOf at hpos
  cases hi : P.info? e with
  | none => simp [hi] at hpos
  | some i => exact ⟨i, rfl, by simp [Program.bytesOf, hi], run_typeInfo hi w⟩

theorem small_le {n b : Nat} (h : small n b = true) : n * b ≤ 1099511627776 := by
  unfold small at h; rw [ble_nat] at h; simpa using h

theorem wrap64_nat {n : Nat} (h : n < 9223372036854775808) : IntKind.i64.wrap (n : Int) = (n : Int) :=
  wrap_id .i64 n (by simp [limN]) (by simp [limP]; omega)

theorem makeSlice_ok {t e : TypeId} {z : AV} {l c : AV} {ul uc : Value} {tl : List AV} (h : HRel IR B ι rows w) (hfr : ι nx = none) (hu : P.underlying t = some (.slice e)) (hpos : 0 < P.cellsOf e) (hbp : 0 < P.bytesOf e) (hzf : zeroFits P e = true) (hz : zeroA P e = some z)
    (hl : VRel ι l ul) (hc : VRel ι c uc) (he : evRare (l :: c :: tl) rows nx (.makeSlice z.cells (P.bytesOf e)) = some r) :
    ∃ u w' ι', (Instr.makeSlice t ul uc).run P w = .ok u w' ∧ VRel ι' r.v u ∧ Post IR B ι ι' rows w nx r.rows r.nx w' := by
  simp only [evRare, u2] at he
  obtain ⟨k, m, rfl, he1⟩ := asNat_some.1 he
  obtain ⟨k', q, rfl, he2⟩ := asNat_some.1 he1
  obtain ⟨hg, he3⟩ := gd_some.1 he2
  simp only [rnew, Option.some.injEq] at he3
  subst he3
  rw [ble_nat] at hg
  simp only [Bool.and_eq_true, decide_eq_true_eq] at hg
  obtain ⟨hmq, hsm⟩ := hg
  have hsm := small_le hsm
  have hq : q ≤ 1099511627776 := by
    have : q * 1 ≤ q * P.bytesOf e := Nat.mul_le_mul_left q hbp
    omega
  obtain ⟨zv, hzv, _⟩ := zeroA_some hz
  obtain ⟨hzc, hzs, hz1⟩ := zero_cells hzf hz hzv ι
  obtain ⟨i, hi, hib, hir⟩ := bytes_run hpos w
  cases hl; cases hc
  have hrel := flatten_rel hzc q
  obtain ⟨ι', p1, p2⟩ := Post.row_behind (rest := []) (w1 := w) h hfr rfl (.refl _ _) ((List.replicate q zv.cells.toList).flatten.length) 0 e (.inl rfl) hrel (fun u hu => by
        simp only [List.mem_flatten, List.mem_replicate] at hu
        obtain ⟨x, ⟨_, rfl⟩, hu⟩ := hu
        exact hz1 u hu) (by simp)
  refine ⟨.slice (some ⟨w.heap.size, 0, none⟩) m q, { w with heap := w.heap.push (.cells ((List.replicate q zv.cells.toList).flatten).toArray e) }, ι', ?_, .sliceEx (L := ⟨w.heap.size, 0, _⟩) p1 hmq, by rw [repl_eq]; simpa using p2⟩
  unfold Instr.makeSlice
  simp only [Sem.run_bind, run_underlying hu, Result.andThen_ok, Go.asInt, asIntOf, Sem.run_pure, hir]
  have w1 : IntKind.i64.wrap (Int.ofNat m) = (m : Int) := wrap64_nat (by omega)
  have w2 : IntKind.i64.wrap (Int.ofNat q) = (q : Int) := wrap64_nat (by omega)
  simp only [w1, w2]
  have hbq : (i.bytes : Int) * (q : Int) ≤ 1099511627776 := by
    have h2 : (i.bytes : Int) * (q : Int) = ((i.bytes * q : Nat) : Int) := (Int.natCast_mul _ _).symm
    have h3 : i.bytes * q ≤ 1099511627776 := by rw [← hib, Nat.mul_comm]; exact hsm
    rw [h2]
    generalize i.bytes * q = x at h3
    omega
  have e48 : (2 : Int) ^ 48 = 281474976710656 := rfl
  have hcond : ((decide ((q : Int) < 0) || decide ((i.bytes : Int) * (q : Int) > 2 ^ 48)) || decide ((m : Int) < 0) || decide ((m : Int) > (q : Int))) = false := by
    rw [e48]
    rw [Bool.or_eq_false_iff, Bool.or_eq_false_iff, Bool.or_eq_false_iff]
    refine ⟨⟨⟨?_, ?_⟩, ?_⟩, ?_⟩ <;> refine decide_eq_false ?_ <;> omega
  simp only [hcond, Bool.false_eq_true, if_false, Sem.run_bind, Sem.run_ite, Sem.run_pure, Result.andThen_ok, run_askRoom, Int.toNat_natCast, run_size_pos hpos]
  by_cases h0 : q * P.cellsOf e = 0
  · rw [if_pos h0]
    have : q = 0 := by
      rcases Nat.mul_eq_zero.1 h0 with h | h
      · exact h
      · omega
    subst this
    simp [newRow, show Array.range 0 = #[] from rfl]
  · rw [if_neg h0]
    simp only [run_zeroValue hzv, Result.andThen_ok]
    rw [show q * P.cellsOf e = q * zv.cells.size from by rw [hzs], range_flatten]
    simp [newRow]

theorem makeMap_ok {t : TypeId} (h : HRel IR B ι rows w) (hfr : ι nx = none) {vs : List AV} (he : evRare vs rows nx .makeMap = some r) :
    ∃ u w' ι', (Instr.makeMap t none).run P w = .ok u w' ∧ VRel ι' r.v u ∧ Post IR B ι ι' rows w nx r.rows r.nx w' := by
  simp only [evRare, rnew, Option.some.injEq] at he
  subst he
  obtain ⟨ι', q1, q2⟩ := Post.new_row (nx := nx) h hfr (.map #[] 0) 0 (.map []) (fun _ _ _ => .map .nil ⟨rfl, rfl⟩)
  exact ⟨.map (some w.heap.size), _, ι', rfl, .map (L := ⟨w.heap.size, 0, 0⟩) q1, q2⟩

theorem below_drew {n : Nat} (w : World) (k : Nat) : Below n w { w with drawn := k } := ⟨rfl, rfl, rfl, Nat.le_refl _, fun _ _ => rfl⟩

/-- Where a list of bytes lies as cells. -/
theorem bytes_rel (s : List UInt8) : VRelL ι (s.map fun c => .int .u8 (.ofNat c.toNat)) (s.map fun b => Value.int .u8 b.toNat) := by
  induction s with
  | nil => exact .nil
  | cons c s ih => exact .cons (.int _ _) ih
theorem bytes_one (s : List UInt8) : ∀ u ∈ (s.map fun b => Value.int .u8 b.toNat), u.oneCell' = true := by
  intro u hu
  simp only [List.mem_map] at hu
  obtain ⟨b, _, rfl⟩ := hu
  rfl
end
end Ev
end

/- What each operation of the evaluator's code comes to in the machine: append. -/
section
namespace Ev
open Go Go.RowKit

section
variable {P : Program} {ι : Io} {rows : T ARow} {w : World} {nx : Nat} {r : R} {IR : Nat → IC → Code → Prop} {B : Base}

/-- A row that takes over another's block. -/
theorem Post.rebind {w' : World} {b : Nat} {r0 r : ARow} {L L' : Loc} {o : Obj} (hro : r0.isRo = false) (h : HRel IR B ι rows w) (hfr : ι nx = none) (he : rows.get b = some r0) (hi : ι b = some L) (hL : L'.blk = L.blk)
    (hw : w'.heap[L.blk]? = some o) (hr : ∀ ι', Ext ι ι' → RowRel IR ι' L' r o) (hoth : ∀ k, k ≠ L.blk → w'.heap[k]? = w.heap[k]?) (hsz : w'.heap.size = w.heap.size) (hb : Below B.n w w') :
    ∃ ι', ι' nx = some L' ∧ Post IR B ι ι' rows w nx ((rows.set b none).set nx (some r)) (nx+1) w' := by
  let ι' : Io := fun b => if b = nx then some L' else ι b
  have hext : Ext ι ι' := fun b L' e => by
    show (if b = nx then _ else ι b) = some L'
    rw [if_neg (by intro e'; subst e'; rw [hfr] at e; cases e)]; exact e
  have hs : ∀ b, b ≠ nx → ι' b = ι b := fun b hb => if_neg hb
  have hn : ι' nx = some L' := if_pos rfl
  have hget : ∀ b' rr, ((rows.set b none).set nx (some r)).get b' = some rr → (b' = nx ∧ rr = r) ∨ (b' ≠ nx ∧ b' ≠ b ∧ rows.get b' = some rr) := fun b' rr e => by
    rw [T.get_set] at e
    split at e
    · rename_i hb'
      simp only [Option.some.injEq] at e
      exact .inl ⟨hb', e.symm⟩
    · rename_i hb'
      rw [T.get_set] at e
      split at e
      · cases e
      · rename_i hb2
        exact .inr ⟨hb', hb2, e⟩
  refine ⟨ι', hn, hext, fun b _ hb => hs b (by omega), fun b hb => hs b (by omega), Nat.le_succ _, ⟨fun b' rr e => ?_, fun b1 b2 r1 r2 L1 L2 e1 e2 ho12 i1 i2 hk => ?_, fun b' rr L1 e i => ?_, h.below.trans hb, by rw [hsz]; exact h.room⟩, fun k _ ho => ?_, Nat.le_of_eq hsz.symm, fun k hk => ?_⟩
  · rcases hget b' rr e with ⟨rfl, rfl⟩ | ⟨h1, h2, h3⟩
    · exact ⟨L', o, hn, by rw [hL]; exact hw, hr ι' hext⟩
    · obtain ⟨L1, o1, q1, q2, q3⟩ := h.row b' rr h3
      refine ⟨L1, o1, by rw [hs b' h1]; exact q1, ?_, q3.mono hext⟩
      rw [hoth _ (fun hk => h2 (h.inj b' b rr r0 L1 L h3 he (.inr hro) q1 hi hk))]; exact q2
  · rcases hget b1 r1 e1 with ⟨rfl, rfl⟩ | ⟨a1, a2, a3⟩ <;> rcases hget b2 r2 e2 with ⟨rfl, rfl⟩ | ⟨c1, c2, c3⟩
    · rfl
    · rw [hn] at i1; cases i1
      rw [hs b2 c1] at i2
      exact absurd (h.inj b2 b r2 r0 L2 L c3 he (.inr hro) i2 hi (by rw [← hk, hL])) c2
    · rw [hn] at i2; cases i2
      rw [hs b1 a1] at i1
      exact absurd (h.inj b1 b r1 r0 L1 L a3 he (.inr hro) i1 hi (by rw [hk, hL])) a2
    · rw [hs b1 a1] at i1
      rw [hs b2 c1] at i2
      exact h.inj b1 b2 r1 r2 L1 L2 a3 c3 ho12 i1 i2 hk
  · intro hr2
    rcases hget b' rr e with ⟨rfl, rfl⟩ | ⟨h1, h2, h3⟩
    · rw [hn] at i; cases i
      rw [hL]; exact h.low b r0 L he hi hro
    · rw [hs b' h1] at i
      exact h.low b' rr L1 h3 i hr2
  · exact hoth k (fun hk => ho ⟨b, r0, L, he, hi, hk.symm⟩)
  · obtain ⟨b', rr, L1, e, i, hk⟩ := hk
    rcases hget b' rr e with ⟨rfl, rfl⟩ | ⟨h1, h2, h3⟩
    · rw [hn] at i; cases i
      exact .inl ⟨b, r0, L, he, hi, by rw [← hk, hL]⟩
    · rw [hs b' h1] at i
      exact .inl ⟨b', rr, L1, h3, i, hk⟩

theorem append_room (t tx ty e : TypeId) (i : TypeInfo) (ht : P.underlying t = some (.slice e)) (hi : P.info? e = some i) (g off sLen sCap : Nat) (x : Value) (n : Nat) (news : List Value) (hs : Go.Src P i.size tx x n news w)
    (hroom : sLen + n ≤ sCap) {cur : Array Value} {e' : TypeId} {lo hi' : Nat} (hg : w.heap[g]? = some (.cells cur e' (lo, hi'))) (hf : ∀ x, x < cur.size → ¬ (lo ≤ x ∧ x < hi')) (hfit : off + sLen * i.size + news.length ≤ cur.size) :
    (Builtin.append_ #[t, tx] ty #[.slice (some ⟨g, off, none⟩) sLen sCap, x]).run P w = .ok (.slice (some ⟨g, off, none⟩) (sLen + n) sCap)
      (w.setRow g (cur.toList.take (off + sLen * i.size) ++ news ++ cur.toList.drop (off + sLen * i.size + news.length)).toArray) := by
  have hst := run_storeRow (P := P) g (off + sLen * i.size) e' lo hi' news 0 cur w hg hf (by simpa using hfit) hs.one
  simp only [Nat.add_zero] at hst
  rcases hs.kind with ⟨e', hk⟩ | hk <;> simp [Builtin.append_, run_underlying ht, run_underlying hk, Go.sizeOf, typeInfo, hi, hs.len, hroom, hs.cells, Addr.add_lit, hst]

/-- What is appended. -/
theorem src_ok {tx : TypeId} {sz : Nat} {x : AV} {ux : Value} {src : List AV} (h : HRel IR B ι rows w) (hk : (∃ e', P.underlying tx = some (.slice e')) ∨ P.underlying tx = some .string) (hx : VRel ι x ux) (hs : srcCells rows sz x = some src) :
    ∃ n news, Go.Src P sz tx ux n news w ∧ VRelL ι src news := by
  have key : ∀ (a : Addr) (n c : Nat) (news : List Value), news.length = n * sz → (∀ j u, news[j]? = some u → w.cell? (a.add j) = some u) → (∀ u ∈ news, u.oneCell' = true) → Go.Src P sz tx (.slice (some a) n c) n news w :=
    fun a n c news hl hnews h1 => ⟨hk, fun _ => rfl, run_firstCells_some w sz n a n c news hl hnews, run_firstCells_some w.drew sz n a n c news hl (by simpa using hnews), hl, h1⟩
  have keyN : ∀ c, Go.Src P sz tx (.slice none 0 c) 0 [] w := fun c => ⟨hk, fun _ => rfl, run_firstCells_none w sz 0 0 c, run_firstCells_none w.drew sz 0 0 c, by simp, fun _ h => by cases h⟩
  have sl : ∀ {b o len : Nat} {q : ARow} {L : Loc} {l : List AV} (c : Nat), rows.get b = some q → rdRow q = some l → ι b = some L → takeN (Nat.mul len sz) (dropN o l) = some src → ∃ n news, Go.Src P sz tx (.slice (some (L.at o)) len c) n news w ∧ VRelL ι src news := by
    intro b o len q L l c hb hq hi hs
    obtain ⟨L', hi', hc⟩ := cell_at h hb hq
    rw [hi] at hi'; cases hi'
    rw [dropN_eq] at hs
    obtain ⟨hn, rfl⟩ := takeN_some.1 hs
    simp only [Nat.mul_eq, List.length_drop] at hn
    by_cases hz : len * sz = 0
    · refine ⟨len, [], key _ _ _ [] (by simpa using hz.symm) (by simp) (by simp), ?_⟩
      simp only [Nat.mul_eq, hz, List.take_zero]
      exact .nil
    · obtain ⟨vs, h1, h2, h3, h4⟩ := run_loadRow (P := P) hc o (len * sz) (by omega)
      have hcell : ∀ j u, vs[j]? = some u → w.cell? ((L.at o).add j) = some u := by
        intro j u hu
        have hj : j < vs.length := (List.getElem?_eq_some_iff.1 hu).1
        have : ∀ j, j < len * sz → ∃ u, w.cell? ((L.at o).add j) = some u := fun j hj => by
          obtain ⟨u, hu, _⟩ := hc (o + j) l[o + j] (by simp [List.getElem?_eq_getElem (show o + j < l.length by omega)])
          exact ⟨u, by rw [addr_add]; exact hu⟩
        obtain ⟨us, hus⟩ : ∃ us : List Value, us.length = len * sz ∧ ∀ j u, us[j]? = some u → w.cell? ((L.at o).add j) = some u := by
          refine ⟨(List.range (len * sz)).map fun j => (w.cell? ((L.at o).add j)).getD undef, by simp, fun j u hu => ?_⟩
          simp only [List.getElem?_map, Option.map_eq_some_iff] at hu
          obtain ⟨j', hj', rfl⟩ := hu
          have hlt : j < len * sz := by
            have := (List.getElem?_eq_some_iff.1 hj').1
            simpa using this
          have e : j' = j := by
            rw [List.getElem?_range hlt] at hj'
            simpa using hj'.symm
          subst e
          obtain ⟨u, hu⟩ := this j' hlt
          rw [hu]; rfl
        have h5 := run_loadCells_list (P := P) w (L.at o) us hus.2
        rw [hus.1, h1] at h5
        have : vs = us := by simpa using h5
        subst this
        exact hus.2 j u hu
      exact ⟨len, vs, key _ _ _ vs h4 hcell h3, h2⟩
  cases hx with
  | sliceEx hi _ =>
    obtain ⟨_, l, hb, hq, hs⟩ := asRead_some.1 hs
    exact sl _ hb hq hi hs
  | sliceOp hi _ _ =>
    obtain ⟨_, l, hb, hq, hs⟩ := asRead_some.1 hs
    exact sl _ hb hq hi hs
  | nilSlice =>
    simp only [srcCells, Option.some.injEq] at hs
    subst hs
    exact ⟨0, [], keyN 0, .nil⟩
  | empty p c =>
    simp only [srcCells, Option.some.injEq] at hs
    subst hs
    cases p with
    | none => exact ⟨0, [], keyN c, .nil⟩
    | some a => exact ⟨0, [], key a 0 c [] (by simp) (by simp) (by simp), .nil⟩
  | str s =>
    simp only [srcCells] at hs
    obtain ⟨hz, hs2⟩ := gd_some.1 hs
    rw [beq_nat] at hz
    simp only [decide_eq_true_eq] at hz
    subst hz
    simp only [mapN_eq, Option.some.injEq] at hs2
    subst hs2
    exact ⟨(⟨⟨s⟩⟩ : ByteArray).size, byteCells ⟨⟨s⟩⟩, ⟨hk, fun _ => rfl, firstCells_string _ w, firstCells_string _ w.drew, by rw [byteCells_length, Nat.mul_one], fun u hu => by
      obtain ⟨_, _, rfl⟩ := List.mem_map.1 hu
      rfl⟩, by simpa [byteCells] using bytes_rel s⟩
  | _ => simp [srcCells] at hs

/-- What an append of some value comes to. -/
structure Apps (P : Program) (t tx ty e : TypeId) (i : TypeInfo) (z : Value) (ux : Value) (n : Nat) (news : List Value) (w : World) : Prop where
  nothing : n = 0 → news = [] → ∀ (base : Option Addr) (sLen sCap : Nat), sLen ≤ sCap → (Builtin.append_ #[t, tx] ty #[.slice base sLen sCap, ux]).run P w = .ok (.slice base sLen sCap) w
  room : ∀ (g off sLen sCap : Nat) {cur : Array Value} {e' : TypeId} {lo hi' : Nat}, sLen + n ≤ sCap → w.heap[g]? = some (.cells cur e' (lo, hi')) → (∀ x, x < cur.size → ¬ (lo ≤ x ∧ x < hi')) → off + sLen * i.size + news.length ≤ cur.size →
    (Builtin.append_ #[t, tx] ty #[.slice (some ⟨g, off, none⟩) sLen sCap, ux]).run P w = .ok (.slice (some ⟨g, off, none⟩) (sLen + n) sCap)
      (w.setRow g (cur.toList.take (off + sLen * i.size) ++ news ++ cur.toList.drop (off + sLen * i.size + news.length)).toArray)
  grow : ∀ (base : Option Addr) (sLen sCap : Nat) (olds : List Value), (Builtin.firstCells i.size sLen (.slice base sLen sCap)).run P w.drew = .ok olds.toArray w.drew → sCap < sLen + n → ((sLen + n : Nat) : Int) ≤ 9223372036854775807 → Builtin.nextslicecap (sLen + n) sCap * i.bytes ≤ 281474976710656 →
    (Builtin.append_ #[t, tx] ty #[.slice base sLen sCap, ux]).run P w = .ok (.slice (some ⟨w.heap.size, 0, none⟩) (sLen + n) (grownCap w (sLen + n) sCap e))
        (w.drew.alloc (.cells ((olds ++ news).toArray ++ Builtin.zeroCells z.cells (grownCap w (sLen + n) sCap e - (sLen + n))) e))
  newsLen : news.length = n * i.size
  one : ∀ u ∈ news, u.oneCell' = true

theorem Apps.ofSrc {t tx ty e : TypeId} {i : TypeInfo} {z ux : Value} {n : Nat} {news : List Value} (ht : P.underlying t = some (.slice e)) (hi : P.info? e = some i) (hz : i.zero = some z) (hs : Go.Src P i.size tx ux n news w) : Apps P t tx ty e i z ux n news w where
  nothing := fun h1 h2 base sLen sCap hle => by subst h1; subst h2; exact run_append_nothing w t tx ty e i ht hi base sLen sCap hle ux hs
  room := fun g off sLen sCap _ _ _ _ h1 h2 h3 h4 => append_room t tx ty e i ht hi g off sLen sCap ux n news hs h1 h2 h3 h4
  grow := fun base sLen sCap olds h1 h2 h3 h4 => run_append_grow_src w t tx ty e i z ht hi hz base sLen sCap olds h1 ux n news hs h2 h3 h4
  newsLen := hs.newsLen
  one := hs.one

theorem Apps.ofZeros {t tx ty e : TypeId} {i : TypeInfo} {z : Value} {k k' : IntKind} {n : Nat} (ht : P.underlying t = some (.slice e)) (htx : P.underlying tx = some (.int k')) (hi : P.info? e = some i) (hz : i.zero = some z) (hzs : z.cells.size = i.size) (hz1 : ∀ u ∈ z.cells.toList, u.oneCell' = true) (hb : 0 < i.bytes) (hsm : n * i.bytes ≤ 1099511627776) :
    Apps P t tx ty e i z (.int k n) n (List.replicate n z.cells.toList).flatten w := by
  have hn : n ≤ 1099511627776 := by
    have : n * 1 ≤ n * i.bytes := Nat.mul_le_mul_left n hb
    omega
  have hw : IntKind.i64.wrap (n : Int) = (n : Int) := wrap64_nat (by omega)
  have h0 : ¬ ((n : Int) < 0) := by omega
  have e48 : (2 : Int) ^ 48 = 281474976710656 := rfl
  have hbq : ¬ ((n : Int) * (i.bytes : Int) > 281474976710656) := by
    have h2 : (n : Int) * (i.bytes : Int) = ((n * i.bytes : Nat) : Int) := (Int.natCast_mul _ _).symm
    rw [h2]
    generalize n * i.bytes = x at hsm
    omega
  have hrep : Builtin.zeroCells z.cells n = (List.replicate n z.cells.toList).flatten.toArray := range_flatten z.cells n
  have hone : ∀ u ∈ (List.replicate n z.cells.toList).flatten, u.oneCell' = true := fun u hu => by
    simp only [List.mem_flatten, List.mem_replicate] at hu
    obtain ⟨q, ⟨_, rfl⟩, hu⟩ := hu
    exact hz1 u hu
  have hlen : (List.replicate n z.cells.toList).flatten.length = n * i.size := by simp [hzs]
  have hzr : ∀ w' : World, (zeroValue e).run P w' = .ok z w' := fun w' => by simp [zeroValue, typeInfo, hi, hz]
  have hnil : n * i.size = 0 → (List.replicate n z.cells.toList).flatten = [] := fun h => List.eq_nil_of_length_eq_zero (by rw [hlen, h])
  refine ⟨fun h1 h2 base sLen sCap hle => ?_, fun g off sLen sCap cur e' lo hi' h1 h2 h3 h4 => ?_, fun base sLen sCap olds h1 h2 h3 h4 => ?_, hlen, hone⟩
  · subst h1
    have hw0 : IntKind.i64.wrap 0 = 0 := hw
    unfold Builtin.append_
    cases base <;> simp [run_underlying ht, run_underlying htx, Go.sizeOf, typeInfo, hi, Go.asInt, asIntOf, hle, hw0, storeCells]
  · have hst := run_storeRow (P := P) g (off + sLen * i.size) e' lo hi' (List.replicate n z.cells.toList).flatten 0 cur w h2 h3 (by simpa using h4) hone
    simp only [Nat.add_zero] at hst
    have e1 : (Builtin.append_ #[t, tx] ty #[.slice (some ⟨g, off, none⟩) sLen sCap, .int k n]).run P w = ((storeCells ⟨g, off + sLen * i.size, none⟩ (List.replicate n z.cells.toList).flatten).run P w).andThen fun _ w' => .ok (.slice (some ⟨g, off, none⟩) (sLen + n) sCap) w' := by
      by_cases hz0 : n * i.size = 0
      · simp [Builtin.append_, run_underlying ht, run_underlying htx, Go.sizeOf, typeInfo, hi, Go.asInt, asIntOf, hw, h0, hbq, h1, Addr.add_lit, hz0, hnil hz0]
      · simp [Builtin.append_, run_underlying ht, run_underlying htx, Go.sizeOf, typeInfo, hi, Go.asInt, asIntOf, hw, h0, hbq, h1, Addr.add_lit, hz0, hzr, hrep]
    rw [e1, hst]
    rfl
  · have hn' : ¬ (sLen + n ≤ sCap) := by omega
    have h63' : ¬ (9223372036854775807 < ((sLen : Int) + (n : Int))) := by omega
    have h48' : ¬ (281474976710656 < Builtin.nextslicecap (sLen + n) sCap * i.bytes) := by omega
    by_cases hz0 : n * i.size = 0
    · simp [Builtin.append_, run_underlying ht, run_underlying htx, Go.sizeOf, typeInfo, hi, Go.asInt, asIntOf, hw, h0, hbq, hn', h63', h48', Question.forced, h1, hz0, hnil hz0, hzr, newRow, grownCap]
    · simp [Builtin.append_, run_underlying ht, run_underlying htx, Go.sizeOf, typeInfo, hi, Go.asInt, asIntOf, hw, h0, hbq, hn', h63', h48', Question.forced, h1, hz0, hzr, hrep, newRow, grownCap]
      congr 2
      apply Array.ext'
      simp [List.append_assoc]

theorem drew_below (n : Nat) (w : World) : Below n w w.drew := ⟨rfl, rfl, rfl, Nat.le_refl _, fun _ _ => rfl⟩

theorem small_fits {need cap b : Nat} (h : small need b = true) (hb : 0 < b) (hc : cap < need) : ((need : Nat) : Int) ≤ 9223372036854775807 ∧ Builtin.nextslicecap need cap * b ≤ 281474976710656 := by
  have h1 := small_le h
  have h2 : need * 1 ≤ need * b := Nat.mul_le_mul_left need hb
  exact ⟨by omega, growslice_fits hc (by omega)⟩

/-- The cells of a slice. -/
theorem old_cells {b o len cap size g : Nat} {l : List AV} {L : Loc} (h : HRel IR B ι rows w) (hb : rows.get b = some (.cells g l)) (hL : ι b = some L) (hn : len * size ≤ l.length - o) :
    ∃ olds : List Value, (Builtin.firstCells size len (.slice (some (L.at o)) len cap)).run P w.drew = .ok olds.toArray w.drew ∧ VRelL ι ((l.drop o).take (len * size)) olds ∧ (∀ u ∈ olds, u.oneCell' = true) ∧ olds.length = len * size := by
  obtain ⟨L', hi, hc⟩ := cell_at (h.heap_eq (w' := w.drew) rfl (drew_below _ w)) hb rfl
  rw [hL] at hi; cases hi
  by_cases hz : len * size = 0
  · exact ⟨[], run_firstCells_some w.drew size len _ len cap [] (by simpa using hz.symm) (by simp), by rw [hz, List.take_zero]; exact .nil, by simp, by simpa using hz.symm⟩
  · obtain ⟨vs, h1, h2, h3, h4⟩ := run_loadRow (P := P) hc o (len * size) (by omega)
    exact ⟨vs, h1, h2, h3, h4⟩

/-- It grows: the cells before and those that come. -/
theorem append_grow {t tx ty e : TypeId} {i : TypeInfo} {z : Value} {tg : Nat} (htg : tg = 0 ∨ tg = e + 1) (hzs : z.cells.size = i.size) (hb : 0 < i.bytes)
    (h : HRel IR B ι rows w) (hfr : ι nx = none) {base : Option Addr} {sLen sCap : Nat} {olds : List Value} {old src : List AV} {ux : Value} {n : Nat} {news : List Value}
    (hold : (Builtin.firstCells i.size sLen (.slice base sLen sCap)).run P w.drew = .ok olds.toArray w.drew) (ho : VRelL ι old olds) (ho1 : ∀ u ∈ olds, u.oneCell' = true) (hol : olds.length = sLen * i.size)
    (hs : Apps P t tx ty e i z ux n news w) (hn : VRelL ι src news) (hg : sCap < sLen + n) (hsm : small (sLen + n) i.bytes = true) :
    ∃ u w' ι', (Builtin.append_ #[t, tx] ty #[.slice base sLen sCap, ux]).run P w = .ok u w' ∧ VRel ι' (.slice nx 0 (sLen + n) (.op i.size)) u ∧ Post IR B ι ι' rows w nx (rows.set nx (some (.cells tg (old ++ src)))) (nx+1) w' := by
  obtain ⟨h63, hfit⟩ := small_fits hsm hb hg
  have hrun := hs.grow base sLen sCap olds hold hg h63 hfit
  have hge := grownCap_ge w (sLen + n) sCap e
  have hlen : (olds ++ news).length + (Builtin.zeroCells z.cells (grownCap w (sLen + n) sCap e - (sLen + n))).toList.length = grownCap w (sLen + n) sCap e * i.size := by
    rw [List.length_append, hol, hs.newsLen, Array.length_toList, size_zeroCells, hzs, ← Nat.add_mul, ← Nat.add_mul]
    congr 1; omega
  obtain ⟨ι', p1, p2⟩ := Post.row_behind (rest := (Builtin.zeroCells z.cells (grownCap w (sLen + n) sCap e - (sLen + n))).toList) (w1 := w.drew) (nx := nx) h hfr rfl (drew_below _ w) _ tg e htg (ho.append hn) (fun u hu => by
    rcases List.mem_append.1 hu with hu | hu
    · exact ho1 u hu
    · exact hs.one u hu) hlen
  refine ⟨_, _, ι', hrun, .sliceOp (L := ⟨w.heap.size, 0, _⟩) p1 hge (by simp), ?_⟩
  have e1 : ((olds ++ news).toArray ++ Builtin.zeroCells z.cells (grownCap w (sLen + n) sCap e - (sLen + n))) = (olds ++ news ++ (Builtin.zeroCells z.cells (grownCap w (sLen + n) sCap e - (sLen + n))).toList).toArray := by
    apply Array.ext'; simp
  rw [e1]
  exact p2

theorem tagR_keep {g t o e sh : Nat} (h : g = 0 ∨ (g = e + 1 ∧ sh = 0)) : tagR g t o = 0 ∨ (tagR g t o = e + 1 ∧ sh + o = 0) := by
  unfold tagR
  split
  · rename_i h1
    split
    · rename_i h2
      have h1' := Nat.eq_of_beq_eq_true h1
      have h2' := Nat.eq_of_beq_eq_true h2
      subst h1'; subst h2'
      rcases h with h | ⟨h, h'⟩
      · exact .inl h
      · exact .inr ⟨h, h'⟩
    · exact .inl rfl
  · exact .inl rfl
theorem tagR_new (g t o : Nat) {e : Nat} (h : t = e + 1) : tagR g t o = 0 ∨ tagR g t o = e + 1 := by
  unfold tagR
  split
  · split
    · exact .inr h
    · exact .inl rfl
  · exact .inl rfl

theorem Post.drop_then {ι ι' : Io} {b nx' : Nat} {rows' : T ARow} {w' : World} (h : HRel IR B ι rows w) (k : Post IR B ι ι' (rows.set b none) w nx rows' nx' w') : Post IR B ι ι' rows w nx rows' nx' w' :=
  (Post.drop_row (nx := nx) b h).trans k

theorem appTo_ok {t tx ty e : TypeId} {i : TypeInfo} {z : Value} (hzs : z.cells.size = i.size) (hpos : 0 < i.size) (hb : 0 < i.bytes)
    (h : HRel IR B ι rows w) (hfr : ι nx = none) {a : AV} {ua ux : Value} {src : List AV} {n : Nat} {news : List Value} (ha : VRel ι a ua) (hs : Apps P t tx ty e i z ux n news w) (hn : VRelL ι src news)
    (he : appTo rows nx i.size i.bytes (Nat.succ e) a src = some r) :
    ∃ u w' ι', (Builtin.append_ #[t, tx] ty #[ua, ux]).run P w = .ok u w' ∧ VRel ι' r.v u ∧ Post IR B ι ι' rows w nx r.rows r.nx w' := by
  have hsl : src.length = n * i.size := by rw [hn.length, hs.newsLen]
  have hdiv : Nat.div (lenN src) i.size = n := by
    rw [lenN_eq, hsl]; exact Nat.mul_div_cancel n hpos
  have hnil : src = [] → n = 0 ∧ news = [] := fun e0 => by
    subst e0
    refine ⟨?_, hn.nil_inv⟩
    have e1 : n * i.size = 0 := by simpa using hsl.symm
    rcases Nat.mul_eq_zero.1 e1 with h | h
    · exact h
    · omega
  cases ha with
  | nilSlice =>
    simp only [appTo] at he
    unfold appNil at he
    split at he
    · rename_i e0
      obtain ⟨rfl, rfl⟩ := hnil rfl
      obtain rfl := rv_some he
      exact ⟨_, w, ι, hs.nothing rfl rfl none 0 0 (Nat.le_refl _), .nilSlice, .refl nx h⟩
    · rename_i hne
      have hn0 : 0 < n := by
        rcases Nat.eq_zero_or_pos n with h0 | h0
        · subst h0
          exact absurd (List.eq_nil_of_length_eq_zero (by simpa using hsl)) hne
        · exact h0
      rw [hdiv] at he
      obtain ⟨hsm, he1⟩ := gd_some.1 he
      simp only [rnew, Option.some.injEq] at he1
      subst he1
      obtain ⟨u, w', ι', q1, q2, q3⟩ := append_grow (t := t) (tx := tx) (ty := ty) (old := []) (.inr rfl) hzs hb h hfr (run_firstCells_none w.drew i.size 0 0 0) .nil (by simp) (by simp) hs hn (by omega) (by rw [Nat.zero_add]; exact hsm)
      refine ⟨u, w', ι', q1, ?_, by simpa using q3⟩
      rw [Nat.zero_add] at q2; exact q2
  | @sliceEx b o len c L hL hle =>
    obtain ⟨g, l, hbl, he1⟩ := asCells_some.1 (show asCells (rows.get b) (fun g l => appEx rows nx i.size i.bytes (Nat.succ e) g b o len c src l) = some r from he)
    unfold appEx at he1
    rw [hdiv] at he1
    obtain ⟨L', ob, hi', hw, hr⟩ := h.row b _ hbl
    rw [hL] at hi'; cases hi'
    cases hr with
    | @cells _ _ cur e' lo hi2 hsz hcs hll hf hgt =>
      by_cases hroom : len + n ≤ c
      · have hle' : Nat.ble (Nat.add len n) c = true := by rw [ble_nat]; exact decide_eq_true hroom
        rw [hle'] at he1
        obtain ⟨l', hl', he2⟩ := bo_some.1 he1
        obtain ⟨hp1, rfl⟩ := putN_some.1 hl'
        simp only [rset, Option.some.injEq] at he2
        subst he2
        simp only [Nat.add_eq, Nat.mul_eq] at hp1
        have hfit : L.sh + o + len * i.size + news.length ≤ cur.size := by
          rw [hs.newsLen, ← hsl]; omega
        have hrun := hs.room L.blk (L.sh + o) len c hroom hw hf hfit
        refine ⟨_, _, ι, hrun, .sliceEx hL (by simpa using hroom), Post.set_row rfl h hbl hL (setRow_heap w L.blk cur _ e' _ hw) (.cells ?_ ?_ ?_ ?_ hgt) (fun k hk => setRow_other w L.blk k _ hk) (by simp [World.setRow]) (below_setRow w _ (h.low b _ L hbl hL rfl))⟩
        · simp only [List.size_toArray, List.length_append, List.length_take, List.length_drop, Array.length_toList]; omega
        · have := hcs.put hn hs.one hp1
          simpa [Nat.add_assoc] using this
        · simp only [List.size_toArray, List.length_append, List.length_take, List.length_drop, Array.length_toList, Nat.add_eq, Nat.mul_eq]
          have := hn.length
          omega
        · intro x hx
          refine hf x ?_
          simp only [List.size_toArray, List.length_append, List.length_take, List.length_drop, Array.length_toList] at hx
          omega
      · have hle' : Nat.ble (Nat.add len n) c = false := by rw [ble_nat]; exact decide_eq_false hroom
        rw [hle'] at he1
        obtain ⟨hsm, he2⟩ := gd_some.1 he1
        obtain ⟨old, hold, he3⟩ := bo_some.1 he2
        simp only [rnew, Option.some.injEq] at he3
        subst he3
        rw [dropN_eq] at hold
        obtain ⟨hn1, rfl⟩ := takeN_some.1 hold
        simp only [Nat.mul_eq, List.length_drop] at hn1
        obtain ⟨olds, k1, k2, k3, k4⟩ := old_cells (P := P) h hbl hL (len := len) (cap := c) (size := i.size) hn1
        obtain ⟨u, w', ι', q1, q2, q3⟩ := append_grow (t := t) (tx := tx) (ty := ty) (.inr rfl) hzs hb h hfr k1 k2 k3 k4 hs hn (by omega) hsm
        exact ⟨u, w', ι', q1, q2, by rw [appN_eq]; exact q3⟩
  | @sliceOp b o len c s L hL hle hfit =>
    obtain ⟨g, l, hbl, he1⟩ := asCells_some.1 (show asCells (rows.get b) (fun g l => match src with
      | [] => rv rows nx (.slice b o len (.op s))
      | src => gd (Nat.beq s i.size) (appOp rows nx i.size i.bytes (Nat.succ e) g b o len src l)) = some r from he)
    split at he1
    · obtain ⟨rfl, rfl⟩ := hnil rfl
      obtain rfl := rv_some he1
      exact ⟨_, w, ι, hs.nothing rfl rfl _ len c hle, .sliceOp hL hle hfit, .refl nx h⟩
    · obtain ⟨hs1, he2⟩ := gd_some.1 he1
      rw [beq_nat] at hs1
      simp only [decide_eq_true_eq] at hs1
      subst hs1
      unfold appOp at he2
      rw [hdiv] at he2
      obtain ⟨hsm, he3⟩ := gd_some.1 he2
      obtain ⟨old, hold, he4⟩ := bo_some.1 he3
      simp only [Option.some.injEq] at he4
      subst he4
      rw [dropN_eq] at hold
      obtain ⟨hn1, rfl⟩ := takeN_some.1 hold
      simp only [Nat.mul_eq, List.length_drop] at hn1
      obtain ⟨olds, k1, k2, k3, k4⟩ := old_cells (P := P) h hbl hL (len := len) (cap := c) (size := i.size) hn1
      obtain ⟨L', ob, hi', hw, hr⟩ := h.row b _ hbl
      rw [hL] at hi'; cases hi'
      cases hr with
      | @cells _ _ cur e' lo hi2 hsz hcs hll hf hgt =>
        by_cases hroom : len + n ≤ c
        · have hcap : L.sh + o + len * i.size + news.length ≤ cur.size := by
            have : (len + n) * i.size ≤ c * i.size := Nat.mul_le_mul_right _ hroom
            rw [Nat.add_mul] at this
            rw [hs.newsLen]; omega
          have hrun := hs.room L.blk (L.sh + o) len c hroom hw hf hcap
          have hlt : ((l.drop o).take (len * i.size)).length = len * i.size := by simp; omega
          have hcells : ∀ ι', Ext ι ι' → CellsAt ι' (cur.toList.take (L.sh + o + len * i.size) ++ news ++ cur.toList.drop (L.sh + o + len * i.size + news.length)).toArray (L.sh + o) ((l.drop o).take (len * i.size) ++ src) := by
            intro ι' he j a ha
            by_cases hj : j < len * i.size
            · rw [List.getElem?_append_left (by omega), List.getElem?_take_of_lt hj, List.getElem?_drop] at ha
              obtain ⟨v, hv, hvr, h1⟩ := hcs (o + j) a ha
              refine ⟨v, ?_, hvr.mono he, h1⟩
              rw [List.getElem?_toArray, List.append_assoc, List.getElem?_append_left (by simp; omega), List.getElem?_take_of_lt (by show L.sh + o + j < _; omega)]
              rw [Array.getElem?_toList, ← hv]
              show cur[L.sh + o + j]? = _
              rw [Nat.add_assoc]
            · rw [List.getElem?_append_right (by omega), hlt] at ha
              obtain ⟨v, hv, hvr⟩ := hn.get ha
              have hjn : j - len * i.size < news.length := (List.getElem?_eq_some_iff.1 hv).1
              refine ⟨v, ?_, hvr.mono he, hs.one v (List.mem_of_getElem? hv)⟩
              rw [List.getElem?_toArray, List.append_assoc, List.getElem?_append_right (by simp; omega), List.getElem?_append_left (by simp; omega)]
              rw [← hv]; congr 1
              simp; omega
          obtain ⟨ι', p1, p2⟩ := Post.rebind rfl (nx := nx) (L' := ⟨L.blk, L.sh + o, L.sz⟩) (r := .cells (tagR g (Nat.succ e) o) ((l.drop o).take (len * i.size) ++ src)) h hfr hbl hL rfl (setRow_heap w L.blk cur (cur.toList.take (L.sh + o + len * i.size) ++ news ++ cur.toList.drop (L.sh + o + len * i.size + news.length)).toArray e' _ hw) (fun ι' he => .cells (by
              simp only [List.size_toArray, List.length_append, List.length_take, List.length_drop, Array.length_toList]; omega) (hcells ι' he) (by
              simp only [List.size_toArray, List.length_append, List.length_take, List.length_drop, Array.length_toList]
              have := hn.length
              omega) (fun x hx => hf x (by
                simp only [List.size_toArray, List.length_append, List.length_take, List.length_drop, Array.length_toList] at hx
                omega)) (tagR_keep hgt)) (fun k hk => setRow_other w L.blk k _ hk) (by simp [World.setRow]) (below_setRow w _ (h.low b _ L hbl hL rfl))
          refine ⟨_, _, ι', hrun, .sliceOp (L := ⟨L.blk, L.sh + o, L.sz⟩) p1 (by simpa using hroom) (by simpa using hfit), by rw [appN_eq]; exact p2⟩
        · obtain ⟨u, w', ι', q1, q2, q3⟩ := append_grow (t := t) (tx := tx) (ty := ty) (rows := rows.set b none) (tagR_new g (Nat.succ e) o rfl) hzs hb (h.drop_row b) hfr k1 k2 k3 k4 hs hn (by omega) hsm
          exact ⟨u, w', ι', q1, q2, by rw [appN_eq]; exact Post.drop_then h q3⟩
  | _ => simp [appTo] at he
end
end Ev
end

/- What each operation of the evaluator's code comes to in the machine: maps. -/
section
namespace Ev
open Go Go.RowKit

section
variable {P : Program} {ι : Io} {rows : T ARow} {w : World} {nx : Nat} {r : R} {IR : Nat → IC → Code → Prop} {B : Base}

theorem keyShape_some {t : TypeId} {sh : Sh} (h : keyShape P t = some sh) : (isAggT P t = true ∧ sh.ag = true ∧ eqShape P t = some sh.l) ∨ (isAggT P t = false ∧ sh.ag = false ∧ ∃ k, sh.l = [k] ∧ skOf P t = some k) := by
  unfold keyShape at h
  split at h
  · rename_i ha
    obtain ⟨l, h1, h2⟩ := bo_some.1 h
    simp only [Option.some.injEq] at h2
    subst h2
    exact .inl ⟨ha, rfl, h1⟩
  · rename_i ha
    obtain ⟨k, h1, h2⟩ := bo_some.1 h
    simp only [Option.some.injEq] at h2
    subst h2
    exact .inr ⟨ha, rfl, k, rfl, h1⟩

theorem bytes_beq (a b : List UInt8) : ((⟨⟨a⟩⟩ : ByteArray) == ⟨⟨b⟩⟩) = decide (a = b) := by
  rw [beq_toListBytes, ByteArray.toList_eq, ByteArray.toList_eq, beq_dec]

theorem sameBits_one {k : SK} {a : AV} {u : Value} (h : ShRel ι [k] [a] [u]) (n : Nat) : Instr.sameBits n u u = true := by
  cases h <;> cases n <;> simp [Instr.sameBits, bytes_beq]
theorem sameBits_sh : ∀ {sh : List SK} {l : List AV} {us : List Value}, ShRel ι sh l us → ∀ n, ((us.zip us).all fun x => Instr.sameBits n x.1 x.2) = true
  | _, _, _, .nil, _ => rfl
  | _, _, _, .bool b t, n => by simp only [List.zip_cons_cons, List.all_cons, sameBits_sh t n, Bool.and_true]; cases n <;> simp [Instr.sameBits]
  | _, _, _, .int h t, n => by simp only [List.zip_cons_cons, List.all_cons, sameBits_sh t n, Bool.and_true]; cases n <;> simp [Instr.sameBits]
  | _, _, _, .str h t, n => by simp only [List.zip_cons_cons, List.all_cons, sameBits_sh t n, Bool.and_true]; cases n <;> simp [Instr.sameBits, bytes_beq]

/-- Two keys. -/
theorem eqA_ok {kt : TypeId} {sh : Sh} {a b : AV} {u v : Value} {e : Bool} (hk : keyShape P kt = some sh) (he : eqA sh a b = some e) (ha : VRel ι a u) (hb : VRel ι b v) :
    (∀ w : World, (Op.equal kt u v).run P w = .ok e w) ∧ (e = true → u = v) ∧ (isAggT P kt = false → ∀ d, P.underlying kt = some d → Instr.sameNow d u v = some e) := by
  rcases keyShape_some hk with ⟨h1, h2, h3⟩ | ⟨h1, h2, k, h3, h4⟩
  · unfold eqA at he
    rw [h2] at he
    obtain ⟨l, rfl, he1⟩ := asAgg_some.1 he
    obtain ⟨m, rfl, he2⟩ := asAgg_some.1 he1
    cases ha with
    | agg hl _ => cases hb with
      | agg hm _ =>
        refine ⟨fun w => equal_agg h3 h1 he2 hl hm w, fun e1 => ?_, fun e1 => by rw [h1] at e1; cases e1⟩
        obtain ⟨s1, s2, hi⟩ := eqL_some he2 hl hm
        rw [litOf_inj s1 s2 (hi.1 e1)]
  · unfold eqA at he
    rw [h2, h3] at he
    refine ⟨fun w => equal_one h4 he ha hb w, fun e1 => ?_, fun _ d hd => ?_⟩
    · obtain ⟨s1, s2, hi⟩ := eq1_some he ha hb
      have := litOf_inj s1 s2 (by simpa using hi.1 e1)
      simpa using this
    · obtain ⟨s1, s2, hi⟩ := eq1_some he ha hb
      unfold skOf at h4
      rw [hd] at h4
      cases d <;> simp only at h4 <;> try (cases h4; done)
      all_goals (cases h4; cases s1; cases s2)
      all_goals
        simp only [litOf] at hi
        simp only [Instr.sameNow, if_true, Option.some.injEq]
        rw [Bool.eq_iff_iff, hi]
        simp [bytes_beq]

theorem eqA_self {kt : TypeId} {sh : Sh} {a : AV} {u : Value} {e : Bool} (hk : keyShape P kt = some sh) (he : eqA sh a a = some e) (ha : VRel ι a u) :
    (∀ em (w : World), (Instr.checkKey em 10000 kt u).run P w = .ok () w) ∧ Instr.sameBits 10000 u u = true := by
  rcases keyShape_some hk with ⟨h1, h2, h3⟩ | ⟨h1, h2, k, h3, h4⟩
  · unfold eqA at he
    rw [h2] at he
    obtain ⟨l, rfl, he1⟩ := asAgg_some.1 he
    obtain ⟨m, hm, he2⟩ := asAgg_some.1 he1
    cases hm
    cases ha with
    | @agg _ us hl _ =>
      obtain ⟨s1, s2, _⟩ := eqL_some he2 hl hl
      refine ⟨fun em w => ?_, ?_⟩
      · obtain ⟨g1, g2⟩ := gd_some.1 h3
        simp only [Bool.and_eq_true] at g1
        obtain ⟨gk, gt, _⟩ := g1
        have k1 := keyLits_shape 20 kt sh.l l us g2 ⟨gt, gk⟩ s1
        have hf : (Value.agg ⟨us⟩).formed P kt = true := by
          unfold isAggT at h1
          unfold Value.formed
          have : us.length = P.cellsOf kt := by rw [s1.length.2, k1.2]
          cases hu : P.underlying kt with
          | none => simp [hu] at h1
          | some d => cases d <;> simp [hu] at h1 <;> simp [this]
        exact run_checkKey_deep em 9980 20 kt gk w _ (.agg ⟨us⟩) _ hf (by simpa [Value.cells] using k1.1)
      · have := sameBits_sh s1 9999
        simp only [Instr.sameBits, beq_self_eq_true, Bool.true_and]
        exact this
  · unfold eqA at he
    rw [h2, h3] at he
    obtain ⟨s1, _, _⟩ := eq1_some he ha ha
    refine ⟨fun em w => ?_, sameBits_one s1 10000⟩
    unfold skOf at h4
    cases hu : P.underlying kt with
    | none => simp [hu] at h4
    | some d =>
      rw [hu] at h4
      unfold Instr.checkKey
      simp only [Sem.run_bind, run_underlying hu, Result.andThen_ok]
      cases d <;> simp only at h4 <;> first
        | (cases h4; done)
        | (cases h4; cases s1; simp)

theorem MapRel.snoc {k x : AV} {uk ux : Value} {c : Nat} : ∀ {es : List (AV × AV)} {ues : List MapEntry}, MapRel ι es ues → VRel ι k uk → VRel ι x ux → MapRel ι (es ++ [(k, x)]) (ues ++ [{ key := uk, val := ux, born := c }])
  | _, _, .nil, hk, hx => .cons hk hx .nil
  | _, _, .cons a b t, hk, hx => .cons a b (t.snoc hk hx)

/-- What is found at a key. -/
def Found (ι : Io) (sh : Sh) (k : AV) (uk : Value) (es : List (AV × AV)) (ues : List MapEntry) (i : Nat) (q : Option AV) (res : Option (Nat × Value)) : Prop := match q with
  | none => res = none
  | some x => ∃ j e, res = some (i + j, e.val) ∧ ues[j]? = some e ∧ VRel ι x e.val ∧ e.key = uk ∧ ∀ y uy, VRel ι y uy → MapRel ι (updM sh k y es) (ues.modify j fun e => { e with key := uk, val := uy })

theorem find_list {kt : TypeId} {sh : Sh} {k : AV} {uk : Value} {q : Option AV} (hk : keyShape P kt = some sh) (hu : VRel ι k uk) :
    ∀ {es : List (AV × AV)} {ues : List MapEntry} (i : Nat), MapRel ι es ues → findM sh k es = some q →
      ∃ res, (∀ w : World, (Instr.findAsking kt uk ues i).run P w = .ok res w) ∧ (isAggT P kt = false → ∀ d, P.underlying kt = some d → Instr.findNow d uk ues i = some res) ∧ Found ι sh k uk es ues i q res
  | _, _, i, .nil, hf => by
    have : q = none := by simpa [findM, eq_comm] using hf
    subst this
    exact ⟨none, fun w => rfl, fun _ _ _ => rfl, rfl⟩
  | _, _, i, @MapRel.cons _ k' x e l es hk' hx t, hf => by
    have hf : bo (eqA sh k k') (fun b => Bool.rec (findM sh k l) (some (some x)) b) = some q := hf
    obtain ⟨b, hb, hf⟩ := bo_some.1 hf
    obtain ⟨e1, e2, e3⟩ := eqA_ok hk hb hu hk'
    cases b with
    | true =>
      simp only [Option.some.injEq] at hf
      subst hf
      refine ⟨some (i, e.val), fun w => by simp [Instr.findAsking, e1], fun ha d hd => by simp [Instr.findNow, e3 ha d hd], 0, e, by simp, by simp, hx, (e2 rfl).symm, fun y uy hy => ?_⟩
      have : updM sh k y ((k', x) :: l) = (k, y) :: l := by
        show (match eqA sh k k' with | some true => (k, y) :: l | _ => (k', x) :: updM sh k y l) = _
        rw [hb]
      rw [this]
      simp only [List.modify_zero_cons]
      exact .cons hu hy t
    | false =>
      obtain ⟨res, r1, r2, r3⟩ := find_list hk hu (i+1) t hf
      refine ⟨res, fun w => by simp [Instr.findAsking, e1, r1], fun ha d hd => by simp [Instr.findNow, e3 ha d hd, r2 ha d hd], ?_⟩
      cases q with
      | none => exact r3
      | some x' =>
        obtain ⟨j, e', q1, q2, q3, q4, q5⟩ := r3
        refine ⟨j+1, e', by rw [q1]; congr 2; omega, by simpa using q2, q3, q4, fun y uy hy => ?_⟩
        have : updM sh k y ((k', x) :: l) = (k', x) :: updM sh k y l := by
          show (match eqA sh k k' with | some true => (k, y) :: l | _ => (k', x) :: updM sh k y l) = _
          rw [hb]
        rw [this]
        simp only [List.modify_succ_cons]
        exact .cons hk' hx (q5 y uy hy)

theorem find_ok {kt : TypeId} {sh : Sh} {k : AV} {uk : Value} {q : Option AV} (hk : keyShape P kt = some sh) (hu : VRel ι k uk) {es : List (AV × AV)} {ues : List MapEntry} (hm : MapRel ι es ues) (hf : findM sh k es = some q) (w : World) :
    ∃ res, (Instr.findKey kt uk ues).run P w = .ok res w ∧ Found ι sh k uk es ues 0 q res := by
  obtain ⟨res, h1, h2, h3⟩ := find_list hk hu 0 hm hf
  refine ⟨res, ?_, h3⟩
  cases ha : isAggT P kt with
  | true =>
    have hwide : (match P.underlying kt with | some (.array _ _) | some (.struct _) => true | _ => false) = true := by
      unfold isAggT at ha
      cases hu : P.underlying kt with
      | none => simp [hu] at ha
      | some d => cases d <;> simp [hu] at ha <;> rfl
    rw [run_findKey_eq w hwide]
    exact h1 w
  | false =>
    rcases keyShape_some hk with ⟨g1, _⟩ | ⟨_, _, k', _, h4⟩
    · rw [ha] at g1; cases g1
    · cases hu' : P.underlying kt with
      | none => simp [skOf, hu'] at h4
      | some d => exact MapKept.run_findKey hu' (h2 ha d hu')

theorem mapRow_ok {m : AV} {um : Value} {es : List (AV × AV)} (h : HRel IR B ι rows w) (hm : VRel ι m um) (he : mapRow rows m = some es) :
    (um = .map none ∧ es = []) ∨ ∃ b L mes clock, m = .map b ∧ um = .map (some L.blk) ∧ ι b = some L ∧ (rows.get b = some (.map es) ∨ rows.get b = some (.roM es)) ∧ w.heap[L.blk]? = some (.map mes clock) ∧ MapRel ι es mes.toList ∧ MapWf mes clock := by
  cases hm with
  | nilMap =>
    simp only [mapRow, Option.some.injEq] at he
    exact .inl ⟨rfl, he.symm⟩
  | @map b L hi =>
    simp only [mapRow] at he
    split at he
    · rename_i es' hb
      simp only [Option.some.injEq] at he
      subst he
      obtain ⟨L', o, h1, h2, h3⟩ := h.row _ _ hb
      rw [hi] at h1; cases h1
      cases h3 with
      | map hr hwf => exact .inr ⟨b, L, _, _, rfl, rfl, hi, .inl hb, h2, hr, hwf⟩
    · rename_i es' hb
      simp only [Option.some.injEq] at he
      subst he
      obtain ⟨L', o, h1, h2, h3⟩ := h.row _ _ hb
      rw [hi] at h1; cases h1
      cases h3 with
      | roM hr hwf => exact .inr ⟨b, L, _, _, rfl, rfl, hi, .inr hb, h2, hr, hwf⟩
    · cases he
  | _ => simp [mapRow] at he

theorem lookup_ok {t kt e : TypeId} {sh : Sh} {z : AV} {ok : Bool} {m k : AV} {um uk : Value} {tl : List AV} (h : HRel IR B ι rows w) (hu : P.underlying t = some (.map kt e)) (hk : keyShape P kt = some sh) (hz : zeroA P e = some z)
    (hm : VRel ι m um) (hkv : VRel ι k uk) (he : kLookup (m :: k :: tl) rows nx sh z ok = some r) : PureOK P ι rows w nx r (Instr.lookup t um uk ok) := by
  simp only [kLookup, u2] at he
  obtain ⟨_, hself, he1⟩ := bo_some.1 he
  obtain ⟨es, hes, he2⟩ := bo_some.1 he1
  obtain ⟨q, hq, he3⟩ := bo_some.1 he2
  obtain ⟨c1, _⟩ := eqA_self hk hself hkv
  obtain ⟨zv, hzv, hzr⟩ := zeroA_some hz
  have go : ∀ ues : List MapEntry, MapRel ι es ues → ∃ res v u, (∀ w' : World, w' = w → (Instr.findKey kt uk ues).run P w' = .ok res w') ∧ VRel ι v u ∧ r = ⟨v, rows, nx⟩ ∧
      ((res = none ∧ u = if ok then Value.tuple #[zv, .bool false] else zv) ∨ ∃ j x, res = some (j, x) ∧ u = if ok then Value.tuple #[x, .bool true] else x) := by
    intro ues hr
    obtain ⟨res, f1, f2⟩ := find_ok hk hkv hr hq w
    cases q with
    | none =>
      obtain rfl := rv_some he3
      refine ⟨res, _, _, fun _ e => by rw [e]; exact f1, ?_, rfl, .inl ⟨f2, rfl⟩⟩
      cases ok
      · exact hzr ι
      · exact .tup (.cons (hzr ι) (.cons (.bool _) .nil))
    | some x =>
      obtain ⟨j, e', q1, _, q3, _, _⟩ := f2
      obtain rfl := rv_some he3
      refine ⟨res, _, _, fun _ e => by rw [e]; exact f1, ?_, rfl, .inr ⟨_, _, q1, rfl⟩⟩
      cases ok
      · exact q3
      · exact .tup (.cons q3 (.cons (.bool _) .nil))
  rcases mapRow_ok h hm hes with ⟨rfl, rfl⟩ | ⟨b, L, mes, clock, rfl, rfl, hi, hb, hw, hr, _⟩
  · obtain ⟨res, v, u, g0, g2, g3, g4⟩ := go [] .nil
    have g0 := g0 w rfl
    refine ⟨v, u, ?_, g2, g3⟩
    unfold Instr.lookup
    rcases g4 with ⟨rfl, rfl⟩ | ⟨j, x, rfl, rfl⟩ <;> simp [run_underlying hu, c1, g0, run_zeroValue hzv]
  · obtain ⟨res, v, u, g0, g2, g3, g4⟩ := go mes.toList hr
    have g0 := g0 w rfl
    refine ⟨v, u, ?_, g2, g3⟩
    unfold Instr.lookup
    rcases g4 with ⟨rfl, rfl⟩ | ⟨j, x, rfl, rfl⟩ <;> simp [run_underlying hu, c1, g0, run_zeroValue hzv, MapKept.run_getObj_map hw]

theorem mapUpdate_ok {t kt e : TypeId} {sh : Sh} {m k x : AV} {um uk ux : Value} {tl : List AV} (h : HRel IR B ι rows w) (hu : P.underlying t = some (.map kt e)) (hk : keyShape P kt = some sh)
    (hm : VRel ι m um) (hkv : VRel ι k uk) (hx : VRel ι x ux) (he : kMapUpdate (m :: k :: x :: tl) rows nx sh = some r) :
    ∃ w', (Instr.mapUpdate t um uk ux).run P w = .ok () w' ∧ r.v = .undef ∧ Post IR B ι ι rows w nx r.rows r.nx w' := by
  simp only [kMapUpdate, u3] at he
  obtain ⟨_, hself, he1⟩ := bo_some.1 he
  obtain ⟨c1, c2⟩ := eqA_self hk hself hkv
  split at he1
  · rename_i b
    split at he1
    · rename_i es hb
      obtain ⟨q, hq, he2⟩ := bo_some.1 he1
      rcases mapRow_ok (es := es) h hm (by simp [mapRow, hb]) with ⟨e0, _⟩ | ⟨b', L, mes, clock, e1, rfl, hi, hb', hw, hr, hwf⟩
      · rw [e0] at hm
        cases hm
      · cases e1
        obtain ⟨res, f1, f2⟩ := find_ok hk hkv hr hq w
        have hsz : L.blk < w.heap.size := (Array.getElem?_eq_some_iff.1 hw).1
        have post : ∀ (es' : List (AV × AV)) (mes' : Array MapEntry) (clock' : Nat), MapRel ι es' mes'.toList → MapWf mes' clock' → Post IR B ι ι rows w nx (rows.set b (some (.map es'))) nx { w with heap := w.heap.setIfInBounds L.blk (.map mes' clock') } := fun es' mes' clock' hr' hwf' =>
          Post.set_row rfl (o := .map mes' clock') h hb hi (by simp [hsz]) (.map hr' hwf') (fun k hk => by simp [Ne.symm hk]) (by simp) ⟨rfl, rfl, rfl, by simp, fun k hk => by
            have := h.low b _ L hb hi rfl
            simp [show L.blk ≠ k by omega]⟩
        unfold Instr.mapUpdate
        cases q with
        | none =>
          have f2 : res = none := f2
          subst f2
          simp only [rset, Option.some.injEq] at he2
          subst he2
          refine ⟨_, ?_, rfl, post _ (mes.push { key := uk, val := ux, born := clock }) (clock + 1) ?_ ?_⟩
          · simp [run_underlying hu, c1, f1, MapKept.run_getObj_map hw, MapKept.run_setObj_map _ hw]
          · rw [appN_eq, Array.toList_push]
            exact hr.snoc hkv hx
          · exact ⟨by simp [hwf.1, hwf.2, List.range_succ], by simp [hwf.2]⟩
        | some y =>
          obtain ⟨j, e', q1, q2, q3, q4, q5⟩ := f2
          simp only [rset, Option.some.injEq] at he2
          subst he2
          subst q1
          rw [Nat.zero_add] at f1
          have hj : mes[j]? = some e' := by simpa using q2
          refine ⟨_, ?_, rfl, post _ (mes.modify j fun e => { e with key := uk, val := ux }) clock ?_ ?_⟩
          · simp [run_underlying hu, c1, f1, MapKept.run_getObj_map hw, MapKept.run_setObj_map _ hw, hj, q4, Instr.keyThatStays, c2]
          · rw [Array.toList_modify]
            exact q5 x ux hx
          · have hb : ∀ (l : List MapEntry) (j : Nat), (l.modify j fun e => { e with key := uk, val := ux }).map (·.born) = l.map (·.born) := by
              intro l
              induction l with
              | nil => intro j; simp
              | cons a l ih =>
                intro j
                cases j with
                | zero => simp
                | succ j => simp [ih]
            exact ⟨by rw [Array.toList_modify, hb, hwf.1]; simp, by simp [hwf.2]⟩
    · cases he1
  · cases he1

theorem find_J {kt : TypeId} {sh : Sh} {k : AV} {uk : Value} {q : Option (Nat × AV)} (hk : keyShape P kt = some sh) (hu : VRel ι k uk) :
    ∀ {es : List (AV × AV)} {ues : List MapEntry} (i : Nat), MapRel ι es ues → findJ sh k es i = some q → findM sh k es = some (q.map (·.2)) ∧ (∀ (res : Option (Nat × Value)), (∀ w : World, (Instr.findAsking kt uk ues i).run P w = .ok res w) → res.map (·.1) = q.map (·.1))
  | _, _, i, .nil, hf => by
    have : q = none := by simpa [findJ, eq_comm] using hf
    subst this
    refine ⟨rfl, fun res hr => ?_⟩
    have := hr default
    simp [Instr.findAsking] at this
    subst this; rfl
  | _, _, i, @MapRel.cons _ k' x e l es hk' hx t, hf => by
    have hf : bo (eqA sh k k') (fun b => Bool.rec (findJ sh k l (Nat.succ i)) (some (some (i, x))) b) = some q := hf
    obtain ⟨b, hb, hf⟩ := bo_some.1 hf
    obtain ⟨e1, e2, e3⟩ := eqA_ok hk hb hu hk'
    have hm : findM sh k ((k', x) :: l) = bo (eqA sh k k') (fun b => Bool.rec (findM sh k l) (some (some x)) b) := rfl
    cases b with
    | true =>
      simp only [Option.some.injEq] at hf
      subst hf
      refine ⟨by rw [hm, hb]; rfl, fun res hr => ?_⟩
      have := hr default
      simp [Instr.findAsking, e1] at this
      subst this; rfl
    | false =>
      obtain ⟨g1, g2⟩ := find_J hk hu (i+1) t hf
      refine ⟨by rw [hm, hb]; exact g1, fun res hr => g2 res fun w => ?_⟩
      have := hr w
      simpa [Instr.findAsking, e1] using this

theorem find_okJ {kt : TypeId} {sh : Sh} {k : AV} {uk : Value} {q : Option (Nat × AV)} (hk : keyShape P kt = some sh) (hu : VRel ι k uk) {es : List (AV × AV)} {ues : List MapEntry} (hm : MapRel ι es ues) (hf : findJ sh k es 0 = some q) (w : World) :
    ∃ res, (Instr.findKey kt uk ues).run P w = .ok res w ∧ Found ι sh k uk es ues 0 (q.map (·.2)) res ∧ res.map (·.1) = q.map (·.1) := by
  obtain ⟨g1, g2⟩ := find_J hk hu 0 hm hf
  obtain ⟨res, h1, h2, h3⟩ := find_list hk hu 0 hm g1
  refine ⟨res, ?_, h3, g2 res h1⟩
  cases ha : isAggT P kt with
  | true =>
    have hwide : (match P.underlying kt with | some (.array _ _) | some (.struct _) => true | _ => false) = true := by
      unfold isAggT at ha
      cases hu : P.underlying kt with
      | none => simp [hu] at ha
      | some d => cases d <;> simp [hu] at ha <;> rfl
    rw [run_findKey_eq w hwide]
    exact h1 w
  | false =>
    rcases keyShape_some hk with ⟨g1, _⟩ | ⟨_, _, k', _, h4⟩
    · rw [ha] at g1; cases g1
    · cases hu' : P.underlying kt with
      | none => simp [skOf, hu'] at h4
      | some d => exact MapKept.run_findKey hu' (h2 ha d hu')

theorem mapEntry_ok {t kt e : TypeId} {sh : Sh} {z : AV} {m k : AV} {um uk : Value} {tl : List AV} (h : HRel IR B ι rows w) (hu : P.underlying t = some (.map kt e)) (hk : keyShape P kt = some sh) (hz : zeroA P e = some z)
    (hm : VRel ι m um) (hkv : VRel ι k uk) (he : kMapEntry (m :: k :: tl) rows nx sh z = some r) :
    ∃ u w' ι', (Instr.mapEntry t um uk).run P w = .ok u w' ∧ VRel ι' r.v u ∧ Post IR B ι ι' rows w nx r.rows r.nx w' := by
  simp only [kMapEntry, u2] at he
  obtain ⟨_, hself, he1⟩ := bo_some.1 he
  obtain ⟨c1, c2⟩ := eqA_self hk hself hkv
  obtain ⟨zv, hzv, hzr⟩ := zeroA_some hz
  split at he1
  · rename_i b
    split at he1
    · rename_i es hb
      obtain ⟨hsm, he1⟩ := gd_some.1 he1
      obtain ⟨q, hq, he2⟩ := bo_some.1 he1
      rcases mapRow_ok (es := es) h hm (by simp [mapRow, hb]) with ⟨e0, _⟩ | ⟨b', L, mes, clock, e1, rfl, hi, hb', hw, hr, hwf⟩
      · rw [e0] at hm
        cases hm
      · cases e1
        obtain ⟨res, f1, f2, f3⟩ := find_okJ hk hkv hr hq w
        have hsz : L.blk < w.heap.size := (Array.getElem?_eq_some_iff.1 hw).1
        have post : ∀ (es' : List (AV × AV)) (mes' : Array MapEntry) (clock' : Nat), MapRel ι es' mes'.toList → MapWf mes' clock' → Post IR B ι ι rows w nx (rows.set b (some (.map es'))) nx { w with heap := w.heap.setIfInBounds L.blk (.map mes' clock') } := fun es' mes' clock' hr' hwf' =>
          Post.set_row rfl (o := .map mes' clock') h hb hi (by simp [hsz]) (.map hr' hwf') (fun k hk => by simp [Ne.symm hk]) (by simp) ⟨rfl, rfl, rfl, by simp, fun k hk => by
            have := h.low b _ L hb hi rfl
            simp [show L.blk ≠ k by omega]⟩
        unfold Instr.mapEntry
        cases q with
        | none =>
          have f2 : res = none := f2
          subst f2
          simp only [rset, Option.some.injEq] at he2
          subst he2
          have hlen : es.length = mes.size := by rw [hr.length, Array.length_toList]
          refine ⟨_, _, ι, ?_, .tup (.cons (hzr ι) (.cons (.int .i64 (.ofNat (lenN es))) .nil)), post _ (mes.push { key := uk, val := zv, born := clock }) (clock + 1) ?_ ?_⟩
          · simp [run_underlying hu, c1, f1, MapKept.run_getObj_map hw, MapKept.run_setObj_map _ hw, run_zeroValue hzv]
            rw [lenN_eq, hlen, hwf.2]
            rfl
          · rw [appN_eq, Array.toList_push]
            exact hr.snoc hkv (hzr ι)
          · exact ⟨by simp [hwf.1, hwf.2, List.range_succ], by simp [hwf.2]⟩
        | some p =>
          obtain ⟨j, e', q1, q2, q3, q4, q5⟩ := f2
          simp only [rset, Option.some.injEq] at he2
          subst he2
          subst q1
          rw [Nat.zero_add] at f1 f3
          simp only [Option.map_some, Option.some.injEq] at f3
          have hj : mes[j]? = some e' := by simpa using q2
          have hborn := hwf.at hj
          have hmod : (mes.modify j fun e => { e with key := uk }) = mes := by
            apply Array.ext_getElem?
            intro i
            rw [Array.getElem?_modify]
            by_cases hij : j = i
            · subst hij; rw [if_pos rfl, hj]; simp [← q4]
            · rw [if_neg hij]
          refine ⟨_, _, ι, ?_, .tup (.cons q3 (.cons (.int .i64 (.ofNat p.1)) .nil)), post es mes clock hr hwf⟩
          simp [run_underlying hu, c1, f1, MapKept.run_getObj_map hw, MapKept.run_setObj_map _ hw, hj, q4, Instr.keyThatStays, c2, hmod]
          rw [hborn, f3]
          rfl
    · cases he1
  · cases he1

theorem setJ_rel {x : AV} {ux : Value} (hx : VRel ι x ux) : ∀ {es es' : List (AV × AV)} {ues : List MapEntry} {j : Nat}, MapRel ι es ues → setJ x es j = some es' → j < ues.length ∧ MapRel ι es' (ues.modify j fun e => { e with val := ux })
  | _, _, _, j, .nil, h => by cases h
  | _, es', _, j, @MapRel.cons _ k v e l es hk hv t, h => by
    cases j with
    | zero =>
      have h : some ((k, x) :: l) = some es' := h
      simp only [Option.some.injEq] at h
      subst h
      refine ⟨by simp, ?_⟩
      simp only [List.modify_zero_cons]
      exact .cons hk hx t
    | succ j =>
      have h : bo (setJ x l j) (fun r => some ((k, v) :: r)) = some es' := h
      obtain ⟨r, h1, h2⟩ := bo_some.1 h
      simp only [Option.some.injEq] at h2
      subst h2
      obtain ⟨g1, g2⟩ := setJ_rel hx t h1
      refine ⟨by simpa using g1, ?_⟩
      simp only [List.modify_succ_cons]
      exact .cons hk hv g2

theorem entryStore_ok {t : TypeId} {m s x : AV} {um us ux : Value} {tl : List AV} (h : HRel IR B ι rows w) (hm : VRel ι m um) (hs : VRel ι s us) (hx : VRel ι x ux) (he : kEntryStore (m :: s :: x :: tl) rows nx = some r) :
    ∃ w', (Instr.entryStore t um us ux).run P w = .ok () w' ∧ r.v = .undef ∧ Post IR B ι ι rows w nx r.rows r.nx w' := by
  simp only [kEntryStore, u3] at he
  obtain ⟨k, n, rfl, he1⟩ := asInt_some.1 he
  obtain ⟨hk, he2⟩ := gd_some.1 he1
  simp only [beq_iff_eq] at hk
  subst hk
  cases hs
  split at he2 <;> try (cases he2; done)
  rename_i j
  split at he2 <;> try (cases he2; done)
  rename_i b
  split at he2 <;> try (cases he2; done)
  rename_i es hb
  obtain ⟨hsm, he3⟩ := gd_some.1 he2
  obtain ⟨es', hes, he4⟩ := bo_some.1 he3
  simp only [rset, Option.some.injEq] at he4
  subst he4
  rcases mapRow_ok (es := es) h hm (by simp [mapRow, hb]) with ⟨e0, _⟩ | ⟨b', L, mes, clock, e1, rfl, hi, hb', hw, hr, hwf⟩
  · rw [e0] at hm
    cases hm
  · cases e1
    obtain ⟨g1, g2⟩ := setJ_rel hx hr hes
    have hjs : j < mes.size := by simpa using g1
    have hsz : L.blk < w.heap.size := (Array.getElem?_eq_some_iff.1 hw).1
    have hfind : mes.findIdx? (fun e => (e.born : Int) == (Int.ofNat j)) = some j := by
      rw [Array.findIdx?_eq_some_iff_getElem]
      refine ⟨hjs, ?_, fun i hi => ?_⟩
      · have := hwf.at (j := j) (e := mes[j]) (by simp [hjs])
        simp [this]
      · have hi' : i < mes.size := by omega
        have := hwf.at (j := i) (e := mes[i]) (by simp [hi'])
        simp [this]; omega
    have hb2 : ∀ (l : List MapEntry) (j : Nat), (l.modify j fun e => { e with val := ux }).map (·.born) = l.map (·.born) := by
      intro l
      induction l with
      | nil => intro j; simp
      | cons a l ih =>
        intro j
        cases j with
        | zero => simp
        | succ j => simp [ih]
    refine ⟨{ w with heap := w.heap.setIfInBounds L.blk (.map (mes.modify j fun e => { e with val := ux }) clock) }, ?_, rfl, Post.set_row rfl (o := .map (mes.modify j fun e => { e with val := ux }) clock) h hb hi (by simp [hsz]) (.map (by rw [Array.toList_modify]; exact g2) ⟨by rw [Array.toList_modify, hb2, hwf.1]; simp, by simp [hwf.2]⟩) (fun k hk => by simp [Ne.symm hk]) (by simp) ⟨rfl, rfl, rfl, by simp, fun k hk => by
      have := h.low b _ L hb hi rfl
      simp [show L.blk ≠ k by omega]⟩⟩
    have hfind' : mes.findIdx? (fun e => (e.born : Int) == (j : Int)) = some j := hfind
    unfold Instr.entryStore
    simp [MapKept.run_getObj_map hw, MapKept.run_setObj_map _ hw, Go.asInt, asIntOf, hfind']
end
end Ev
end
