/- What each operation of the evaluator's code comes to in the machine: bytes of a string, clear, functions, interfaces. -/
import Derived.Test.YtkakkacpddiogaaGreatDoorGEvL
import Derived.Lib.UnsafeStr
import Derived.Laws.BytesString
import Derived.OrdersIn
import Derived.OwnWalkIn
import Derived.RangeFuncCalls
import Derived.RangeFuncLeaves
import Derived.RangeFuncRecord

set_option linter.unusedSimpArgs false
set_option linter.unusedVariables false
section
namespace Ev
open Go Go.RowKit

section
variable {P : Program} {ι : Io} {rows : T ARow} {w : World} {nx : Nat} {r : R} {IR : Nat → IC → Code → Prop} {B : Base}

/-- A new row that is frozen behind its end. -/
theorem Post.row_frozen {w1 : World} (h : HRel IR B ι rows w) (hfr : ι nx = none) (hh : w1.heap = w.heap) (hb : Below B.n w w1) {l : List AV} {c : Array Value} {lo hi : Nat} (g : Nat) (e : TypeId) (hg : g = 0 ∨ g = e + 1) (hf : ∀ o, o < c.size → ¬ (lo ≤ o ∧ o < hi)) (hc : ∀ ι', Ext ι ι' → CellsAt ι' c 0 l) (hl : l.length ≤ c.size) :
    ∃ ι', ι' nx = some ⟨w.heap.size, 0, c.size⟩ ∧ Post IR B ι ι' rows w nx (rows.set nx (some (.cells g l))) (nx+1) { w1 with heap := w1.heap.push (.cells c e (lo, hi)) } := by
  have h' : HRel IR B ι rows w1 := h.heap_eq hh hb
  have hws : w1.heap.size = w.heap.size := by rw [hh]
  obtain ⟨ι', q1, q2⟩ := Post.new_row (nx := nx) h' hfr (.cells c e (lo, hi)) c.size (.cells g l) (fun ι' he _ => .cells rfl (hc ι' he) (by simpa using hl) hf (hg.imp_right fun h => ⟨h, rfl⟩))
  rw [hws] at q1
  exact ⟨ι', q1, (Post.of_below h hh hb).trans q2⟩

theorem freeze_push (w : World) (c : Array Value) (e : TypeId) : ({ w with heap := w.heap.push (.cells c e) } : World).freeze { block := w.heap.size, off := c.size } 1 = { w with heap := w.heap.push (.cells c e (c.size, c.size + 1)) } := by
  simp only [World.freeze, Nat.one_ne_zero, if_false]
  congr 1
  apply Array.ext_getElem?
  intro i
  rw [Array.getElem?_modify, Array.getElem?_push, Array.getElem?_push]
  by_cases hi : i = w.heap.size
  · subst hi; simp
  · rw [if_neg (by omega), if_neg hi, if_neg hi]

theorem toBytes_ok {s t e : TypeId} {x : AV} {ux : Value} {tl : List AV} (h : HRel IR B ι rows w) (hfr : ι nx = none) (hs : P.underlying s = some .string) (ht : P.underlying t = some (.slice e)) (hu8 : P.underlying e = some (.int .u8)) (hx : VRel ι x ux)
    (he : evRare (x :: tl) rows nx .toBytes = some r) : ∃ u w' ι', (convert s t ux).run P w = .ok u w' ∧ VRel ι' r.v u ∧ Post IR B ι ι' rows w nx r.rows r.nx w' := by
  simp only [evRare, u1] at he
  obtain ⟨l, rfl, he1⟩ := asStr_some.1 he
  simp only [rnew, Option.some.injEq] at he1
  subst he1
  cases hx
  have hsz : (⟨⟨l⟩⟩ : ByteArray).size = l.length := rfl
  have hge := grownCap_ge w l.length 0 e
  let c : Array Value := (Array.map (fun b : UInt8 => Value.int .u8 b.toNat) (⟨l⟩ : Array UInt8)) ++ Array.replicate (grownCap w l.length 0 e - l.length) (.int .u8 0)
  have hcs : c.size = grownCap w l.length 0 e := by simp [c]; omega
  obtain ⟨ι', p1, p2⟩ := Post.row_frozen (nx := nx) (w1 := w.drew) (l := l.map fun c => .int .u8 (.ofNat c.toNat)) (c := c) (lo := c.size) (hi := c.size + 1) h hfr rfl (drew_below _ w) 0 e (.inl rfl) (by intro o ho; omega) (fun ι' _ i a ha => by
    obtain ⟨v, hv, hr⟩ := (bytes_rel (ι := ι') l).get ha
    refine ⟨v, ?_, hr, bytes_one l v (List.mem_of_getElem? hv)⟩
    have hi : i < l.length := by simpa using (List.getElem?_eq_some_iff.1 hv).1
    simp only [c, Nat.zero_add]
    rw [Array.getElem?_append_left (by simpa using hi)]
    simpa using hv) (by rw [hcs]; simpa using hge)
  refine ⟨_, _, ι', ?_, .sliceOp (L := ⟨w.heap.size, 0, c.size⟩) p1 (c := grownCap w l.length 0 e) (by rw [lenN_eq]; exact hge) (by simp [hcs]), by rw [mapN_eq]; exact p2⟩
  have hfz := freeze_push w.drew c e
  have hsh : ({ w.drew with heap := w.drew.heap.push (.cells c e) } : World).shape? w.drew.heap.size = some (e, c.size) := by
    show (match (w.heap.push (.cells c e))[w.heap.size]? with | some (.cells c elem _) => some (elem, c.size) | _ => none) = _
    rw [Array.getElem?_push, if_pos rfl]
  unfold convert
  simp only [Sem.run_bind, run_underlying hs, run_underlying ht, Result.andThen_ok, run_underlying hu8, Conv.stringToBytes, newRow, run_newObj, hsz]
  show ((markStringish ⟨w.drew.heap.size, 0, none⟩).run P { w.drew with heap := w.drew.heap.push (.cells c e) }).andThen _ = _
  unfold markStringish
  simp only [Sem.run_bind, run_shape, Sem.run_pure, Result.andThen_ok]
  rw [hsh]
  simp only [run_freeze, Result.andThen_ok]
  rw [hfz, lenN_eq]
  rfl

theorem clear_ok {t e ty : TypeId} {z : AV} {x : AV} {ux : Value} {tl : List AV} {ts : Array TypeId} {args : Array Value} (h : HRel IR B ι rows w) (hu : P.underlying t = some (.slice e)) (hzf : zeroFits P e = true) (hz : zeroA P e = some z) (hx : VRel ι x ux)
    (hat : ts[0]? = some t) (ha : args[0]? = some ux) (he : evRare (x :: tl) rows nx (.clear z.cells) = some r) : ∃ w', (Builtin.clear_ ts ty args).run P w = .ok (.tuple #[]) w' ∧ r.v = .tup [] ∧ Post IR B ι ι rows w nx r.rows r.nx w' := by
  obtain ⟨zv, hzv, _⟩ := zeroA_some hz
  obtain ⟨hzc, hzs, hz1⟩ := zero_cells hzf hz hzv ι
  have sl : ∀ {b o len : Nat} {L : Loc} (c : Nat), args[0]? = some (.slice (some (L.at o)) len c) → asCells (rows.get b) (fun g l => bo (putN (repl len z.cells) o l) fun l => rset rows nx (.tup []) b (.cells g l)) = some r → ι b = some L → ∃ w', (Builtin.clear_ ts ty args).run P w = .ok (.tuple #[]) w' ∧ r.v = .tup [] ∧ Post IR B ι ι rows w nx r.rows r.nx w' := by
    intro b o len L c ha he hi
    obtain ⟨g, l, hb, he1⟩ := asCells_some.1 he
    obtain ⟨l', hl', he2⟩ := bo_some.1 he1
    obtain ⟨hp1, rfl⟩ := putN_some.1 hl'
    simp only [rset, Option.some.injEq] at he2
    subst he2
    rw [repl_eq] at hp1 ⊢
    have hrel := flatten_rel hzc len
    have hone : ∀ u ∈ (List.replicate len zv.cells.toList).flatten, u.oneCell' = true := fun u hu => by
      simp only [List.mem_flatten, List.mem_replicate] at hu
      obtain ⟨q, ⟨_, rfl⟩, hu⟩ := hu
      exact hz1 u hu
    obtain ⟨L', ob, hi', hw, hr⟩ := h.row b _ hb
    rw [hi] at hi'; cases hi'
    cases hr with
    | @cells _ _ cur e' lo hi2 hsz hcs hll hf hgt =>
      have hroom : L.sh + o + (List.replicate len zv.cells.toList).flatten.length ≤ cur.size := by
        rw [← hrel.length]; omega
      have hrun := run_storeRow (P := P) L.blk (L.sh + o) e' lo hi2 (List.replicate len zv.cells.toList).flatten 0 cur w hw hf (by simpa using hroom) hone
      have hpost := Post.set_row rfl (nx := nx) h hb hi (setRow_heap w L.blk cur (cur.toList.take (L.sh + o) ++ (List.replicate len zv.cells.toList).flatten ++ cur.toList.drop (L.sh + o + (List.replicate len zv.cells.toList).flatten.length)).toArray e' _ hw) (.cells (by
        simp only [List.size_toArray, List.length_append, List.length_take, List.length_drop, Array.length_toList]; omega) (hcs.put hrel hone hp1) (by
        simp only [List.size_toArray, List.length_append, List.length_take, List.length_drop, Array.length_toList]
        have := hrel.length
        omega) (fun x hx => hf x (by
        simp only [List.size_toArray, List.length_append, List.length_take, List.length_drop, Array.length_toList] at hx
        omega)) hgt) (fun k hk => setRow_other w L.blk k _ hk) (by simp [World.setRow]) (below_setRow w _ (h.low b _ L hb hi rfl))
      refine ⟨_, ?_, rfl, hpost⟩
      cases len with
      | zero =>
        simp only [List.replicate_zero, List.flatten_nil, List.append_nil, List.length_nil, Nat.add_zero, List.take_append_drop, Array.toArray_toList]
        rw [setRow_self w L.blk cur e' _ hw]
        simp [Builtin.clear_, hat, ha, run_underlying hu]
      | succ n =>
        simp only [Nat.add_zero] at hrun
        simp only [Builtin.clear_, hat, ha, Sem.run_bind, run_underlying hu, Result.andThen_ok, run_zeroValue hzv, Builtin.zeroCells, range_flatten]
        show ((storeCells ⟨L.blk, L.sh + o, none⟩ _).run P w).andThen _ = _
        rw [hrun]
        rfl
  cases hx with
  | nilSlice =>
    obtain rfl := rv_some (show rv rows nx (.tup []) = some r from he)
    exact ⟨w, by simp [Builtin.clear_, hat, ha, run_underlying hu], rfl, .refl nx h⟩
  | empty p c =>
    obtain rfl := rv_some (show rv rows nx (.tup []) = some r from he)
    refine ⟨w, ?_, rfl, .refl nx h⟩
    cases p <;> simp [Builtin.clear_, hat, ha, run_underlying hu]
  | @sliceEx _ _ _ c _ hi _ => exact sl c ha he hi
  | @sliceOp _ _ _ c _ _ hi _ _ => exact sl c ha he hi
  | _ => simp [evRare, u1] at he

theorem alloc_ok {t : TypeId} {z : Value} {x : AV} {tl : List AV} (h : HRel IR B ι rows w) (hfr : ι nx = none) (hz : zeroV P t = some z) (hx : VRel ι x z) (he : kBox (x :: tl) rows nx (Nat.succ t) = some r) :
    ∃ u w' ι', (Instr.alloc t true (.tuple #[])).run P w = .ok u w' ∧ VRel ι' r.v u ∧ Post IR B ι ι' rows w nx r.rows r.nx w' := by
  obtain ⟨u, w', ι', h1, h2, h3⟩ := box_ok (P := P) (t := t) (.inr rfl) h hfr hx he
  refine ⟨u, w', ι', ?_, h2, h3⟩
  unfold Instr.alloc
  simp only [Sem.run_bind, run_zeroValue hz, Result.andThen_ok]
  exact h1

theorem makeFunc_ok {f : Nat} {vs : List AV} {us : List Value} (hv : VRelL ι vs us) (he : evRare vs rows nx (.makeFunc f) = some r) : PureOK P ι rows w nx r (Instr.makeFunc (.func f) #[] us.toArray) := by
  obtain rfl := rv_some (show rv rows nx (.fn f vs) = some r from he)
  exact ⟨_, _, rfl, .fn hv, rfl⟩

theorem iface_ok {t : TypeId} {d : TypeDesc} (hu : P.underlying t = some d) (hd : ∀ m, d ≠ .interface m) {x : AV} {ux : Value} {tl : List AV} (he : evRare (x :: tl) rows nx .iface = some r) : PureOK P ι rows w nx r (Instr.makeInterface t ux) := by
  obtain rfl := rv_some (show rv rows nx .iface = some r from he)
  refine ⟨_, .iface t ux, ?_, .iface t ux, rfl⟩
  unfold Instr.makeInterface
  simp only [Sem.run_bind, run_underlying hu, Result.andThen_ok]
  cases d <;> first
    | rfl
    | exact absurd rfl (hd _)
end
end Ev
end

/- What each operation of the evaluator's code comes to in the machine: pointers without a type, bytes as a text. -/
section
namespace Ev
open Go Go.RowKit

section
variable {P : Program} {ι : Io} {rows : T ARow} {w : World} {nx : Nat} {r : R} {IR : Nat → IC → Code → Prop} {B : Base}

theorem shape_row {ι : Io} {rows : T ARow} {w : World} (h : HRel IR B ι rows w) {b g : Nat} {l : List AV} {L : Loc} (hb : rows.get b = some (.cells g l)) (hi : ι b = some L) :
    ∃ e c, w.shape? L.blk = some (e, c) ∧ L.sh + l.length ≤ c ∧ (g = 0 ∨ (g = e + 1 ∧ L.sh = 0)) ∧ CellsAt ι ((w.heap[L.blk]?.bind fun o => match o with | .cells c _ _ => some c | _ => none).getD #[]) L.sh l := by
  obtain ⟨L', o, h1, h2, h3⟩ := h.row b _ hb
  rw [hi] at h1; cases h1
  cases h3 with
  | @cells _ _ c e lo hi2 hz hc hl hf hg =>
    exact ⟨e, c.size, by simp [World.shape?, h2], hl, hg, by simpa [h2] using hc⟩

theorem run_seenAt {w : World} {a : Addr} {e : TypeId} {c : Nat} (h : w.shape? a.block = some (e, c)) : (Conv.seenAt a).run P w = .ok a w := by
  unfold Conv.seenAt viewAt
  simp [h]

theorem unPtr_ok {s t e : TypeId} {q : Kd} {x : AV} {ux : Value} {tl : List AV} (h : HRel IR B ι rows w) (hs : P.underlying s = some (.pointer e)) (ht : P.underlying t = some .unsafePointer) (hk : kdOf P e = some q) (hpos : 0 < P.cellsOf e)
    (hx : VRel ι x ux) (he : evRare (x :: tl) rows nx .unPtr = some r) : PureOK P ι rows w nx r (convert s t ux) := by
  replace he : kUnPtr (x :: tl) rows nx = some r := he
  simp only [kUnPtr, u1] at he
  obtain ⟨d, hd, _⟩ := kdOf_some hk
  cases hx <;> simp only at he <;> try (cases he; done)
  case ptr b o L hL =>
    obtain ⟨g, l, hb, he1⟩ := asCells_some.1 he
    obtain ⟨hlt, he2⟩ := gd_some.1 he1
    obtain rfl := rv_some he2
    rw [blt_nat, lenN_eq] at hlt
    simp only [decide_eq_true_eq] at hlt
    obtain ⟨e', c, h1, h2, _, _⟩ := shape_row h hb hL
    refine ⟨_, _, ?_, .ptr hL, rfl⟩
    have hse := run_seenAt (P := P) (w := w) (a := L.at o) h1
    have hn : ¬ (c ≤ L.sh + o) := by omega
    have hp : ¬ (P.cellsOf e = 0) := by omega
    unfold convert
    simp only [Sem.run_bind, run_underlying hs, run_underlying ht, Result.andThen_ok]
    unfold Conv.unsafePointer
    simp only [Sem.run_bind, run_underlying hs, run_underlying ht, Result.andThen_ok, hse]
    simp [cellsIn, Loc.at, h1, run_sizeOf hd, hp, hn]
  case nilPtr =>
    obtain rfl := rv_some he
    refine ⟨_, _, ?_, .nilPtr, rfl⟩
    unfold convert
    simp only [Sem.run_bind, run_underlying hs, run_underlying ht, Result.andThen_ok]
    unfold Conv.unsafePointer
    simp [run_underlying hs, run_underlying ht]

theorem liesAt_head {e : TypeId} (hc : 0 < P.cellsOf e) (count : Nat) (hn : 1 ≤ count) : liesAt P P.depth e count 0 e 1 = true := by
  have hd : P.depth = (2 * (P.types.size + Made.depth) + 1) + 1 := rfl
  rw [hd]
  simp only [liesAt, Bool.or_eq_true]
  left
  rw [hd]
  have : ¬ (P.cellsOf e = 0) := by omega
  simp [rowAt, this, hn, sameLayout]

theorem toPtr_ok {s t e : TypeId} {q : Kd} {x : AV} {ux : Value} {tl : List AV} (h : HRel IR B ι rows w) (hs : P.underlying s = some .unsafePointer) (ht : P.underlying t = some (.pointer e)) (hk : kdOf P e = some q) (hpos : 0 < P.cellsOf e)
    (hx : VRel ι x ux) (he : evRare (x :: tl) rows nx (.toPtr (Nat.succ e) (P.cellsOf e)) = some r) : PureOK P ι rows w nx r (convert s t ux) := by
  replace he : kToPtr (x :: tl) rows nx (Nat.succ e) (P.cellsOf e) = some r := he
  simp only [kToPtr, u1] at he
  obtain ⟨d, hd, _⟩ := kdOf_some hk
  cases hx <;> simp only at he <;> try (cases he; done)
  case ptr b o L hL =>
    obtain ⟨g, l, hb, he1⟩ := asCells_some.1 he
    obtain ⟨hlt, he2⟩ := gd_some.1 he1
    obtain rfl := rv_some he2
    rw [beq_nat, beq_nat, ble_nat, lenN_eq] at hlt
    simp only [Bool.and_eq_true, decide_eq_true_eq] at hlt
    obtain ⟨rfl, rfl, hle⟩ := hlt
    obtain ⟨e', c, h1, h2, h3, _⟩ := shape_row h hb hL
    rcases h3 with h3 | ⟨h3, h4⟩
    · cases h3
    simp only [Nat.succ_eq_add_one, Nat.add_right_cancel_iff] at h3
    subst h3
    refine ⟨_, _, ?_, .ptr hL, rfl⟩
    have hse := run_seenAt (P := P) (w := w) (a := L.at 0) h1
    have hla := liesAt_head (P := P) hpos (c / P.cellsOf e) ((Nat.one_le_div_iff hpos).2 (by omega))
    have hp : ¬ (P.cellsOf e = 0) := by omega
    unfold convert
    simp only [Sem.run_bind, run_underlying hs, run_underlying ht, Result.andThen_ok]
    unfold Conv.unsafePointer
    simp only [Sem.run_bind, run_underlying hs, run_underlying ht, Result.andThen_ok, hse]
    simp [variablesAt, Loc.at, h1, run_sizeOf hd, hp, h4, hla]
  case nilPtr =>
    obtain rfl := rv_some he
    refine ⟨_, _, ?_, .nilPtr, rfl⟩
    unfold convert
    simp only [Sem.run_bind, run_underlying hs, run_underlying ht, Result.andThen_ok]
    unfold Conv.unsafePointer
    simp [run_underlying hs, run_underlying ht]

theorem binP_ok {n : Bool} {t e : TypeId} {q : Kd} {ox oy : Operand} {x y : AV} {ux uy : Value} {tl : List AV} (hu : P.underlying t = some (.pointer e)) (hk : kdOf P e = some q)
    (hx : VRel ι x ux) (hy : VRel ι y uy) (he : evRare (x :: y :: tl) rows nx (.binP n) = some r) :
    PureOK P ι rows w nx r (do eqGuard (eqOp n) t ox oy ux uy; binOp (eqOp n) t ux uy) := by
  replace he : kBinP (x :: y :: tl) rows nx n = some r := he
  simp only [kBinP, u2] at he
  obtain ⟨d, hd, _⟩ := kdOf_some hk
  cases hx <;> simp only at he <;> try (cases he; done)
  rename_i b o L hL
  cases hy <;> simp only at he <;> try (cases he; done)
  rename_i c p M hM
  obtain ⟨hq, he1⟩ := gd_some.1 he
  obtain rfl := rv_some he1
  rw [beq_nat, beq_nat] at hq
  simp only [Bool.and_eq_true, decide_eq_true_eq] at hq
  obtain ⟨rfl, rfl⟩ := hq
  rw [hL] at hM; cases hM
  refine ⟨_, .bool (flipB n true), ?_, .bool _, rfl⟩
  have hq : (Op.equal t (.pointer (some (L.at o))) (.pointer (some (L.at o)))).run P w = .ok true w := by
    unfold Op.equal Op.maxDepth Op.equalIn
    simp only [Sem.run_bind, run_underlying hu, Result.andThen_ok, run_sizeOf hd]
    split <;> simp [sameAddr]
  have hg : (eqGuard (eqOp n) t ox oy (.pointer (some (L.at o))) (.pointer (some (L.at o)))).run P w = .ok () w := by
    unfold eqGuard
    cases n <;> simp [eqOp]
  cases n
  · simp only [eqOp] at hg ⊢
    simp only [Sem.run_bind, hg, Result.andThen_ok, binOp_eql (u := .pointer (some (L.at o))) (v := .pointer (some (L.at o))) rfl rfl, hq, Sem.run_pure]; rfl
  · simp only [eqOp] at hg ⊢
    simp only [Sem.run_bind, hg, Result.andThen_ok, binOp_neq (u := .pointer (some (L.at o))) (v := .pointer (some (L.at o))) rfl rfl, hq, Sem.run_pure]; rfl

theorem sliceData_ok {ts : Array TypeId} {ty : TypeId} {x : AV} {ux : Value} {tl : List AV} (hx : VRel ι x ux) (he : evRare (x :: tl) rows nx .sliceData = some r) : PureOK P ι rows w nx r (Builtin.unsafeSliceData_ ts ty #[ux]) := by
  replace he : kSliceData (x :: tl) rows nx = some r := he
  simp only [kSliceData, u1] at he
  cases hx <;> simp only at he <;> try (cases he; done)
  case sliceEx b o len c L hL hle =>
    obtain ⟨h1, he1⟩ := gd_some.1 he
    obtain rfl := rv_some he1
    rw [blt_nat] at h1
    simp only [decide_eq_true_eq] at h1
    exact ⟨_, _, Lib.run_unsafeSliceData_row w ts ty _ len c (by omega), .ptr hL, rfl⟩
  case sliceOp b o len c sz L hL hle hfit =>
    obtain ⟨h1, he1⟩ := gd_some.1 he
    obtain rfl := rv_some he1
    rw [blt_nat] at h1
    simp only [decide_eq_true_eq] at h1
    exact ⟨_, _, Lib.run_unsafeSliceData_row w ts ty _ len c (by omega), .ptr hL, rfl⟩
  case nilSlice =>
    obtain rfl := rv_some he
    exact ⟨_, _, Lib.run_unsafeSliceData_nil w ts ty 0 0, .nilPtr, rfl⟩

/-- Cells that are bytes. -/
theorem bytesOf_rel : ∀ {l : List AV} {s : List UInt8}, bytesOf l = some s → l.length = s.length ∧ ∀ (ι : Io) (i : Nat) (a : AV) (v : Value), l[i]? = some a → VRel ι a v → ∃ x, s[i]? = some x ∧ v = .int .u8 x.toNat
  | [], s, h => by
    simp only [bytesOf, Option.some.injEq] at h
    subst h
    exact ⟨rfl, fun ι i a v e => by simp at e⟩
  | a :: l, s, h => by
    obtain ⟨k, n, rfl, h1⟩ := asInt_some.1 (show asInt a (fun k n => (match k with
      | .u8 => (match n with
        | .ofNat m => gd (Nat.blt m 256) (bo (bytesOf l) fun r => some (UInt8.ofNat m :: r))
        | _ => none)
      | _ => none)) = some s from h)
    cases k <;> simp only at h1 <;> try (cases h1; done)
    cases n <;> simp only at h1 <;> try (cases h1; done)
    rename_i m
    obtain ⟨hm, h2⟩ := gd_some.1 h1
    obtain ⟨t, ht, h3⟩ := bo_some.1 h2
    simp only [Option.some.injEq] at h3
    subst h3
    rw [blt_nat] at hm
    simp only [decide_eq_true_eq] at hm
    obtain ⟨q1, q2⟩ := bytesOf_rel ht
    refine ⟨by simp [q1], fun ι i a v e hv => ?_⟩
    cases i with
    | zero =>
      simp at e; subst e
      cases hv
      refine ⟨_, rfl, ?_⟩
      have : (UInt8.ofNat m).toNat = m := by simp; omega
      rw [this]
    | succ i => exact q2 ι i a v (by simpa using e) hv

/-- A row that is frozen, and goes. -/
theorem Post.freeze_drop {b : Nat} {rr : ARow} {L : Loc} (hro : rr.isRo = false) (h : HRel IR B ι rows w) (hb : rows.get b = some rr) (hL : ι b = some L) (o n : Nat) :
    Post IR B ι ι rows w nx (rows.set b none) nx (w.freeze ⟨L.blk, o, none⟩ n) := by
  have hsz : (w.freeze ⟨L.blk, o, none⟩ n).heap.size = w.heap.size := by unfold World.freeze; split <;> simp
  have hoth : ∀ k, k ≠ L.blk → (w.freeze ⟨L.blk, o, none⟩ n).heap[k]? = w.heap[k]? := fun k hk => by
    unfold World.freeze
    split
    · rfl
    · simp only [Array.getElem?_modify]
      rw [if_neg (fun e => hk e.symm)]
  have hbel : Below B.n w (w.freeze ⟨L.blk, o, none⟩ n) := Lib.below_freeze (.refl _ _) (h.low b rr L hb hL hro) n
  have hget : ∀ b' r', (rows.set b none).get b' = some r' → b' ≠ b ∧ rows.get b' = some r' := fun b' r' e => by
    rw [T.get_set] at e
    split at e
    · cases e
    · rename_i hne; exact ⟨hne, e⟩
  refine ⟨.refl _, fun _ _ _ => rfl, fun _ _ => rfl, Nat.le_refl _, ⟨fun b' r' e => ?_, fun b1 b2 r1 r2 L1 L2 e1 e2 => h.inj b1 b2 r1 r2 L1 L2 (hget _ _ e1).2 (hget _ _ e2).2, fun b' r' L' e => h.low b' r' L' (hget _ _ e).2, h.below.trans hbel, by rw [hsz]; exact h.room⟩, fun k hk ho => hoth k (fun e => ho ⟨b, rr, L, hb, hL, e.symm⟩), Nat.le_of_eq hsz.symm, fun k ⟨b', r', L', e, i, hk⟩ => .inl ⟨b', r', L', (hget _ _ e).2, i, hk⟩⟩
  obtain ⟨hne, e'⟩ := hget _ _ e
  obtain ⟨L1, o1, h1, h2, h3⟩ := h.row b' r' e'
  exact ⟨L1, o1, h1, by rw [hoth _ (fun hk => hne (h.inj b' b r' rr L1 L e' hb (.inr hro) h1 hL hk))]; exact h2, h3⟩

theorem unString_ok {t it e ty : TypeId} {x n : AV} {ux un : Value} {tl : List AV} (h : HRel IR B ι rows w) (ht : P.underlying t = some (.pointer e)) (hc : P.cellsOf e = 1) (hx : VRel ι x ux) (hn : VRel ι n un)
    (he : evRare (x :: n :: tl) rows nx (.unString (Nat.succ e)) = some r) : ∃ u w' ι', (Builtin.unsafeString_ #[t, it] ty #[ux, un]).run P w = .ok u w' ∧ VRel ι' r.v u ∧ Post IR B ι ι' rows w nx r.rows r.nx w' := by
  replace he : kUnString (x :: n :: tl) rows nx (Nat.succ e) = some r := he
  simp only [kUnString, u2] at he
  obtain ⟨k, m, rfl, he1⟩ := asInt_some.1 he
  obtain ⟨hk, he2⟩ := gd_some.1 he1
  simp only [beq_iff_eq] at hk
  subst hk
  cases hn
  cases m <;> simp only at he2 <;> try (cases he2; done)
  rename_i m
  cases m with
  | zero =>
    have hz := Lib.run_unsafeString_none (P := P) w t it ty
    cases hx <;> simp only at he2 <;> try (cases he2; done)
    · obtain rfl := rv_some he2
      exact ⟨_, w, ι, hz _, .str [], .refl nx h⟩
    · obtain rfl := rv_some he2
      exact ⟨_, w, ι, hz _, .str [], .refl nx h⟩
  | succ m =>
    obtain ⟨b, o, rfl, he3⟩ := asPtr_some.1 he2
    obtain ⟨g, l, hb, he4⟩ := asCells_some.1 he3
    obtain ⟨hg, he5⟩ := gd_some.1 he4
    obtain ⟨l', hl', he6⟩ := bo_some.1 he5
    obtain ⟨s, hs, he7⟩ := bo_some.1 he6
    simp only [Option.some.injEq] at he7
    subst he7
    rw [beq_nat, beq_nat, ble_nat] at hg
    simp only [Bool.and_eq_true, decide_eq_true_eq] at hg
    obtain ⟨rfl, rfl, hle⟩ := hg
    obtain ⟨hlen, rfl⟩ := takeN_some.1 hl'
    cases hx with
    | @ptr _ _ L hL =>
      obtain ⟨e', c, h1, h2, h3, _⟩ := shape_row h hb hL
      obtain ⟨L', hL', hcell⟩ := cell_at h hb rfl
      rw [hL] at hL'; cases hL'
      rcases h3 with h3 | ⟨h3, h4⟩
      · cases h3
      simp only [Nat.succ_eq_add_one, Nat.add_right_cancel_iff] at h3
      subst h3
      obtain ⟨q1, q2⟩ := bytesOf_rel hs
      have hsl : s.length = m + 1 := by rw [← q1]; simp; omega
      have hsn : s ≠ [] := fun e => by simp [e] at hsl
      have hrun := Lib.run_unsafeString_row (P := P) w t it ty e ht hc L.blk c h1 s hsn (by omega) (by omega) (fun j y hy => by
        have hj : j < s.length := (List.getElem?_eq_some_iff.1 hy).1
        obtain ⟨v, hv, hvr, _⟩ := hcell j l[j] (by simp [List.getElem?_eq_getElem (show j < l.length by omega)])
        obtain ⟨y', hy', rfl⟩ := q2 ι j l[j] v (by rw [List.getElem?_take_of_lt (by omega)]; simp [List.getElem?_eq_getElem (show j < l.length by omega)]) hvr
        rw [hy] at hy'; cases hy'
        rw [h4, Nat.zero_add] at hv
        have : (⟨L.blk, 0, none⟩ : Addr).add j = ⟨L.blk, j, none⟩ := by
          unfold Addr.add; split <;> simp_all
        rw [this]; exact hv)
      have e1 : L.at 0 = ⟨L.blk, 0, none⟩ := by simp [Loc.at, h4]
      rw [hsl] at hrun
      exact ⟨_, _, ι, by rw [e1]; exact hrun, .str s, Post.freeze_drop rfl h hb hL 0 _⟩

theorem toStr_ok {s t e : TypeId} {x : AV} {ux : Value} {tl : List AV} (h : HRel IR B ι rows w) (hs : P.underlying s = some (.slice e)) (ht : P.underlying t = some .string) (hu8 : P.underlying e = some (.int .u8)) (hx : VRel ι x ux)
    (he : evRare (x :: tl) rows nx .toStr = some r) : PureOK P ι rows w nx r (convert s t ux) := by
  replace he : kToStr (x :: tl) rows nx = some r := he
  simp only [kToStr, u1] at he
  have sl : ∀ {b o len : Nat} {L : Loc} (c : Nat), ι b = some L → asRead (rows.get b) (fun l => bo (takeN len (dropN o l)) fun l => bo (bytesOf l) fun s => rv rows nx (.str s)) = some r → PureOK P ι rows w nx r (convert s t (.slice (some (L.at o)) len c)) := by
    intro b o len L c hL he
    obtain ⟨_, l, hb, hq, he1⟩ := asRead_some.1 he
    obtain ⟨l', hl', he2⟩ := bo_some.1 he1
    obtain ⟨u, hu, he3⟩ := bo_some.1 he2
    obtain rfl := rv_some he3
    rw [dropN_eq] at hl'
    obtain ⟨hn, rfl⟩ := takeN_some.1 hl'
    rw [List.length_drop] at hn
    obtain ⟨L', hL', hcell⟩ := cell_at h hb hq
    rw [hL] at hL'; cases hL'
    have hld : ∃ vs : List Value, (loadCells (L.at o) len).run P w = .ok vs.toArray w ∧ VRelL ι ((l.drop o).take len) vs := by
      by_cases h0 : len = 0
      · subst h0
        exact ⟨[], by simp [loadCells, loadCellsFrom], by simp; exact .nil⟩
      · obtain ⟨vs, k1, k2, _, _⟩ := run_loadRow (P := P) hcell o len (by omega)
        exact ⟨vs, k1, k2⟩
    obtain ⟨vs, k1, k2⟩ := hld
    obtain ⟨q1, q2⟩ := bytesOf_rel hu
    have hvs : vs = (u.map fun x => (x.toNat : Int)).map (Value.int .u8) := by
      apply List.ext_getElem?
      intro j
      by_cases hj : j < vs.length
      · have hja : j < ((l.drop o).take len).length := by rw [k2.length]; exact hj
        obtain ⟨v, hv, hvr⟩ := k2.get (List.getElem?_eq_getElem hja)
        obtain ⟨y, hy, rfl⟩ := q2 ι j _ v (List.getElem?_eq_getElem hja) hvr
        rw [hv, List.getElem?_map, List.getElem?_map, hy]; rfl
      · have hjl : ¬ j < u.length := by
          rw [← q1, k2.length]; exact hj
        rw [List.getElem?_eq_none (by omega), List.getElem?_eq_none (by simpa using hjl)]
    rw [hvs] at k1
    refine ⟨_, _, ?_, .str u, rfl⟩
    rw [run_convert_bytes_string w s t e _ len c hs hu8 ht, run_bytesToString w _ len c _ k1]
    congr 2
    have key : ∀ (m : List UInt8) (acc : ByteArray), ((m.map fun x => (x.toNat : Int)).foldl (fun r n => r.push (UInt8.ofNat n.toNat)) acc) = ⟨acc.data ++ m.toArray⟩ := by
      intro m
      induction m with
      | nil => intro acc; simp
      | cons y m ih =>
        intro acc
        simp only [List.map_cons, List.foldl_cons]
        rw [ih]
        apply ByteArray.ext
        simp [ByteArray.push]
    rw [key]
    simp [ByteArray.empty, ByteArray.emptyWithCapacity]
    rfl
  cases hx <;> simp only at he <;> try (cases he; done)
  case sliceEx b o len c L hL hle => exact sl c hL he
  case sliceOp b o len c sz L hL hle hfit => exact sl c hL he
  case nilSlice =>
    obtain rfl := rv_some he
    exact ⟨_, _, by simp [convert, run_underlying hs, run_underlying ht, run_underlying hu8, Conv.bytesToString]; rfl, .str [], rfl⟩
  case empty p c =>
    obtain rfl := rv_some he
    refine ⟨_, _, ?_, .str [], rfl⟩
    cases p <;> simp [convert, run_underlying hs, run_underlying ht, run_underlying hu8, Conv.bytesToString, loadCells, loadCellsFrom] <;> rfl
end
end Ev
end

/- What each operation of the evaluator's code comes to in the machine: all of them. -/
section
namespace Ev
open Go Go.RowKit

section
variable {P : Program} {ι : Io} {rows : T ARow} {w : World} {nx : Nat} {r : R} {IR : Nat → IC → Code → Prop} {B : Base}

/-- The calls of the evaluator are those of the machine. -/
structure CallOK (IR : Nat → IC → Code → Prop) (B : Base) (P : Program) (C : CallF) : Prop where
  f : ∀ {ι : Io} {rows : T ARow} {w : World} {nx : Nat} {f : Nat} {args : List AV} {us : List Value} {r : R}, C (.f f) args rows nx = some r → HRel IR B ι rows w → (∀ b, nx ≤ b → ι b = none) → VRelL ι args us → OutOK IR B P ι rows w nx r ((callFunc f ⟨us⟩).run P w)
  r : ∀ {ι : Io} {rows : T ARow} {w : World} {nx : Nat} {f : Nat} {args : List AV} {us : List Value} {r : R}, C (.r f) args rows nx = some r → HRel IR B ι rows w → (∀ b, nx ≤ b → ι b = none) → VRelL ι args us →
    (callFunc f ⟨us⟩).run P w = .ok (.enter f ⟨us⟩) w ∧ Calls P f ⟨us⟩ w fun e w'' => ∃ v ι', e = .returned v ∧ VRel ι' r.v v ∧ Post IR B ι ι' rows w nx r.rows r.nx w''
  y : ∀ {ι : Io} {rows : T ARow} {w : World} {nx : Nat} {b : Nat} {L : Loc} {args : List AV} {us : List Value} {r : R}, C (.y b) args rows nx = some r → HRel IR B ι rows w → (∀ b, nx ≤ b → ι b = none) → ι b = some L → VRelL ι args us → OutOK IR B P ι rows w nx r ((Instr.yield L.blk ⟨us⟩).run P w)

theorem PureOK.out {s : Sem Value} (h : HRel IR B ι rows w) (hp : PureOK P ι rows w nx r s) : OutOK IR B P ι rows w nx r ((do pure (Next.value (← s)) : Sem Next).run P w) := by
  obtain ⟨v, u, h1, h2, rfl⟩ := hp
  exact OutOK.val h h2 (by simp [h1])
theorem NewOK.out {s : Sem Value} (hp : ∃ u w' ι', s.run P w = .ok u w' ∧ VRel ι' r.v u ∧ Post IR B ι ι' rows w nx r.rows r.nx w') : OutOK IR B P ι rows w nx r ((do pure (Next.value (← s)) : Sem Next).run P w) := by
  obtain ⟨u, w', ι', h1, h2, h3⟩ := hp
  have : (do pure (Next.value (← s)) : Sem Next).run P w = .ok (.value u) w' := by simp [h1]
  rw [this]
  exact ⟨ι', h2, h3⟩
theorem UnitOK.out {s : Sem Unit} (hp : ∃ w', s.run P w = .ok () w' ∧ r.v = .undef ∧ Post IR B ι ι rows w nx r.rows r.nx w') : OutOK IR B P ι rows w nx r ((do s; pure Next.skip : Sem Next).run P w) := by
  obtain ⟨w', h1, h2, h3⟩ := hp
  have : (do s; pure Next.skip : Sem Next).run P w = .ok .skip w' := by simp [h1]
  rw [this]
  exact ⟨ι, by rw [h2]; exact .undef, h3⟩

theorem VRelL.inv1 {vs : List AV} {u : Value} (h : VRelL ι vs [u]) : ∃ a, vs = [a] ∧ VRel ι a u := by
  cases h with | cons h t => cases t; exact ⟨_, rfl, h⟩
theorem VRelL.inv2 {vs : List AV} {u v : Value} (h : VRelL ι vs [u, v]) : ∃ a b, vs = [a, b] ∧ VRel ι a u ∧ VRel ι b v := by
  cases h with | cons h t => obtain ⟨b, rfl, h2⟩ := t.inv1; exact ⟨_, _, rfl, h, h2⟩
theorem VRelL.inv3 {vs : List AV} {u v x : Value} (h : VRelL ι vs [u, v, x]) : ∃ a b c, vs = [a, b, c] ∧ VRel ι a u ∧ VRel ι b v ∧ VRel ι c x := by
  cases h with | cons h t => obtain ⟨b, c, rfl, h2, h3⟩ := t.inv2; exact ⟨_, _, _, rfl, h, h2, h3⟩
theorem VRelL.consV {vs : List AV} {u : Value} {us : List Value} (h : VRelL ι vs (u :: us)) : ∃ a tl, vs = a :: tl ∧ VRel ι a u ∧ VRelL ι tl us := by
  cases h with | cons h t => exact ⟨_, _, rfl, h, t⟩

theorem mv_ok {k : K} {u : Value} {vs : List AV} {C : CallF} (h : HRel IR B ι rows w) (hk : k = .mv) (hv : VRelL ι vs [u]) (he : evK vs rows nx C k = some r) : OutOK IR B P ι rows w nx r (.ok (.value u) w) := by
  subst hk
  obtain ⟨a, rfl, ha⟩ := hv.inv1
  obtain rfl := rv_some (show rv rows nx a = some r from he)
  exact OutOK.val h ha rfl

theorem compBin_ok {op : BinOp} {t : TypeId} {x y : Operand} {k : K} {xs : List Operand} {ρ : Operand → Value} {vs : List AV} {C : CallF} (hc : compBin P op t x y = some (k, xs)) (hv : VRelL ι vs (xs.map ρ)) (he : evK vs rows nx C k = some r) :
    PureOK P ι rows w nx r (do eqGuard op t x y (ρ x) (ρ y); binOp op t (ρ x) (ρ y)) := by
  unfold compBin at hc
  cases hu : P.underlying t with
  | none => simp [hu] at hc
  | some d =>
    simp only [hu] at hc
    have nilc : ∀ (nk : NK), (match nk with | .slice => ∃ e, d = .slice e | .map => ∃ q e, d = .map q e | .fn => ∃ a b c, d = .func a b c | .iface => ∃ m, d = .interface m | .ptr => ∃ e, d = .pointer e) → compNil op nk x y = some (k, xs) → PureOK P ι rows w nx r (do eqGuard op t x y (ρ x) (ρ y); binOp op t (ρ x) (ρ y)) := by
      intro nk hd hc
      unfold compNil at hc
      cases op <;> simp only at hc <;> try (cases hc; done)
      case eql =>
        obtain ⟨hn, hc1⟩ := gd_some.1 hc
        cases hc1
        obtain ⟨a, b, rfl, ha, hb⟩ := hv.inv2
        exact binN_ok (n := false) (tl := []) hu hd hn ha hb he
      case neq =>
        obtain ⟨hn, hc1⟩ := gd_some.1 hc
        cases hc1
        obtain ⟨a, b, rfl, ha, hb⟩ := hv.inv2
        exact binN_ok (n := true) (tl := []) hu hd hn ha hb he
    have aggc : ∀ n, op = eqOp n → isAggT P t = true → bo (eqShape P t) (fun sh => some (K.rare (.binA n sh), [x, y])) = some (k, xs) → PureOK P ι rows w nx r (do eqGuard op t x y (ρ x) (ρ y); binOp op t (ρ x) (ρ y)) := by
      intro n hn ha hc
      obtain ⟨sh, hs, hc1⟩ := bo_some.1 hc
      cases hc1
      obtain ⟨a, b, rfl, h1, h2⟩ := hv.inv2
      rw [hn]
      exact binA_ok (n := n) (tl := []) hs ha h1 h2 he
    cases d <;> simp only at hc <;> try (cases hc; done)
    case int q => cases hc; obtain ⟨a, b, rfl, ha, hb⟩ := hv.inv2; exact binI_ok ha hb he
    case string => cases hc; obtain ⟨a, b, rfl, ha, hb⟩ := hv.inv2; exact binS_ok ha hb he
    case bool =>
      cases op <;> simp only at hc <;> try (cases hc; done)
      case eql => cases hc; obtain ⟨a, b, rfl, ha, hb⟩ := hv.inv2; exact binB_ok (n := false) (tl := []) hu ha hb he
      case neq => cases hc; obtain ⟨a, b, rfl, ha, hb⟩ := hv.inv2; exact binB_ok (n := true) (tl := []) hu ha hb he
    case struct fs =>
      cases op <;> simp only at hc <;> try (cases hc; done)
      case eql => exact aggc false rfl (by simp [isAggT, hu]) hc
      case neq => exact aggc true rfl (by simp [isAggT, hu]) hc
    case array n e =>
      cases op <;> simp only at hc <;> try (cases hc; done)
      case eql => exact aggc false rfl (by simp [isAggT, hu]) hc
      case neq => exact aggc true rfl (by simp [isAggT, hu]) hc
    case slice e => exact nilc .slice ⟨e, rfl⟩ hc
    case map a b => exact nilc .map ⟨a, b, rfl⟩ hc
    case func a b c => exact nilc .fn ⟨a, b, c, rfl⟩ hc
    case interface m => exact nilc .iface ⟨m, rfl⟩ hc
    case pointer e =>
      split at hc
      · exact nilc .ptr ⟨e, rfl⟩ hc
      · cases op <;> simp only at hc <;> try (cases hc; done)
        case eql => obtain ⟨q, hq, hc1⟩ := bo_some.1 hc; cases hc1; obtain ⟨a, b, rfl, ha, hb⟩ := hv.inv2; exact binP_ok (n := false) (tl := []) hu hq ha hb he
        case neq => obtain ⟨q, hq, hc1⟩ := bo_some.1 hc; cases hc1; obtain ⟨a, b, rfl, ha, hb⟩ := hv.inv2; exact binP_ok (n := true) (tl := []) hu hq ha hb he

theorem compSlice_ok {t : TypeId} {x : Operand} {lo hi mx : Option Operand} {k : K} {xs : List Operand} {ρ : Operand → Value} {vs : List AV} {C : CallF} (hc : compSlice P t x lo hi mx = some (k, xs)) (hv : VRelL ι vs (xs.map ρ)) (he : evK vs rows nx C k = some r) :
    PureOK P ι rows w nx r (Instr.sliceAt t (ρ x) (lo.map ρ) (hi.map ρ) (mx.map ρ)) := by
  have hl : ∀ (o : Option Operand), o.toList.map ρ = (o.map ρ).toList := fun o => by cases o <;> rfl
  have hi' : ∀ (o : Option Operand), (o.map ρ).isSome = o.isSome := fun o => by cases o <;> rfl
  unfold compSlice at hc
  cases hu : P.underlying t with
  | none => simp [hu] at hc
  | some d =>
    simp only [hu] at hc
    cases d <;> simp only at hc <;> try (cases hc; done)
    case string =>
      obtain ⟨hm, hc1⟩ := gd_some.1 hc
      cases hc1
      have : mx = none := by simpa using hm
      subst this
      obtain ⟨a, tl, rfl, ha, ht⟩ := hv.consV
      simp only [List.map_append, hl] at ht
      exact sliceStr_ok hu ha (by simpa using ht) (by rw [hi', hi']; exact he)
    case slice e =>
      obtain ⟨hg, hc1⟩ := gd_some.1 hc
      cases hc1
      rw [blt_nat] at hg
      simp only [Bool.and_eq_true, decide_eq_true_eq] at hg
      obtain ⟨a, tl, rfl, ha, ht⟩ := hv.consV
      simp only [List.map_append, hl] at ht
      refine sliceSl_ok hu hg.2 (fun e => ?_) ha (by simpa using ht) (by rw [hi', hi', hi']; exact he)
      rw [hi'] at e ⊢
      have := hg.1
      cases mx <;> simp_all
    case array n e =>
      obtain ⟨hg, hc1⟩ := gd_some.1 hc
      cases hc1
      rw [blt_nat] at hg
      simp only [Bool.and_eq_true, decide_eq_true_eq] at hg
      obtain ⟨a, tl, rfl, ha, ht⟩ := hv.consV
      simp only [List.map_append, hl] at ht
      refine sliceArr_ok hu hg.2 (fun e => ?_) ha (by simpa using ht) (by rw [hi', hi', hi']; exact he)
      rw [hi'] at e ⊢
      have := hg.1
      cases mx <;> simp_all
end
end Ev
end

/- What each operation of the evaluator's code comes to in the machine: the builtins; the whole. -/
section
namespace Ev
open Go Go.RowKit

section
variable {P : Program} {ι : Io} {rows : T ARow} {w : World} {nx : Nat} {r : R} {IR : Nat → IC → Code → Prop} {B : Base}

theorem builtin_v {s : Sem Value} : (do pure (Next.value (← s)) : Sem Next) = (do pure (Next.value (← s))) := rfl

theorem append_ok {t u e ty : TypeId} (h : HRel IR B ι rows w) (hfr : ι nx = none) (hu : P.underlying t = some (.slice e)) (hk : (∃ e', P.underlying u = some (.slice e')) ∨ P.underlying u = some .string) (hpos : 0 < P.cellsOf e) (hb : 0 < P.bytesOf e) (hzf : zeroFits P e = true)
    {a x : AV} {ua ux : Value} {tl : List AV} (ha : VRel ι a ua) (hx : VRel ι x ux) (he : kAppend (a :: x :: tl) rows nx (P.cellsOf e) (P.bytesOf e) (Nat.succ e) = some r) :
    ∃ v w' ι', (Builtin.append_ #[t, u] ty #[ua, ux]).run P w = .ok v w' ∧ VRel ι' r.v v ∧ Post IR B ι ι' rows w nx r.rows r.nx w' := by
  obtain ⟨i, hi, hib, _⟩ := bytes_run hpos w
  obtain ⟨z, hz, hzs, hz1⟩ := zeroFits_some hzf
  obtain ⟨i', hi', hiz⟩ := bo_some.1 hz
  rw [hi] at hi'; cases hi'
  have hsz := cellsOf_info hi
  simp only [kAppend, u2] at he
  obtain ⟨src, hs, he1⟩ := bo_some.1 he
  obtain ⟨n, news, s1, s2⟩ := src_ok h hk hx hs
  rw [hsz] at s1 hzs hpos he1
  rw [hib] at he1 hb
  exact appTo_ok hzs hpos hb h hfr ha (.ofSrc hu hi hiz s1) s2 he1

theorem appendZ_ok {t u e ty : TypeId} {q : IntKind} {z : AV} (h : HRel IR B ι rows w) (hfr : ι nx = none) (hu : P.underlying t = some (.slice e)) (hk : P.underlying u = some (.int q)) (hpos : 0 < P.cellsOf e) (hb : 0 < P.bytesOf e) (hzf : zeroFits P e = true) (hz : zeroA P e = some z)
    {a x : AV} {ua ux : Value} {tl : List AV} (ha : VRel ι a ua) (hx : VRel ι x ux) (he : evRare (a :: x :: tl) rows nx (.appendZ (P.cellsOf e) (P.bytesOf e) (Nat.succ e) z.cells) = some r) :
    ∃ v w' ι', (Builtin.append_ #[t, u] ty #[ua, ux]).run P w = .ok v w' ∧ VRel ι' r.v v ∧ Post IR B ι ι' rows w nx r.rows r.nx w' := by
  obtain ⟨i, hi, hib, _⟩ := bytes_run hpos w
  obtain ⟨zv, hzv, _⟩ := zeroA_some hz
  obtain ⟨hzc, hzs, hz1⟩ := zero_cells hzf hz hzv ι
  obtain ⟨i', hi', hiz⟩ := bo_some.1 hzv
  rw [hi] at hi'; cases hi'
  have hsz := cellsOf_info hi
  simp only [evRare, u2] at he
  obtain ⟨k, n, rfl, he1⟩ := asNat_some.1 he
  obtain ⟨hsm, he2⟩ := gd_some.1 he1
  have hsm := small_le hsm
  cases hx
  rw [hsz] at hzs hpos he2
  rw [hib] at he2 hb hsm
  rw [repl_eq] at he2
  exact appTo_ok hzs hpos hb h hfr ha (.ofZeros hu hk hi hiz hzs hz1 hb hsm) (flatten_rel hzc n) he2

theorem compBuiltin_ok {b : Builtin} {ts : Array TypeId} {ty : TypeId} {cs : Array Bool} {args : List Operand} {k : K} {xs : List Operand} {ρ : Operand → Value} {vs : List AV} {C : CallF} (hρ : ∀ v, ρ (.const v) = v) (h : HRel IR B ι rows w) (hfr : ι nx = none)
    (hc : compBuiltin P b ts.toList args = some (k, xs)) (hv : VRelL ι vs (xs.map ρ)) (he : evK vs rows nx C k = some r) : OutOK IR B P ι rows w nx r ((builtin b ts ty cs ⟨args.map ρ⟩).run P w) := by
  have at0 : ∀ {t : TypeId} {l : List TypeId}, ts.toList = t :: l → ts[0]? = some t := fun {t l} e => by
    have : ts.toList[0]? = some t := by rw [e]; rfl
    simpa using this
  have arg0 : ∀ {u : Value} {us : List Value}, args.map ρ = u :: us → (⟨args.map ρ⟩ : Array Value)[0]? = some u := fun {u us} e => by
    rw [e]; rfl
  unfold compBuiltin at hc
  cases b <;> simp only at hc <;> try (cases hc; done)
  case append =>
    split at hc
    · rename_i t u hts
      have hts' : ts = #[t, u] := by apply Array.ext'; simpa using hts
      subst hts'
      cases hu : P.underlying t with
      | none => simp [hu] at hc
      | some d =>
        simp only [hu] at hc
        cases d <;> simp only at hc <;> try (cases hc; done)
        case slice e =>
          have go : (∃ e', P.underlying u = some (.slice e')) ∨ P.underlying u = some .string → gd (Nat.blt 0 (P.cellsOf e) && (Nat.blt 0 (P.bytesOf e) && zeroFits P e)) (some (K.rare (.append (P.cellsOf e) (P.bytesOf e) (Nat.succ e)), args)) = some (k, xs) → OutOK IR B P ι rows w nx r ((builtin .append #[t, u] ty cs ⟨args.map ρ⟩).run P w) := by
            intro hk hc
            obtain ⟨hg, hc1⟩ := gd_some.1 hc
            cases hc1
            rw [blt_nat, blt_nat] at hg
            simp only [Bool.and_eq_true, decide_eq_true_eq] at hg
            obtain ⟨a, x, tl, rfl, he1⟩ := u2_some.1 (show u2 vs (fun a x => bo (srcCells rows (P.cellsOf e) x) fun src => appTo rows nx (P.cellsOf e) (P.bytesOf e) (Nat.succ e) a src) = some r from he)
            have hal : ∃ ua ux us, args.map ρ = ua :: ux :: us ∧ VRel ι a ua ∧ VRel ι x ux := by
              generalize args.map ρ = l at hv
              cases hv with | cons h1 t1 => cases t1 with | cons h2 t2 => exact ⟨_, _, _, rfl, h1, h2⟩
            obtain ⟨ua, ux, us, e1, h1, h2⟩ := hal
            rw [e1]
            have hcut : (Builtin.append_ #[t, u] ty ⟨ua :: ux :: us⟩) = Builtin.append_ #[t, u] ty #[ua, ux] := by
              unfold Builtin.append_
              simp
            refine NewOK.out (s := Builtin.append_ #[t, u] ty ⟨ua :: ux :: us⟩) ?_
            rw [hcut]
            exact append_ok (tl := tl) h hfr hu hk hg.1 hg.2.1 hg.2.2 h1 h2 he
          cases hu2 : P.underlying u with
          | none => simp [hu2] at hc
          | some d2 =>
            simp only [hu2] at hc
            cases d2 <;> simp only at hc <;> try (cases hc; done)
            case slice e' => exact go (.inl ⟨e', hu2⟩) hc
            case string => exact go (.inr hu2) hc
            case int q =>
              obtain ⟨z, hz, hc1⟩ := bo_some.1 hc
              obtain ⟨hg, hc2⟩ := gd_some.1 hc1
              cases hc2
              rw [blt_nat, blt_nat] at hg
              simp only [Bool.and_eq_true, decide_eq_true_eq] at hg
              obtain ⟨a, x, tl, rfl, he1⟩ := u2_some.1 (show u2 vs (fun a n => asNat n fun n => gd (small n (P.bytesOf e)) (appTo rows nx (P.cellsOf e) (P.bytesOf e) (Nat.succ e) a (repl n z.cells))) = some r from he)
              have hal : ∃ ua ux us, args.map ρ = ua :: ux :: us ∧ VRel ι a ua ∧ VRel ι x ux := by
                generalize args.map ρ = l at hv
                cases hv with | cons h1 t1 => cases t1 with | cons h2 t2 => exact ⟨_, _, _, rfl, h1, h2⟩
              obtain ⟨ua, ux, us, e1, h1, h2⟩ := hal
              rw [e1]
              have hcut : (Builtin.append_ #[t, u] ty ⟨ua :: ux :: us⟩) = Builtin.append_ #[t, u] ty #[ua, ux] := by
                unfold Builtin.append_
                simp
              refine NewOK.out (s := Builtin.append_ #[t, u] ty ⟨ua :: ux :: us⟩) ?_
              rw [hcut]
              exact appendZ_ok (tl := tl) h hfr hu hu2 hg.1 hg.2.1 hg.2.2 hz h1 h2 he
    · cases hc
  case cap =>
    split at hc
    · rename_i t l hts
      cases hu : P.underlying t with
      | none => simp [hu] at hc
      | some d =>
        simp only [hu] at hc
        cases d <;> simp only at hc <;> try (cases hc; done)
        case slice e =>
          cases hc
          obtain ⟨a, tl, rfl, he1⟩ := u1_some.1 (show u1 vs (fun x => (match x with
            | .slice _ _ _ c => (match c with | .ex n => rv rows nx (.int .i64 (.ofNat n)) | .op _ => none)
            | .nil k => (match k with | .slice => rv rows nx (.int .i64 0) | _ => none)
            | _ => none)) = some r from he)
          obtain ⟨u, us, e1, h1, _⟩ := hv.cons_inv
          exact PureOK.out (s := Builtin.cap_ ts ty ⟨args.map ρ⟩) h (cap_ok (tl := tl) hu h1 (at0 hts) (arg0 e1) he)
    · cases hc
  case clear =>
    split at hc
    · rename_i t l hts
      cases hu : P.underlying t with
      | none => simp [hu] at hc
      | some d =>
        simp only [hu] at hc
        cases d <;> simp only at hc <;> try (cases hc; done)
        case slice e =>
          obtain ⟨z, hz, hc1⟩ := bo_some.1 hc
          obtain ⟨hg, hc2⟩ := gd_some.1 hc1
          cases hc2
          simp only [Bool.and_eq_true] at hg
          cases vs with
          | nil => cases he
          | cons a tl =>
            obtain ⟨u, us, e1, h1, _⟩ := hv.cons_inv
            obtain ⟨w', q1, q2, q3⟩ := clear_ok (ty := ty) (tl := tl) h hu hg.2 hz h1 (at0 hts) (arg0 e1) he
            refine NewOK.out (s := Builtin.clear_ ts ty ⟨args.map ρ⟩) ⟨_, w', ι, q1, ?_, q3⟩
            rw [q2]; exact .tup .nil
    · cases hc
  case len =>
    split at hc
    · rename_i t l hts
      cases hu : P.underlying t with
      | none => simp [hu] at hc
      | some d =>
        simp only [hu] at hc
        have go : ∀ lk, (match lk with | LK.str => d = .string | .sl => ∃ e, d = .slice e | .map => ∃ k e, d = .map k e) → k = .len lk → xs = args → OutOK IR B P ι rows w nx r ((builtin .len ts ty cs ⟨args.map ρ⟩).run P w) := by
          intro lk hd e1 e2
          subst e1; subst e2
          cases vs with
          | nil => cases he
          | cons a tl =>
            obtain ⟨u, us, e1, h1, _⟩ := hv.cons_inv
            exact PureOK.out (s := Builtin.len_ ts ty ⟨xs.map ρ⟩) h (len_ok (tl := tl) h hu hd h1 (at0 hts) (arg0 e1) he)
        have goc : ∀ n, gd (Nat.beq args.length 1) (some (K.mv, [Operand.const (goInt n)])) = some (k, xs) → (∀ u, (⟨args.map ρ⟩ : Array Value)[0]? = some u → (Builtin.len_ ts ty ⟨args.map ρ⟩).run P w = .ok (goInt n) w) → OutOK IR B P ι rows w nx r ((builtin .len ts ty cs ⟨args.map ρ⟩).run P w) := by
          intro n hc hr
          obtain ⟨hg, hc1⟩ := gd_some.1 hc
          rw [beq_nat] at hg
          simp only [decide_eq_true_eq] at hg
          simp only [Option.some.injEq, Prod.mk.injEq] at hc1
          obtain ⟨rfl, rfl⟩ := hc1
          have e0 : ∃ u, (⟨args.map ρ⟩ : Array Value)[0]? = some u := by
            cases args with
            | nil => cases hg
            | cons a l => exact ⟨ρ a, rfl⟩
          obtain ⟨u, hu⟩ := e0
          have := mv_ok (P := P) (u := goInt n) (k := .mv) (C := C) h rfl (by simpa [hρ] using hv) he
          have e1 : (builtin .len ts ty cs ⟨args.map ρ⟩).run P w = .ok (.value (goInt n)) w := by
            show (do pure (Next.value (← Builtin.len_ ts ty ⟨args.map ρ⟩)) : Sem Next).run P w = _
            simp only [Sem.run_bind, hr u hu, Result.andThen_ok, Sem.run_pure]
          rw [e1]; exact this
        cases d <;> simp only at hc <;> try (cases hc; done)
        case string => cases hc; exact go .str rfl rfl rfl
        case slice e => cases hc; exact go .sl ⟨e, rfl⟩ rfl rfl
        case map a b => cases hc; exact go .map ⟨a, b, rfl⟩ rfl rfl
        case array n e =>
          refine goc n hc (fun u h0 => ?_)
          unfold Builtin.len_
          simp only [at0 hts, h0, Sem.run_bind, run_underlying hu, Result.andThen_ok]
          cases u <;> rfl
        case pointer a =>
          cases hu2 : P.underlying a with
          | none => simp [hu2] at hc
          | some d2 =>
            simp only [hu2] at hc
            cases d2 <;> simp only at hc <;> try (cases hc; done)
            case array n e =>
              refine goc n hc (fun u h0 => ?_)
              unfold Builtin.len_
              simp only [at0 hts, h0, Sem.run_bind, run_underlying hu, Result.andThen_ok]
              cases u <;> simp [run_underlying hu2]
    · cases hc
  case unsafeSliceData =>
    obtain ⟨hg, hc1⟩ := gd_some.1 hc
    cases hc1
    rw [beq_nat] at hg
    simp only [decide_eq_true_eq] at hg
    cases args with
    | nil => cases hg
    | cons a l => cases l with
      | cons b l => simp at hg
      | nil =>
        obtain ⟨x, rfl, h1⟩ := hv.inv1
        exact PureOK.out (s := Builtin.unsafeSliceData_ ts ty ⟨[ρ a]⟩) h (sliceData_ok (tl := []) h1 he)
  case unsafeString =>
    split at hc
    · rename_i t it hts
      have hts' : ts = #[t, it] := by apply Array.ext'; simpa using hts
      subst hts'
      cases hu : P.underlying t with
      | none => simp [hu] at hc
      | some d =>
        simp only [hu] at hc
        cases d <;> simp only at hc <;> try (cases hc; done)
        case pointer e =>
          obtain ⟨hg, hc1⟩ := gd_some.1 hc
          cases hc1
          rw [beq_nat, beq_nat] at hg
          simp only [Bool.and_eq_true, decide_eq_true_eq] at hg
          obtain ⟨hce, hg⟩ := hg
          cases args with
          | nil => cases hg
          | cons a l => cases l with
            | nil => cases hg
            | cons b l => cases l with
              | cons c l => simp at hg
              | nil =>
                obtain ⟨x, y, rfl, h1, h2⟩ := hv.inv2
                exact NewOK.out (s := Builtin.unsafeString_ #[t, it] ty ⟨[ρ a, ρ b]⟩) (unString_ok (tl := []) h hu hce h1 h2 he)
    · cases hc
  case max =>
    obtain ⟨hg, hc1⟩ := gd_some.1 hc
    cases hc1
    rw [beq_nat] at hg
    simp only [decide_eq_true_eq] at hg
    cases args with
    | nil => cases hg
    | cons a l => cases l with
      | nil => cases hg
      | cons b l => cases l with
        | cons c l => simp at hg
        | nil =>
          obtain ⟨x, y, rfl, h1, h2⟩ := hv.inv2
          obtain ⟨v, hv1, rfl⟩ := rvo_some (show rvo rows nx (max2 x y) = some r from he)
          obtain ⟨u, q1, q2⟩ := max2_ok (P := P) (w := w) hv1 h1 h2
          exact PureOK.out (s := Builtin.max_ ts ty ⟨[ρ a, ρ b]⟩) h ⟨v, u, by simp [Builtin.max_, q1], q2, rfl⟩
  case min =>
    obtain ⟨hg, hc1⟩ := gd_some.1 hc
    cases hc1
    rw [beq_nat] at hg
    simp only [decide_eq_true_eq] at hg
    cases args with
    | nil => cases hg
    | cons a l => cases l with
      | nil => cases hg
      | cons b l => cases l with
        | cons c l => simp at hg
        | nil =>
          obtain ⟨x, y, rfl, h1, h2⟩ := hv.inv2
          obtain ⟨v, hv1, rfl⟩ := rvo_some (show rvo rows nx (min2 x y) = some r from he)
          obtain ⟨u, q1, q2⟩ := min2_ok (P := P) (w := w) hv1 h1 h2
          exact PureOK.out (s := Builtin.min_ ts ty ⟨[ρ a, ρ b]⟩) h ⟨v, u, by simp [Builtin.min_, q1], q2, rfl⟩
end
end Ev
end

/- What each operation of the evaluator's code comes to in the machine: the whole. -/
section
namespace Ev
open Go Go.RowKit

section
variable {P : Program} {ι : Io} {rows : T ARow} {w : World} {nx : Nat} {r : R} {IR : Nat → IC → Code → Prop} {B : Base}

theorem callv_ok {C : CallF} (hC : CallOK IR B P C) {vs : List AV} {uf : Value} {us : List Value} (h : HRel IR B ι rows w) (hfr : ∀ b, nx ≤ b → ι b = none) (hv : VRelL ι vs (uf :: us)) (he : kCallv vs rows nx C = some r) :
    OutOK IR B P ι rows w nx r ((do let d ← Deferred.ofValue uf ⟨us⟩; invoke d.target d.args : Sem Next).run P w) := by
  obtain ⟨a, tl, rfl, h1, h2⟩ := hv.consV
  unfold kCallv at he
  cases h1 <;> simp only at he <;> try (cases he; done)
  case fn f l vs' hl =>
    rw [appN_eq] at he
    have := hC.f he h hfr (h2.append hl)
    simpa [Deferred.ofValue, invoke] using this
  case yld b L hL =>
    have := hC.y he h hfr hL h2
    simpa [Deferred.ofValue, invoke] using this

def isCallK (k : K) : Bool := match k with
  | .call _ => true
  | .callv => true
  | _ => false

theorem glob_rel (h : HRel IR B ι rows w) {g : Nat} {l : List AV} (hb : rows.get g = some (.ro (Nat.succ g) l)) : VRel ι (.ptr g 0) (.pointer (some ⟨g, 0, none⟩)) ∧ True := by
  obtain ⟨L, o, h1, h2, h3⟩ := h.row _ _ hb
  cases h3 with
  | ro hc hk =>
    rcases hk with hk | ⟨hk, hk2⟩
    · cases hk
    · simp only [Nat.succ_eq_add_one, Nat.add_right_cancel_iff] at hk
      have := VRel.ptr (o := 0) h1
      simp only [Loc.at, hk2, ← hk, Nat.add_zero] at this
      exact ⟨this, trivial⟩

theorem compK_ok' {o : Oper} {k : K} {xs : List Operand} {ρ : Operand → Value} {vs : List AV} {C : CallF} (hC : CallOK IR B P C) (hρ : ∀ v, ρ (.const v) = v) (hρf : ∀ f, ρ (.func f) = .func (.func f) #[] #[]) (hρg : ∀ g, ρ (.global g) = .pointer (some ⟨g, 0, none⟩))
    (h : HRel IR B ι rows w) (hfr0 : ι nx = none) (hfr : isCallK k = true → ∀ b, nx ≤ b → ι b = none) (hc : compK P o.op = some (k, xs)) (hv : VRelL ι vs (xs.map ρ)) (he : evK vs rows nx C k = some r) : OutOK IR B P ι rows w nx r ((execOp ρ o).run P w) := by
  unfold compK at hc
  unfold execOp
  cases ho : o.op <;> simp only [ho] at hc ⊢ <;> try (cases hc; done)
  case move x => cases hc; exact mv_ok (k := .mv) (C := C) h rfl hv he
  case assign x => cases hc; exact mv_ok (k := .mv) (C := C) h rfl hv he
  case pick c a b =>
    cases hc
    obtain ⟨x, y, z, rfl, h1, h2, h3⟩ := hv.inv3
    obtain ⟨v, u, q1, q2, rfl⟩ := pick_ok (P := P) (w := w) h1 h2 h3 he
    exact OutOK.val h q2 q1
  case alloc t =>
    obtain ⟨z, hz, hc1⟩ := bo_some.1 hc
    obtain ⟨_, hc2⟩ := gd_some.1 hc1
    cases hc2
    obtain ⟨a, rfl, h1⟩ := hv.inv1
    rw [hρ] at h1
    exact NewOK.out (alloc_ok h hfr0 hz h1 he)
  case box t x =>
    cases hc
    obtain ⟨a, rfl, h1⟩ := hv.inv1
    exact NewOK.out (box_ok (.inl rfl) h hfr0 h1 he)
  case build t ps => exact PureOK.out h (build_ok hc hv he)
  case buildSlice t len ps => exact NewOK.out (buildSlice_ok h hfr0 hc hv he)
  case load t a =>
    obtain ⟨kk, hk, hc1⟩ := bo_some.1 hc
    split at hc1
    · rename_i g
      cases hc1
      obtain ⟨kn, l, q1, q2⟩ := asRo_some.1 (show asRo (rows.get g) (fun k l => gd (Nat.beq k (Nat.succ g)) (bo (kd kk l) fun v => rv rows nx v)) = some r from he)
      obtain ⟨q3, q4⟩ := gd_some.1 q2
      obtain ⟨v, q5, q6⟩ := bo_some.1 q4
      obtain rfl := rv_some q6
      rw [beq_nat] at q3
      simp only [decide_eq_true_eq] at q3
      obtain ⟨h1, _⟩ := glob_rel h (q3 ▸ q1)
      obtain ⟨u, w1, w2⟩ := kd_load (P := P) (k := kk) (a := .ptr g 0) (v := v) h hk (asRead_some.2 ⟨_, l, q1, rfl, q5⟩) h1
      rw [hρg]
      exact OutOK.val h w2 (by simp [w1])
    cases hc1
    obtain ⟨x, rfl, h1⟩ := hv.inv1
    obtain ⟨v, hv1, he1⟩ := bo_some.1 (show bo (loadAt rows kk x) (fun v => rv rows nx v) = some r from he)
    obtain rfl := rv_some he1
    obtain ⟨u, q1, q2⟩ := kd_load h hk hv1 h1
    exact OutOK.val h q2 (by simp [q1])
  case store t a x =>
    obtain ⟨kk, hk, hc1⟩ := bo_some.1 hc
    cases hc1
    obtain ⟨y, z, rfl, h1, h2⟩ := hv.inv2
    obtain ⟨hk1, hk2⟩ := kdW_some hk
    obtain ⟨w', q1, q2, q3⟩ := store_ok h hk1 (by
      cases kk with
      | one => exact .inl hk2.symm
      | many n => exact .inr ⟨n, rfl⟩) he h1 h2
    exact UnitOK.out ⟨w', q1, q2, q3⟩
  case nilCheck x =>
    cases hc
    obtain ⟨a, rfl, h1⟩ := hv.inv1
    obtain ⟨v, q1, q2, rfl⟩ := nilCheck_ok (P := P) (w := w) (tl := []) h1 he
    exact OutOK.val h q2 q1
  case binOp op t x y z => exact PureOK.out h (compBin_ok hc hv he)
  case unOp op t x =>
    cases op <;> simp only at hc <;> try (cases hc; done)
    case neg =>
      cases hc
      obtain ⟨a, rfl, h1⟩ := hv.inv1
      exact PureOK.out h (neg_ok (tl := []) h1 he)
    case not =>
      cases hc
      obtain ⟨a, rfl, h1⟩ := hv.inv1
      exact PureOK.out h (not_ok (tl := []) h1 he)
  case convert src dst x =>
    cases hs : P.underlying src with
    | none => simp [hs] at hc
    | some s =>
      cases hd : P.underlying dst with
      | none => simp [hs, hd] at hc
      | some d =>
        simp only [hs, hd] at hc
        cases d <;> simp only at hc <;> try (cases hc; done)
        case int q =>
          cases s <;> simp only at hc <;> try (cases hc; done)
          case int j =>
            cases hc
            obtain ⟨a, rfl, h1⟩ := hv.inv1
            exact PureOK.out h (conv_ok (tl := []) hs hd h1 he)
        case string =>
          cases s <;> simp only at hc <;> try (cases hc; done)
          case string =>
            cases hc
            obtain ⟨a, rfl, h1⟩ := hv.inv1
            obtain ⟨l, rfl, he1⟩ := asStr_some.1 (show asStr a (fun l => rv rows nx (.str l)) = some r from he)
            obtain rfl := rv_some he1
            exact PureOK.out h ⟨_, _, convStr_ok hs hd h1 rfl, h1, rfl⟩
          case slice e =>
            split at hc
            · rename_i h8
              cases hc
              obtain ⟨a, rfl, h1⟩ := hv.inv1
              exact PureOK.out h (toStr_ok (tl := []) h hs hd h8 h1 he)
            · cases hc
        case unsafePointer =>
          cases s <;> simp only at hc <;> try (cases hc; done)
          case pointer e =>
            obtain ⟨q, hq, hc1⟩ := bo_some.1 hc
            obtain ⟨hg, hc2⟩ := gd_some.1 hc1
            cases hc2
            rw [blt_nat] at hg
            obtain ⟨a, rfl, h1⟩ := hv.inv1
            exact PureOK.out h (unPtr_ok (tl := []) h hs hd hq (by simpa using hg) h1 he)
        case pointer e =>
          cases s <;> simp only at hc <;> try (cases hc; done)
          case unsafePointer =>
            obtain ⟨q, hq, hc1⟩ := bo_some.1 hc
            obtain ⟨hg, hc2⟩ := gd_some.1 hc1
            cases hc2
            unfold layB at hg
            rw [blt_nat] at hg
            obtain ⟨a, rfl, h1⟩ := hv.inv1
            exact PureOK.out h (toPtr_ok (tl := []) h hs hd hq (by simpa using hg) h1 he)
        case slice e =>
          cases s <;> simp only at hc <;> try (cases hc; done)
          case string =>
            split at hc
            · rename_i h8
              cases hc
              obtain ⟨a, rfl, h1⟩ := hv.inv1
              exact NewOK.out (toBytes_ok (tl := []) h hfr0 hs hd h8 h1 he)
            · cases hc
  case makeInterface t x =>
    cases hu : P.underlying t with
    | none => simp [hu] at hc
    | some d =>
      simp only [hu] at hc
      have go : (∀ m, d ≠ .interface m) → some (K.rare .iface, [x]) = some (k, xs) → OutOK IR B P ι rows w nx r ((do pure (Next.value (← Instr.makeInterface t (ρ x))) : Sem Next).run P w) := by
        intro hd hc
        cases hc
        obtain ⟨a, rfl, h1⟩ := hv.inv1
        exact PureOK.out h (iface_ok (tl := []) (x := a) hu hd he)
      cases d <;> first
        | (cases hc; done)
        | exact go (fun m e => by cases e) hc
  case makeFunc fn first caps =>
    cases fn <;> simp only at hc <;> try (cases hc; done)
    case func f =>
      obtain ⟨hf, hc1⟩ := gd_some.1 hc
      cases hc1
      have : first = #[] := by simpa using hf
      subst this
      refine PureOK.out h (s := Instr.makeFunc (.func f) ((#[] : Array Operand).map ρ) (caps.map ρ)) ?_
      have := makeFunc_ok (P := P) (w := w) hv he
      have e1 : (List.map ρ caps.toList).toArray = caps.map ρ := by apply Array.ext'; simp
      rw [e1] at this
      simpa using this
  case makeMap t rr =>
    cases rr <;> simp only at hc <;> try (cases hc; done)
    case none =>
      cases hc
      exact NewOK.out (makeMap_ok (vs := vs) h hfr0 he)
  case makeSlice t l c =>
    cases hu : P.underlying t with
    | none => simp [hu] at hc
    | some d =>
      simp only [hu] at hc
      cases d <;> simp only at hc <;> try (cases hc; done)
      case slice e =>
        obtain ⟨z, hz, hc1⟩ := bo_some.1 hc
        obtain ⟨hg, hc2⟩ := gd_some.1 hc1
        cases hc2
        rw [blt_nat, blt_nat] at hg
        simp only [Bool.and_eq_true, decide_eq_true_eq] at hg
        obtain ⟨x, y, rfl, h1, h2⟩ := hv.inv2
        exact NewOK.out (makeSlice_ok (tl := []) h hfr0 hu hg.1 hg.2.1 hg.2.2 hz h1 h2 he)
  case slice t x lo hi mx => exact PureOK.out h (compSlice_ok hc hv he)
  case fieldAddr t x f =>
    cases hu : P.underlying t with
    | none => simp [hu] at hc
    | some d =>
      simp only [hu] at hc
      cases d <;> simp only at hc <;> try (cases hc; done)
      case struct fs =>
        obtain ⟨fd, hf, hc1⟩ := bo_some.1 hc
        obtain ⟨hg, hc2⟩ := gd_some.1 hc1
        cases hc2
        rw [blt_nat] at hg
        obtain ⟨a, rfl, h1⟩ := hv.inv1
        exact PureOK.out h (fieldAddr_ok (tl := []) hu hf (by simpa using hg) h1 he)
  case field t x f =>
    cases hu : P.underlying t with
    | none => simp [hu] at hc
    | some d =>
      simp only [hu] at hc
      cases d <;> simp only at hc <;> try (cases hc; done)
      case struct fs =>
        obtain ⟨fd, hf, hc1⟩ := bo_some.1 hc
        obtain ⟨kk, hk, hc2⟩ := bo_some.1 hc1
        cases hc2
        obtain ⟨a, rfl, h1⟩ := hv.inv1
        exact PureOK.out h (field_ok (tl := []) hu hf hk h1 he)
  case indexAddr t x i =>
    cases hu : P.underlying t with
    | none => simp [hu] at hc
    | some d =>
      simp only [hu] at hc
      cases d <;> simp only at hc <;> try (cases hc; done)
      case slice e =>
        obtain ⟨hg, hc2⟩ := gd_some.1 hc
        cases hc2
        rw [blt_nat] at hg
        obtain ⟨a, b, rfl, h1, h2⟩ := hv.inv2
        exact PureOK.out h (indexSl_ok (tl := []) hu (by simpa using hg) h1 h2 he)
      case array n e =>
        obtain ⟨hg, hc2⟩ := gd_some.1 hc
        rw [blt_nat] at hg
        split at hc2
        · rename_i g
          cases hc2
          obtain ⟨b, rfl, h2⟩ := hv.inv1
          obtain ⟨qk, m, rfl, q0⟩ := asNat_some.1 (show asNat b (fun i => asRo (rows.get g) fun k _ => gd (Nat.beq k (Nat.succ g) && Nat.blt i n) (rv rows nx (.ptr g (Nat.mul i (P.cellsOf e))))) = some r from he)
          obtain ⟨kn, l, q1, q2⟩ := asRo_some.1 q0
          obtain ⟨q3, q4⟩ := gd_some.1 q2
          simp only [Bool.and_eq_true] at q3
          obtain ⟨q3, q5⟩ := q3
          rw [beq_nat] at q3
          simp only [decide_eq_true_eq] at q3
          obtain ⟨h1, _⟩ := glob_rel h (q3 ▸ q1)
          rw [hρg]
          refine PureOK.out h (indexAr_ok (tl := []) (x := .ptr g 0) (i := .int qk (.ofNat m)) hu (by simpa using hg) h1 h2 ?_)
          show gd (Nat.blt m n) (rv rows nx (.ptr g (Nat.add 0 (Nat.mul m (P.cellsOf e))))) = some r
          rw [q5, show Nat.add 0 (Nat.mul m (P.cellsOf e)) = Nat.mul m (P.cellsOf e) from Nat.zero_add _]
          exact q4
        cases hc2
        obtain ⟨a, b, rfl, h1, h2⟩ := hv.inv2
        exact PureOK.out h (indexAr_ok (tl := []) hu (by simpa using hg) h1 h2 he)
  case index t x i =>
    cases hu : P.underlying t with
    | none => simp [hu] at hc
    | some d =>
      simp only [hu] at hc
      cases d <;> simp only at hc <;> try (cases hc; done)
      case string =>
        cases hc
        obtain ⟨a, b, rfl, h1, h2⟩ := hv.inv2
        exact PureOK.out h (indexStr_ok (tl := []) hu h1 h2 he)
      case array n e =>
        obtain ⟨kk, hk, hc2⟩ := bo_some.1 hc
        cases hc2
        obtain ⟨a, b, rfl, h1, h2⟩ := hv.inv2
        exact PureOK.out h (index_ok (tl := []) hu hk h1 h2 he)
  case lookup t m kk ok =>
    cases hu : P.underlying t with
    | none => simp [hu] at hc
    | some d =>
      simp only [hu] at hc
      cases d <;> simp only at hc <;> try (cases hc; done)
      case map kt e =>
        obtain ⟨z, hz, hc1⟩ := bo_some.1 hc
        obtain ⟨sh, hsh, hc2⟩ := bo_some.1 hc1
        cases hc2
        obtain ⟨a, b, rfl, h1, h2⟩ := hv.inv2
        exact PureOK.out h (lookup_ok (tl := []) h hu hsh hz h1 h2 he)
  case mapUpdate t m kk x =>
    cases hu : P.underlying t with
    | none => simp [hu] at hc
    | some d =>
      simp only [hu] at hc
      cases d <;> simp only at hc <;> try (cases hc; done)
      case map kt e =>
        obtain ⟨sh, hsh, hc2⟩ := bo_some.1 hc
        cases hc2
        obtain ⟨a, b, c, rfl, h1, h2, h3⟩ := hv.inv3
        exact UnitOK.out (mapUpdate_ok (tl := []) h hu hsh h1 h2 h3 he)
  case mapEntry t m kk =>
    cases hu : P.underlying t with
    | none => simp [hu] at hc
    | some d =>
      simp only [hu] at hc
      cases d <;> simp only at hc <;> try (cases hc; done)
      case map kt e =>
        obtain ⟨z, hz, hc1⟩ := bo_some.1 hc
        obtain ⟨sh, hsh, hc2⟩ := bo_some.1 hc1
        cases hc2
        obtain ⟨a, b, rfl, h1, h2⟩ := hv.inv2
        exact NewOK.out (mapEntry_ok (tl := []) h hu hsh hz h1 h2 he)
  case entryStore t m s x =>
    cases hu : P.underlying t with
    | none => simp [hu] at hc
    | some d =>
      simp only [hu] at hc
      cases d <;> simp only at hc <;> try (cases hc; done)
      case map kt e =>
        cases hc
        obtain ⟨a, b, c, rfl, h1, h2, h3⟩ := hv.inv3
        exact UnitOK.out (entryStore_ok (tl := []) h h1 h2 h3 he)
  case insert t m kk x =>
    cases hu : P.underlying t with
    | none => simp [hu] at hc
    | some d =>
      simp only [hu] at hc
      cases d <;> simp only at hc <;> try (cases hc; done)
      case map kt e =>
        obtain ⟨sh, hsh, hc2⟩ := bo_some.1 hc
        cases hc2
        obtain ⟨a, b, c, rfl, h1, h2, h3⟩ := hv.inv3
        exact UnitOK.out (mapUpdate_ok (tl := []) h hu hsh h1 h2 h3 he)
  case extract x i =>
    cases hc
    obtain ⟨a, rfl, h1⟩ := hv.inv1
    exact PureOK.out h (extract_ok (tl := []) h1 he)
  case call c =>
    have e1 : ∀ l : List Value, l = c.args.toList.map ρ → c.args.map ρ = ⟨l⟩ := fun l e => by
      rw [e]; apply Array.ext'; simp
    cases hcal : c.callee <;> simp only [hcal] at hc <;> try (cases hc; done)
    case value f =>
      have gov : ∀ f : Operand, c.callee = .value f → some (K.callv, f :: c.args.toList) = some (k, xs) → OutOK IR B P ι rows w nx r ((do let d ← resolve ρ c o.type; invoke d.target d.args : Sem Next).run P w) := by
        intro f hf hc
        cases hc
        have := callv_ok hC h (hfr rfl) hv he
        unfold resolve
        rw [hf, e1 _ rfl]
        exact this
      cases f <;> simp only at hc
      case func f =>
        cases hc
        unfold resolve
        rw [hcal, e1 _ rfl]
        simp only [hρf]
        have := hC.f he h (hfr rfl) hv
        simpa [Deferred.ofValue, invoke] using this
      all_goals exact gov _ hcal hc
    case builtin b =>
      unfold resolve
      rw [hcal, e1 _ rfl]
      have := fun cs => compBuiltin_ok (ty := o.type) (cs := cs) hρ h hfr0 hc hv he
      simpa [invoke] using this _

theorem compK_ok {o : Oper} {k : K} {xs : List Operand} {ρ : Operand → Value} {vs : List AV} {C : CallF} (hC : CallOK IR B P C) (hρ : ∀ v, ρ (.const v) = v) (hρf : ∀ f, ρ (.func f) = .func (.func f) #[] #[]) (hρg : ∀ g, ρ (.global g) = .pointer (some ⟨g, 0, none⟩))
    (h : HRel IR B ι rows w) (hfr : ∀ b, nx ≤ b → ι b = none) (hc : compK P o.op = some (k, xs)) (hv : VRelL ι vs (xs.map ρ)) (he : evK vs rows nx C k = some r) : OutOK IR B P ι rows w nx r ((execOp ρ o).run P w) :=
  compK_ok' hC hρ hρf hρg h (hfr nx (Nat.le_refl _)) (fun _ => hfr) hc hv he
end
end Ev
end

/- One operation of a region, in the machine. -/
section
namespace Ev
open Go Go.RowKit

/-- The temporaries. -/
structure TmRel (ι : Io) (tm : T AV) (tmps : Array Value) : Prop where
  rel : ∀ t, t < tmps.size → VRel ι ((Opd.t t).ev tm) (tmps.getD t undef)

theorem TmRel.mono {ι ι' : Io} {tm : T AV} {tmps : Array Value} (h : TmRel ι tm tmps) (he : Ext ι ι') : TmRel ι' tm tmps := ⟨fun t ht => (h.rel t ht).mono he⟩

theorem ev_set {tm : T AV} {d t : Nat} {v : AV} : (Opd.t t).ev (tm.set d (some v)) = if t = d then v else (Opd.t t).ev tm := by
  simp only [Opd.ev, T.get_set]
  by_cases h : t = d
  · simp [h]
  · simp [h]

theorem TmRel.put {ι : Io} {tm : T AV} {a : Act} {n : Nat} {dst : Option Tmp} {v : AV} {u : Value} (h : TmRel ι tm a.tmps) (hn : a.tmps.size = n) (hv : VRel ι v u) :
    TmRel ι (tm.set (dst.getD n) (some v)) (a.put dst u).tmps ∧ (a.put dst u).tmps.size = n ∧ (a.put dst u).defers = a.defers := by
  cases dst with
  | none =>
    refine ⟨⟨fun t ht => ?_⟩, hn, rfl⟩
    rw [ev_set]
    have ht : t < a.tmps.size := ht
    rw [if_neg (by simp only [Option.getD_none]; omega)]
    exact h.rel t ht
  | some d =>
    refine ⟨⟨fun t ht => ?_⟩, by simpa [Act.put] using hn, rfl⟩
    rw [ev_set]
    have ht : t < a.tmps.size := by simpa [Act.put] using ht
    simp only [Act.put, Option.getD_some]
    split
    · rename_i e
      subst e
      have e : (a.tmps.setIfInBounds t u).getD t undef = u := by
        rw [Array.getD_eq_getD_getElem?]
        simp only [Array.getElem?_setIfInBounds_self]
        rw [if_pos (by simpa [Act.put] using ht)]; rfl
      rw [e]; exact hv
    · rename_i hne
      have := h.rel t ht
      have e : (a.tmps.setIfInBounds d u).getD t undef = a.tmps.getD t undef := by
        simp only [Array.getD_eq_getD_getElem?]
        rw [Array.getElem?_setIfInBounds_ne (Ne.symm hne)]
      rw [e]; exact this

/-- A fence that lets everything in; of a round, or not. -/
def fence (ro : Option Nat) : Fence := { Fence.wide with round := ro }
theorem fence_fn (ro : Option Nat) (f : FuncId) : (fence ro).fn f := trivial
theorem fence_room (ro : Option Nat) (n : Nat) : (fence ro).room n := fun _ h => by simp [fence, Fence.wide] at h
theorem fence_depth (ro : Option Nat) : (fence ro).depth = none := rfl
theorem calls_fence {P : Program} {f : FuncId} {args : Array Value} {w : World} {R : Ending → World → Prop} (ro : Option Nat) (m : Nat) : CallsIn (fence ro) m P f args w R ↔ Calls P f args w R := by
  rw [← callsIn_wide (n := m)]; exact Iff.rfl
theorem round_fence {P : Program} {l f : Nat} {tmps : Array Value} {x y : Code} {w : World} {R : Ending → World → Prop} {ro : Option Nat} {m : Nat} (h : RoundIn Fence.wide 0 P l f tmps x y w R) : RoundIn (fence ro) m P l f tmps x y w R :=
  ⟨trivial, fun c cs _ => h.2 c cs (room_wide _)⟩

section
variable {P : Program} {ι : Io} {rows : T ARow} {w : World} {nx : Nat} {r : R} {IR : Nat → IC → Code → Prop} {B : Base}

theorem ev_opd {n : Nat} {x : Operand} {y : Opd} {tm : T AV} {a : Act} (hc : cOpd n x = some y) (hn : a.tmps.size = n) (ht : TmRel ι tm a.tmps) : VRel ι (y.ev tm) (a.eval x) := by
  cases x with
  | tmp t =>
    obtain ⟨h1, h2⟩ := gd_some.1 (show gd (Nat.blt t n) (some (Opd.t t)) = some y from hc)
    cases h2
    rw [blt_nat] at h1
    exact ht.rel t (by simpa [hn] using h1)
  | const v =>
    obtain ⟨c, h1, h2⟩ := bo_some.1 (show bo (cv 5000 v) (fun a => some (Opd.c a)) = some y from hc)
    cases h2
    exact cv_rel ι 5000 h1
  | global g => cases hc
  | func f =>
    have : Opd.c (.fn f []) = y := by simpa [cOpd] using hc
    subst this
    exact .fn .nil
theorem ev_opds {n : Nat} {tm : T AV} {a : Act} (hn : a.tmps.size = n) (ht : TmRel ι tm a.tmps) : ∀ {xs : List Operand} {ys : List Opd}, allSome (xs.map (cOpd n)) = some ys → VRelL ι (evList tm ys) (xs.map a.eval)
  | [], ys, h => by
    have : ys = [] := by simpa [allSome, eq_comm] using h
    subst this; exact .nil
  | x :: xs, ys, h => by
    obtain ⟨y, h1, h2⟩ := bo_some.1 (show bo (cOpd n x) (fun a => bo (allSome (xs.map (cOpd n))) fun r => some (a :: r)) = some ys from h)
    obtain ⟨r, h3, h4⟩ := bo_some.1 h2
    cases h4
    exact .cons (ev_opd h1 hn ht) (ev_opds hn ht h3)

theorem bool_of_rel {a : AV} {b : Bool} (h : VRel ι a (.bool b)) : a = .bool b := by cases h; rfl

theorem wanted_ok {n : Nat} {ops : Array Oper} {o : Oper} {g : Option (Nat × Bool)} {tm : T AV} {a : Act} (hc : compGuard n ops.toList o = some g) (hn : a.tmps.size = n) (ht : TmRel ι tm a.tmps) :
    Region.wanted o (yielded ops a.tmps) = wanted tm g := by
  unfold compGuard at hc
  unfold Region.wanted
  cases hg : o.guard with
  | none =>
    rw [hg] at hc
    cases hc
    rfl
  | some q =>
    rw [hg] at hc
    obtain ⟨j, want⟩ := q
    obtain ⟨p, h1, h2⟩ := bo_some.1 hc
    obtain ⟨t, h3, h4⟩ := bo_some.1 h2
    obtain ⟨h5, h6⟩ := gd_some.1 h4
    cases h6
    rw [blt_nat] at h5
    simp only [decide_eq_true_eq] at h5
    have hr := ht.rel t (by omega)
    simp only [Array.getElem?_toList] at h1
    have hy : yielded ops a.tmps j = match a.tmps.getD t undef with | .bool b => some b | _ => none := by
      unfold yielded
      rw [show ops[j]? = some p from by simpa using h1]
      simp only [Option.bind_some, h3]
      rw [Array.getD_eq_getD_getElem?, Array.getElem?_eq_getElem (by omega)]
      cases a.tmps[t] <;> rfl
    show (yielded ops a.tmps j == some want) = _
    rw [hy]
    simp only [wanted, Opd.ev] at hr ⊢
    cases hv : tm.get t with
    | none =>
      rw [hv] at hr
      simp only at hr ⊢
      generalize a.tmps.getD t undef = u at hr
      cases hr
      rfl
    | some v =>
      rw [hv] at hr
      simp only at hr ⊢
      generalize a.tmps.getD t undef = u at hr
      cases hr <;> first
        | (cases want <;> rename_i b <;> cases b <;> rfl)
        | rfl

/-- The machine's answer, taken up by the region. -/
theorem upon_ok {o : Oper} {a : Act} {K : Act → World → Prop} {Q : Exit → Act → World → Prop} {ro : Option Nat} {res : Result Next} (h : OutOK IR B P ι rows w nx r res)
    (hK : ∀ ι' u w', VRel ι' r.v u → Post IR B ι ι' rows w nx r.rows r.nx w' → K (a.put o.dst u) w') : o.uponIn (fence ro) 0 P a K Q res := by
  unfold OutOK at h
  split at h
  · obtain ⟨ι', h1, h2⟩ := h; exact hK ι' _ _ h1 h2
  · obtain ⟨ι', h1, h2⟩ := h; exact hK ι' _ _ h1 h2
  · obtain ⟨rfl, h2⟩ := h
    refine ⟨fun h => by simp [fence_depth] at h, (calls_fence ro _).2 ?_⟩
    refine Calls.mono h2 fun e w'' he => ?_
    obtain ⟨v, ι', rfl, h3, h4⟩ := he
    exact hK ι' v w'' h3 h4
  · obtain ⟨rfl, h2⟩ := h
    refine ⟨fun h => by simp [fence_depth] at h, round_fence (RoundIn.mono h2 fun e w'' he => ?_)⟩
    obtain ⟨v, ι', rfl, h3, h4⟩ := he
    exact hK ι' v w'' h3 h4
  · exact h.elim

theorem compK_nodefer {op : Op} {k : K} {xs : List Operand} (h : compK P op = some (k, xs)) (c : Call) : op ≠ .defer c := by
  intro e; subst e; simp [compK] at h

theorem op_run {C : CallF} {n : Nat} {o : Oper} {k : K} {xs : List Operand} {ys : List Opd} {tm : T AV} {a : Act} {K : Act → World → Prop} {Q : Exit → Act → World → Prop} {ro : Option Nat} (hC : CallOK IR B P C)
    (hk : compK P o.op = some (k, xs)) (hx : allSome (xs.map (cOpd n)) = some ys) (hn : a.tmps.size = n) (ht : TmRel ι tm a.tmps) (h : HRel IR B ι rows w) (hfr0 : ι nx = none) (hfr : isCallK k = true → ∀ b, nx ≤ b → ι b = none)
    (he : evK (evList tm ys) rows nx C k = some r)
    (hK : ∀ ι' u w', VRel ι' r.v u → Post IR B ι ι' rows w nx r.rows r.nx w' → K (a.put o.dst u) w') : o.wpIn (fence ro) 0 P a w K Q := by
  refine ⟨fun f _ => fence_fn ro f, ?_⟩
  rw [Oper.semAt_plain (fence ro) a.eval o (compK_nodefer hk)]
  exact upon_ok (compK_ok' hC (fun _ => rfl) (fun _ => rfl) (fun _ => rfl) h hfr0 hfr hk (ev_opds hn ht hx) he) hK

theorem compG_cases {n : Nat} {ops : List Oper} {o : Oper} (hg : ∃ g, compGuard n ops o = some g) :
    (∃ g k xs ys, compGuard n ops o = some g ∧ compK P o.op = some (k, xs) ∧ allSome (xs.map (cOpd n)) = some ys ∧ compG P n ops o = ⟨g, o.dst.getD n, k, ys⟩) ∨
    (∃ g, compGuard n ops o = some g ∧ compG P n ops o = ⟨g, o.dst.getD n, .bad, []⟩) := by
  obtain ⟨g, hg⟩ := hg
  unfold compG
  cases h : compG? P n ops o with
  | some q =>
    obtain ⟨g', h1, h2⟩ := bo_some.1 h
    obtain ⟨p, h3, h4⟩ := bo_some.1 h2
    obtain ⟨ys, h5, h6⟩ := bo_some.1 h4
    cases h6
    exact .inl ⟨g', p.1, p.2, ys, h1, h3, h5, rfl⟩
  | none =>
    refine .inr ⟨g, hg, ?_⟩
    have : compBad n ops o = some ⟨g, o.dst.getD n, .bad, []⟩ := by simp [compBad, hg, bo]
    simp only [this]

theorem post_fresh {ι' : Io} {rows' : T ARow} {nx' : Nat} {w' : World} (hp : Post IR B ι ι' rows w nx rows' nx' w') (hfr : ∀ b, nx ≤ b → ι b = none) : ∀ b, nx' ≤ b → ι' b = none :=
  fun b hb => by rw [hp.new b (Nat.le_trans hp.le hb) hb]; exact hfr b (Nat.le_trans hp.le hb)

/-- One operation. -/
theorem op_ok {C : CallF} {n i : Nat} {ops : Array Oper} {o : Oper} {s s' : St} {a : Act} {K : Act → World → Prop} {Q : Exit → Act → World → Prop} {ro : Option Nat} (hC : CallOK IR B P C) (hi : ops[i]? = some o)
    (hg : ∃ g, compGuard n ops.toList o = some g) (hn : a.tmps.size = n) (ht : TmRel ι s.tm a.tmps) (h : HRel IR B ι s.rows w) (hfr : ∀ b, s.nx ≤ b → ι b = none) (he : evG C (compG P n ops.toList o) s = some s')
    (hK : ∀ ι' a' w', TmRel ι' s'.tm a'.tmps → a'.tmps.size = n → a'.defers = a.defers → Post IR B ι ι' s.rows w s.nx s'.rows s'.nx w' → K a' w') :
    wpOpIn (fence ro) 0 P ops Q i K a w := by
  unfold wpOpIn
  simp only [hi]
  unfold evG at he
  rcases compG_cases (P := P) hg with ⟨g, k, xs, ys, h1, h2, h3, h4⟩ | ⟨g, h1, h4⟩
  · rw [h4] at he
    have hw := wanted_ok h1 hn ht
    rw [hw]
    simp only at he
    cases hb : wanted s.tm g with
    | false =>
      rw [hb] at he
      simp only [Option.some.injEq] at he
      subst he
      simp only [Bool.false_eq_true, if_false]
      obtain ⟨q1, q2, q3⟩ := ht.put (dst := o.dst) hn (.undef)
      exact ⟨fun f _ => fence_fn ro f, hK ι _ _ q1 q2 q3 (.refl _ h)⟩
    | true =>
      rw [hb] at he
      simp only [if_true]
      obtain ⟨r, h5, h6⟩ := bo_some.1 (show bo (evK (evList s.tm ys) s.rows s.nx C k) (fun r => some ⟨s.tm.set (o.dst.getD n) (some r.v), r.rows, r.nx⟩) = some s' from he)
      cases h6
      refine op_run hC h2 h3 hn ht h (hfr _ (Nat.le_refl _)) (fun _ => hfr) h5 fun ι' u w' hv hp => ?_
      obtain ⟨q1, q2, q3⟩ := (ht.mono hp.ext).put (dst := o.dst) hn hv
      exact hK ι' _ _ q1 q2 q3 hp
  · rw [h4] at he
    have hw := wanted_ok h1 hn ht
    rw [hw]
    simp only at he
    cases hb : wanted s.tm g with
    | false =>
      rw [hb] at he
      simp only [Option.some.injEq] at he
      subst he
      simp only [Bool.false_eq_true, if_false]
      obtain ⟨q1, q2, q3⟩ := ht.put (dst := o.dst) hn (.undef)
      exact ⟨fun f _ => fence_fn ro f, hK ι _ _ q1 q2 q3 (.refl _ h)⟩
    | true =>
      rw [hb] at he
      cases he

/-- A region whose order is given. -/
theorem ops_ok {C : CallF} {n : Nat} {ops : Array Oper} {Q : Exit → Act → World → Prop} {ro : Option Nat} (hC : CallOK IR B P C) (hg : ∀ o ∈ ops.toList, ∃ g, compGuard n ops.toList o = some g) :
    ∀ (l : List Nat) (gs : List GOp), (l.map fun i => (ops[i]?).map (compG P n ops.toList)) = gs.map some → ∀ {ι : Io} {s s' : St} {a : Act} {w : World}, a.tmps.size = n → TmRel ι s.tm a.tmps → HRel IR B ι s.rows w → (∀ b, s.nx ≤ b → ι b = none) → evOps C gs s = some s' →
      (∀ ι' a' w', TmRel ι' s'.tm a'.tmps → a'.tmps.size = n → a'.defers = a.defers → Post IR B ι ι' s.rows w s.nx s'.rows s'.nx w' → Q .normal a' w') → wpOpsIn (fence ro) 0 P ops Q l a w
  | [], gs, hl, ι, s, s', a, w, hn, ht, h, hfr, he, hK => by
    cases gs with
    | cons g gs => cases hl
    | nil =>
      have : s = s' := by simpa [evOps] using he
      subst this
      exact hK ι a w ht hn rfl (.refl _ h)
  | i :: l, gs, hl, ι, s, s', a, w, hn, ht, h, hfr, he, hK => by
    cases gs with
    | nil => cases hl
    | cons g gs =>
      simp only [List.map_cons, List.cons.injEq] at hl
      obtain ⟨h1, h2⟩ := hl
      obtain ⟨o, ho, rfl⟩ := Option.map_eq_some_iff.1 h1
      obtain ⟨s1, h3, h4⟩ := bo_some.1 (show bo (evG C (compG P n ops.toList o) s) (evOps C gs) = some s' from he)
      rw [wpOpsIn_cons]
      refine op_ok hC ho (hg o (by simpa using Array.mem_of_getElem? ho)) hn ht h hfr h3 fun ι1 a1 w1 t1 n1 d1 p1 => ?_
      refine ops_ok hC hg l gs h2 n1 t1 p1.hrel (post_fresh p1 hfr) h4 fun ι2 a2 w2 t2 n2 d2 p2 => ?_
      exact hK ι2 a2 w2 t2 n2 (d2.trans d1) (p1.trans p2)
end
end Ev
end

/- A function's code, in the machine: regions in their order, branches, blocks, loops. -/
section
namespace Ev
open Go Go.RowKit

def exOf : Ex → Exit
  | .normal => .normal
  | .exit id => .exit id
  | .ret => .ret

/-- The marks among the deferred calls: blocks of their own, that hold none. -/
structure DefOK (E : Nat) (ι : Io) (rows : T ARow) (ds : List Deferred) (w : World) : Prop where
  each : ∀ d ∈ ds, ∃ D, d = { target := .collected D, args := #[] } ∧ E ≤ D ∧ w.heap[D]? = some (.deferred (some [])) ∧ ¬ Owns ι rows D
  one : ds.Pairwise fun d e => d.target ≠ e.target

section
variable {P : Program} {ι : Io} {rows : T ARow} {w : World} {nx : Nat} {r : R} {IR : Nat → IC → Code → Prop} {B : Base}

theorem DefOK.post {E : Nat} {ds : List Deferred} {ι' : Io} {rows' : T ARow} {nx' : Nat} {w' : World} (h : DefOK E ι rows ds w) (hp : Post IR B ι ι' rows w nx rows' nx' w') : DefOK E ι' rows' ds w' where
  each := fun d hd => by
    obtain ⟨D, h1, h2, h3, h4⟩ := h.each d hd
    have hlt : D < w.heap.size := (Array.getElem?_eq_some_iff.1 h3).1
    refine ⟨D, h1, h2, by rw [hp.frame D hlt h4]; exact h3, fun ho => ?_⟩
    rcases hp.own D ho with h5 | h5
    · exact h4 h5
    · omega
  one := h.one

/-- A frame that runs. -/
structure Fr (IR : Nat → IC → Code → Prop) (B : Base) (E n : Nat) (ι : Io) (s : St) (a : Act) (w : World) : Prop where
  tm : TmRel ι s.tm a.tmps
  sz : a.tmps.size = n
  h : HRel IR B ι s.rows w
  fr : ∀ b, s.nx ≤ b → ι b = none
  df : DefOK E ι s.rows a.defers w

theorem Fr.next {E n : Nat} {s s' : St} {a a' : Act} {ι' : Io} {w' : World} (h : Fr IR B E n ι s a w) (ht : TmRel ι' s'.tm a'.tmps) (hn : a'.tmps.size = n) (hd : a'.defers = a.defers) (hp : Post IR B ι ι' s.rows w s.nx s'.rows s'.nx w') : Fr IR B E n ι' s' a' w' :=
  ⟨ht, hn, hp.hrel, post_fresh hp h.fr, by rw [hd]; exact h.df.post hp⟩

/-- What is asked at the end of some code. -/
def Goes (IR : Nat → IC → Code → Prop) (B : Base) (E n : Nat) (ι : Io) (s : St) (w : World) (x : XS) (Q : Exit → Act → World → Prop) : Prop :=
  ∀ ι' a' w', Fr IR B E n ι' x.s a' w' → Post IR B ι ι' s.rows w s.nx x.s.rows x.s.nx w' → Q (exOf x.e) a' w'

/-- Of code that runs as the evaluator says. -/
def RunsAs (IR : Nat → IC → Code → Prop) (B : Base) (P : Program) (E n : Nat) (ro : Option Nat) (f : St → Option XS) (c : Code) : Prop :=
  ∀ {s : St} {x : XS} {ι : Io} {a : Act} {w : World} {Q : Exit → Act → World → Prop}, f s = some x → Fr IR B E n ι s a w → E ≤ w.heap.size → Goes IR B E n ι s w x Q → c.wpIn (fence ro) 0 P Q a w

theorem Goes.after {E n : Nat} {s s1 : St} {ι1 : Io} {w1 : World} {x : XS} {Q : Exit → Act → World → Prop} (h : Goes IR B E n ι s w x Q) (hp : Post IR B ι ι1 s.rows w s.nx s1.rows s1.nx w1) : Goes IR B E n ι1 s1 w1 x Q :=
  fun ι' a' w' hf hp' => h ι' a' w' hf (hp.trans hp')

theorem runs_seq {E n : Nat} {ro : Option Nat} {f g : St → Option XS} {c d : Code} (hc : RunsAs IR B P E n ro f c) (hd : RunsAs IR B P E n ro g d) :
    RunsAs IR B P E n ro (fun s => bo (f s) fun x => match x.e with | .normal => g x.s | e => some ⟨e, x.s⟩) (.seq c d) := by
  intro s x ι a w Q he hf hE hg
  obtain ⟨y, h1, h2⟩ := bo_some.1 he
  refine wpIn_seq (hc h1 hf hE fun ι1 a1 w1 hf1 hp1 => ?_)
  obtain ⟨e, s1⟩ := y
  cases e with
  | normal => exact hd h2 hf1 (Nat.le_trans hE hp1.size) (hg.after hp1)
  | exit id =>
    simp only [Option.some.injEq] at h2
    subst h2
    exact hg ι1 a1 w1 hf1 hp1
  | ret =>
    simp only [Option.some.injEq] at h2
    subst h2
    exact hg ι1 a1 w1 hf1 hp1

theorem runs_cond {E n : Nat} {ro : Option Nat} {f g : St → Option XS} {c d : Code} {x : Operand} {y : Opd} (hx : cOpd n x = some y) (hc : RunsAs IR B P E n ro f c) (hd : RunsAs IR B P E n ro g d) :
    RunsAs IR B P E n ro (fun s => asBool (y.ev s.tm) fun b => Bool.rec (g s) (f s) b) (.cond x c d) := by
  intro s z ι a w Q he hf hE hg
  obtain ⟨b, h1, h2⟩ := asBool_some.1 he
  have hr := ev_opd hx hf.sz hf.tm
  rw [h1] at hr
  have hv : a.eval x = .bool b := by
    generalize a.eval x = u at hr
    cases hr; rfl
  refine wpIn_cond hv ?_
  cases b with
  | true => exact hc h2 hf hE hg
  | false => exact hd h2 hf hE hg

theorem runs_block {E n : Nat} {ro : Option Nat} {f : St → Option XS} {c : Code} {id : Nat} (hc : RunsAs IR B P E n ro f c) :
    RunsAs IR B P E n ro (fun s => bo (f s) fun x => match x.e with | .exit i => (match Nat.beq i id with | true => some ⟨.normal, x.s⟩ | false => some x) | _ => some x) (.block id c) := by
  intro s x ι a w Q he hf hE hg
  obtain ⟨⟨e, s1⟩, h1, h2⟩ := bo_some.1 he
  refine wpIn_block (hc h1 hf hE fun ι1 a1 w1 hf1 hp1 => ?_)
  cases e with
  | normal =>
    simp only [Option.some.injEq] at h2
    subst h2
    exact hg ι1 a1 w1 hf1 hp1
  | ret =>
    simp only [Option.some.injEq] at h2
    subst h2
    exact hg ι1 a1 w1 hf1 hp1
  | exit i =>
    simp only at h2
    show (if i = id then Q .normal a1 w1 else Q (.exit i) a1 w1)
    by_cases hi : i = id
    · have : Nat.beq i id = true := by rw [beq_nat]; exact decide_eq_true hi
      rw [this] at h2
      simp only [Option.some.injEq] at h2
      subst h2
      rw [if_pos hi]
      exact hg ι1 a1 w1 hf1 hp1
    · have : Nat.beq i id = false := by rw [beq_nat]; exact decide_eq_false hi
      rw [this] at h2
      simp only [Option.some.injEq] at h2
      subst h2
      rw [if_neg hi]
      exact hg ι1 a1 w1 hf1 hp1

theorem least {p : Nat → Prop} (h : ∃ j, p j) : ∃ j, p j ∧ ∀ k, p k → j ≤ k := by
  obtain ⟨j, hj⟩ := h
  induction j using Nat.strongRecOn with
  | _ j ih =>
    by_cases h : ∃ k, k < j ∧ p k
    · obtain ⟨k, h1, h2⟩ := h
      exact ih k h1 h2
    · exact ⟨j, hj, fun k hk => Nat.le_of_not_lt fun hlt => h ⟨k, hlt, hk⟩⟩

open Classical in
theorem runs_loop {E n LF : Nat} {ro : Option Nat} {f : St → Option XS} {c : Code} (hc : RunsAs IR B P E n ro f c) : RunsAs IR B P E n ro (fun s => iter f LF s) (.loop c) := by
  intro s x ι a w Q he hf hE hg
  let J : Nat → Act → World → Prop := fun j a' w' => ∃ ι' s', iter f j s' = some x ∧ Fr IR B E n ι' s' a' w' ∧ Post IR B ι ι' s.rows w s.nx s'.rows s'.nx w'
  let μ : Act → World → Nat := fun a' w' => if h : ∃ j, J j a' w' then (least h).choose else 0
  have hle : ∀ j a' w', J j a' w' → μ a' w' ≤ j := fun j a' w' hj => by
    have h : ∃ j, J j a' w' := ⟨j, hj⟩
    simp only [μ, dif_pos h]
    exact (least h).choose_spec.2 j hj
  refine wpIn_loop (fun a' w' => ∃ j, J j a' w') μ ⟨LF, ι, s, he, hf, .refl _ hf.h⟩ fun a1 w1 hJ => ?_
  have hμ : μ a1 w1 = (least hJ).choose := by simp only [μ, dif_pos hJ]
  have hJ1 := (least hJ).choose_spec.1
  rw [← hμ] at hJ1
  generalize μ a1 w1 = j at hJ1
  obtain ⟨ι1, s1, h1, h2, h3⟩ := hJ1
  cases j with
  | zero => cases h1
  | succ j =>
    obtain ⟨⟨e, s2⟩, h4, h5⟩ := bo_some.1 (show bo (f s1) (fun x => match x.e with | .normal => iter f j x.s | e => some ⟨e, x.s⟩) = some x from h1)
    refine hc h4 h2 (Nat.le_trans hE h3.size) fun ι2 a2 w2 hf2 hp2 => ?_
    cases e with
    | normal =>
      have hj : J j a2 w2 := ⟨ι2, s2, h5, hf2, h3.trans hp2⟩
      exact ⟨⟨j, hj⟩, Nat.lt_succ_of_le (hle j a2 w2 hj)⟩
    | exit id =>
      simp only [Option.some.injEq] at h5
      subst h5
      exact hg ι2 a2 w2 hf2 (h3.trans hp2)
    | ret =>
      simp only [Option.some.injEq] at h5
      subst h5
      exact hg ι2 a2 w2 hf2 (h3.trans hp2)

theorem runs_ops {C : CallF} {E n id : Nat} {ro : Option Nat} {ops : Array Oper} (hC : CallOK IR B P C) (hg : ∀ o ∈ ops.toList, ∃ g, compGuard n ops.toList o = some g) :
    RunsAs IR B P E n ro (fun s => bo (evOps C (ops.toList.map (compG P n ops.toList)) s) fun s => some ⟨.normal, s⟩) (.region id ops false) := by
  intro s x ι a w Q he hf hE hgo
  obtain ⟨s1, h1, h2⟩ := bo_some.1 he
  simp only [Option.some.injEq] at h2
  subst h2
  refine wpIn_region (ops_ok hC hg (List.range ops.size) _ ?_ hf.sz hf.tm hf.h hf.fr h1 fun ι' a' w' ht hn hd hp => hgo ι' a' w' (hf.next ht hn hd hp) hp)
  apply List.ext_getElem?
  intro i
  simp only [List.getElem?_map, List.map_map]
  by_cases hi : i < ops.size
  · rw [List.getElem?_range hi]; simp [hi]
  · simp [hi]

theorem runs_skip {E n : Nat} {ro : Option Nat} : RunsAs IR B P E n ro (fun s => some ⟨.normal, s⟩) .skip := by
  intro s x ι a w Q he hf hE hg
  cases he
  exact wpIn_skip (hg ι a w hf (.refl _ hf.h))
theorem runs_label {E n l : Nat} {ro : Option Nat} : RunsAs IR B P E n ro (fun s => some ⟨.normal, s⟩) (.label l) := by
  intro s x ι a w Q he hf hE hg
  cases he
  exact wpIn_label (hg ι a w hf (.refl _ hf.h))
theorem runs_exit {E n id : Nat} {ro : Option Nat} : RunsAs IR B P E n ro (fun s => some ⟨.exit id, s⟩) (.exit id) := by
  intro s x ι a w Q he hf hE hg
  cases he
  exact wpIn_exit (hg ι a w hf (.refl _ hf.h))
theorem runs_ret {E n : Nat} {ro : Option Nat} : RunsAs IR B P E n ro (fun s => some ⟨.ret, s⟩) .ret := by
  intro s x ι a w Q he hf hE hg
  cases he
  exact wpIn_ret (hg ι a w hf (.refl _ hf.h))
end
end Ev
end
