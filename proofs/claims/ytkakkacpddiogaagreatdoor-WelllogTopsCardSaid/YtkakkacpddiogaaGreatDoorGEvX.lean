/- What an operation has to do with memory. -/
import Derived.Test.YtkakkacpddiogaaGreatDoorGEvR

set_option linter.unusedSimpArgs false
set_option linter.unusedVariables false
section
namespace Ev
open Go Go.RowKit

def clsK (k : K) : Cls := match k with
  | .box _ => .a
  | .load _ => .l
  | .store _ => .c
  | .call _ => .c
  | .callv => .c
  | .len k => (match k with | .map => .l | _ => .p)
  | .rare r => (match r with
    | .makeSlice .. => .a | .makeMap => .a | .toBytes => .a | .buildSlice .. => .a
    | .lookup .. => .l | .unPtr => .l | .toPtr .. => .l | .toStr => .l | .globAt .. => .l | .globLoad .. => .l | .unString _ => .c
    | .mapUpdate _ => .c | .mapEntry .. => .c | .entryStore => .c | .clear _ => .c | .append .. => .c | .appendZ .. => .c
    | _ => .p)
  | _ => .p

/-- It only computes. -/
def Par (F : T ARow → Nat → Option R) : Prop := ∀ rows nx rows' nx', F rows' nx' = (F rows nx).map fun r => ⟨r.v, rows', nx'⟩
theorem Par.none : Par fun _ _ => none := fun _ _ _ _ => rfl
theorem Par.rv (v : AV) : Par fun rows nx => rv rows nx v := fun _ _ _ _ => rfl
theorem Par.rvo (v : Option AV) : Par fun rows nx => rvo rows nx v := fun _ _ _ _ => by cases v <;> rfl
theorem Par.bo {α : Type} (x : Option α) {F : α → T ARow → Nat → Option R} (h : ∀ a, Par (F a)) : Par fun rows nx => bo x fun a => F a rows nx := fun rows nx rows' nx' => by
  cases x with
  | none => rfl
  | some a => exact h a rows nx rows' nx'
theorem Par.gd (c : Bool) {F : T ARow → Nat → Option R} (h : Par F) : Par fun rows nx => gd c (F rows nx) := fun rows nx rows' nx' => by
  cases c with
  | false => rfl
  | true => exact h rows nx rows' nx'
theorem Par.asPtr (v : AV) {F : Nat → Nat → T ARow → Nat → Option R} (h : ∀ a b, Par (F a b)) : Par fun rows nx => asPtr v fun a b => F a b rows nx := fun rows nx rows' nx' => by
  cases v <;> first | rfl | exact h _ _ rows nx rows' nx'
theorem Par.asSl (v : AV) {F : Nat → Nat → Nat → Cap → T ARow → Nat → Option R} (h : ∀ a b c d, Par (F a b c d)) : Par fun rows nx => asSl v fun a b c d => F a b c d rows nx := fun rows nx rows' nx' => by
  cases v <;> first | rfl | exact h _ _ _ _ rows nx rows' nx'
theorem Par.asNat (v : AV) {F : Nat → T ARow → Nat → Option R} (h : ∀ a, Par (F a)) : Par fun rows nx => asNat v fun a => F a rows nx := fun rows nx rows' nx' => by
  cases v <;> first | rfl | skip
  case int k n => cases n <;> first | rfl | exact h _ rows nx rows' nx'
theorem Par.asInt (v : AV) {F : IntKind → Int → T ARow → Nat → Option R} (h : ∀ a b, Par (F a b)) : Par fun rows nx => asInt v fun a b => F a b rows nx := fun rows nx rows' nx' => by
  cases v <;> first | rfl | exact h _ _ rows nx rows' nx'
theorem Par.asStr (v : AV) {F : List UInt8 → T ARow → Nat → Option R} (h : ∀ a, Par (F a)) : Par fun rows nx => asStr v fun a => F a rows nx := fun rows nx rows' nx' => by
  cases v <;> first | rfl | exact h _ rows nx rows' nx'
theorem Par.asBool (v : AV) {F : Bool → T ARow → Nat → Option R} (h : ∀ a, Par (F a)) : Par fun rows nx => asBool v fun a => F a rows nx := fun rows nx rows' nx' => by
  cases v <;> first | rfl | exact h _ rows nx rows' nx'
theorem Par.asAgg (v : AV) {F : List AV → T ARow → Nat → Option R} (h : ∀ a, Par (F a)) : Par fun rows nx => asAgg v fun a => F a rows nx := fun rows nx rows' nx' => by
  cases v <;> first | rfl | exact h _ rows nx rows' nx'
theorem Par.asTup (v : AV) {F : List AV → T ARow → Nat → Option R} (h : ∀ a, Par (F a)) : Par fun rows nx => asTup v fun a => F a rows nx := fun rows nx rows' nx' => by
  cases v <;> first | rfl | exact h _ rows nx rows' nx'
theorem Par.u1 (vs : List AV) {F : AV → T ARow → Nat → Option R} (h : ∀ a, Par (F a)) : Par fun rows nx => u1 vs fun a => F a rows nx := fun rows nx rows' nx' => by
  cases vs with
  | nil => rfl
  | cons a t => exact h a rows nx rows' nx'
theorem Par.u2 (vs : List AV) {F : AV → AV → T ARow → Nat → Option R} (h : ∀ a b, Par (F a b)) : Par fun rows nx => u2 vs fun a b => F a b rows nx := fun rows nx rows' nx' => by
  cases vs with
  | nil => rfl
  | cons a t => cases t with
    | nil => rfl
    | cons b t => exact h a b rows nx rows' nx'
theorem Par.u3 (vs : List AV) {F : AV → AV → AV → T ARow → Nat → Option R} (h : ∀ a b c, Par (F a b c)) : Par fun rows nx => u3 vs fun a b c => F a b c rows nx := fun rows nx rows' nx' => by
  cases vs with
  | nil => rfl
  | cons a t => cases t with
    | nil => rfl
    | cons b t => cases t with
      | nil => rfl
      | cons c t => exact h a b c rows nx rows' nx'
theorem Par.take1 (has : Bool) (d : Nat) (vs : List AV) {F : Nat → List AV → T ARow → Nat → Option R} (h : ∀ a b, Par (F a b)) : Par fun rows nx => take1 has d vs fun a b => F a b rows nx := by
  cases has with
  | false => exact h d vs
  | true => exact Par.u1 vs fun x => Par.asNat x fun n => h n vs.tail
theorem Par.brec (b : Bool) {F G : T ARow → Nat → Option R} (hf : Par F) (hg : Par G) : Par fun rows nx => Bool.rec (F rows nx) (G rows nx) b := by
  cases b with
  | false => exact hf
  | true => exact hg

theorem Par.get {F : T ARow → Nat → Option R} (h : Par F) {rows : T ARow} {nx : Nat} {r : R} (he : F rows nx = some r) : r = ⟨r.v, rows, nx⟩ ∧ ∀ rows' nx', F rows' nx' = some ⟨r.v, rows', nx'⟩ := by
  refine ⟨?_, fun rows' nx' => by rw [h rows nx rows' nx', he]; rfl⟩
  have := h rows nx rows nx
  rw [he] at this
  simpa using this

theorem cls_p {k : K} (hc : clsK k = .p) (vs : List AV) (C : CallF) : Par fun rows nx => evK vs rows nx C k := by
  cases k with
  | mv => exact Par.u1 vs fun x => .rv x
  | pick => exact Par.u3 vs fun c a b => .asBool c fun c => .brec c (.rv b) (.rv a)
  | build z offs => exact Par.bo _ fun l => .rv _
  | binI op => exact Par.u2 vs fun x y => .asInt x fun k a => .asInt y fun j b => .rvo _
  | binS op => exact Par.u2 vs fun x y => .asStr x fun a => .asStr y fun b => .rvo _
  | not => exact Par.u1 vs fun x => .asBool x fun b => .rv _
  | fieldAddr off => exact Par.u1 vs fun x => .asPtr x fun b o => .rv _
  | indexSl sz => exact Par.u2 vs fun x i => .asSl x fun b o len _ => .asNat i fun i => .gd _ (.rv _)
  | indexAr n sz => exact Par.u2 vs fun x i => .asPtr x fun b o => .asNat i fun i => .gd _ (.rv _)
  | indexStr => exact Par.u2 vs fun x i => .asStr x fun l => .asNat i fun i => .bo _ fun c => .rv _
  | extract i => exact Par.u1 vs fun x => .asTup x fun l => .rvo _
  | bad => exact Par.none
  | len lk =>
    cases lk with
    | str => exact Par.u1 vs fun x => Par.bo (lenV .nil .str x) fun n => .rv _
    | sl => exact Par.u1 vs fun x => Par.bo (lenV .nil .sl x) fun n => .rv _
    | map => simp [clsK] at hc
  | rare q =>
    cases q with
    | makeFunc f => exact Par.rv _
    | cap =>
      refine Par.u1 vs fun x => ?_
      cases x with
      | slice b o l c =>
        cases c with
        | ex n => exact Par.rv _
        | op s => exact Par.none
      | nil k => cases k <;> first | exact Par.rv _ | exact Par.none
      | _ => exact Par.none
    | max => exact Par.u2 vs fun x y => .rvo _
    | min => exact Par.u2 vs fun x y => .rvo _
    | iface => exact Par.u1 vs fun _ => .rv _
    | str => exact Par.u1 vs fun x => .asStr x fun l => .rv _
    | sliceStr lo hi => exact Par.u1 vs fun x => .asStr x fun l => .take1 lo 0 vs.tail fun a vs => .take1 hi (lenN l) vs fun b _ => .gd _ (.bo _ fun r => .rv _)
    | sliceSl sz lo hi mx =>
        refine Par.u1 vs fun x => ?_
        cases x with
        | slice b o len cap =>
          refine Par.take1 lo 0 vs.tail fun l vs => .take1 hi len vs fun h vs => .gd _ ?_
          cases mx with
          | true => exact Par.take1 true 0 vs fun m _ => .gd _ (.rv _)
          | false =>
            cases cap with
            | ex c => exact Par.rv _
            | op s =>
              show Par fun rows nx => (match Nat.blt l len || Nat.beq l 0 with
                | true => gd (Nat.beq s sz) (rv rows nx (.slice b (Nat.add o (Nat.mul l sz)) (Nat.sub h l) (.op s)))
                | false => rv rows nx .empty)
              cases (Nat.blt l len || Nat.beq l 0) with
              | true => exact Par.gd _ (.rv _)
              | false => exact Par.rv _
        | nil k => cases k <;> first | exact Par.take1 lo 0 vs.tail fun l vs => .take1 hi 0 vs fun h _ => .gd _ (.rv _) | exact Par.none
        | _ => exact Par.none
    | sliceArr n sz lo hi mx => exact Par.u1 vs fun x => .asPtr x fun b o => .take1 lo 0 vs.tail fun l vs => .take1 hi n vs fun h vs => .take1 mx n vs fun m _ => .gd _ (.rv _)
    | indexArr n sz k => exact Par.u2 vs fun x i => .asAgg x fun l => .asNat i fun i => .gd _ (.rvo _)
    | field k off => exact Par.u1 vs fun x => .asAgg x fun l => .rvo _
    | conv k => exact Par.u1 vs fun x => .asInt x fun _ n => .rv _
    | neg => exact Par.u1 vs fun x => .asInt x fun k n => .rv _
    | nilCheck =>
      refine Par.u1 vs fun x => ?_
      cases x <;> first | exact Par.rv _ | exact Par.none
    | binP n =>
      refine Par.u2 vs fun x y => ?_
      cases x <;> try exact Par.none
      cases y <;> first | exact Par.gd _ (.rv _) | exact Par.none
    | sliceData =>
      refine Par.u1 vs fun x => ?_
      cases x with
      | slice b o len c => cases c <;> exact Par.gd _ (.rv _)
      | nil k => cases k <;> first | exact Par.rv _ | exact Par.none
      | _ => exact Par.none
    | binB n => exact Par.u2 vs fun x y => .bo _ fun b => .rv _
    | binN n k => exact Par.u2 vs fun x y => .bo _ fun c => .gd c (.bo _ fun b => .rv _)
    | binA n sh => exact Par.u2 vs fun x y => .asAgg x fun l => .asAgg y fun m => .bo _ fun b => .rv _
    | _ => simp [clsK] at hc
  | _ => simp [clsK] at hc

/-- More rows. -/
def RLe (rows rows' : T ARow) : Prop := ∀ b r, rows.get b = some r → rows'.get b = some r
theorem RLe.refl (rows : T ARow) : RLe rows rows := fun _ _ h => h
theorem mapRow_mono {rows rows' : T ARow} {m : AV} {es : List (AV × AV)} (h : RLe rows rows') (he : mapRow rows m = some es) : mapRow rows' m = some es := by
  unfold mapRow at he ⊢
  cases m <;> simp only at he ⊢ <;> try (exact he)
  case map r =>
    cases hr : rows.get r with
    | none => simp [hr] at he
    | some q =>
      rw [hr] at he
      rw [h r q hr]
      exact he
theorem lenV_mono {rows rows' : T ARow} {v : AV} {n : Nat} (h : RLe rows rows') (he : lenV rows .map v = some n) : lenV rows' .map v = some n := by
  unfold lenV at he ⊢
  cases v <;> simp only at he ⊢ <;> try (exact he)
  case map r =>
    cases hr : rows.get r with
    | none => simp [hr] at he
    | some q =>
      rw [hr] at he
      rw [h r q hr]
      exact he
theorem loadAt_mono {rows rows' : T ARow} {k : Kd} {a v : AV} (h : RLe rows rows') (he : loadAt rows k a = some v) : loadAt rows' k a = some v := by
  obtain ⟨b, o, rfl, h1⟩ := asPtr_some.1 he
  obtain ⟨q, l, h2, h4, h3⟩ := asRead_some.1 h1
  exact asRead_some.2 ⟨q, l, h b _ h2, h4, h3⟩

theorem cls_l {k : K} (hc : clsK k = .l) {vs : List AV} {C : CallF} {rows : T ARow} {nx : Nat} {r : R} (he : evK vs rows nx C k = some r) :
    r = ⟨r.v, rows, nx⟩ ∧ ∀ rows' nx' (C' : CallF), RLe rows rows' → evK vs rows' nx' C' k = some ⟨r.v, rows', nx'⟩ := by
  cases k with
  | load kk =>
    obtain ⟨a, t, rfl, h1⟩ := u1_some.1 (show u1 vs (fun a => bo (loadAt rows kk a) fun v => rv rows nx v) = some r from he)
    obtain ⟨v, h2, h3⟩ := bo_some.1 h1
    obtain rfl := rv_some h3
    refine ⟨rfl, fun rows' nx' C' hle => ?_⟩
    show bo (loadAt rows' kk a) (fun v => rv rows' nx' v) = _
    rw [loadAt_mono hle h2]; rfl
  | len lk =>
    cases lk with
    | map =>
      obtain ⟨a, t, rfl, h1⟩ := u1_some.1 (show u1 vs (fun x => bo (lenV rows .map x) fun n => rv rows nx (.int .i64 (.ofNat n))) = some r from he)
      obtain ⟨n, h2, h3⟩ := bo_some.1 h1
      obtain rfl := rv_some h3
      refine ⟨rfl, fun rows' nx' C' hle => ?_⟩
      show bo (lenV rows' .map a) (fun n => rv rows' nx' (.int .i64 (.ofNat n))) = _
      rw [lenV_mono hle h2]; rfl
    | _ => simp [clsK] at hc
  | rare q =>
    cases q with
    | lookup sh z ok =>
      obtain ⟨m, key, t, rfl, h1⟩ := u2_some.1 (show u2 vs (fun m k => bo (eqA sh k k) fun _ => bo (mapRow rows m) fun es => bo (findM sh k es) fun q => match q with
        | some v => rv rows nx (match (generalizing := false) ok with | true => .tup [v, .bool true] | false => v)
        | none => rv rows nx (match (generalizing := false) ok with | true => .tup [z, .bool false] | false => z)) = some r from he)
      obtain ⟨e, h2, h3⟩ := bo_some.1 h1
      obtain ⟨es, h4, h5⟩ := bo_some.1 h3
      obtain ⟨q, h6, h7⟩ := bo_some.1 h5
      cases q with
      | none =>
        obtain rfl := rv_some h7
        refine ⟨rfl, fun rows' nx' C' hle => ?_⟩
        show bo (eqA sh key key) (fun _ => bo (mapRow rows' m) fun es => bo (findM sh key es) fun q => match q with
          | some v => rv rows' nx' (match (generalizing := false) ok with | true => .tup [v, .bool true] | false => v)
          | none => rv rows' nx' (match (generalizing := false) ok with | true => .tup [z, .bool false] | false => z)) = _
        rw [h2, mapRow_mono hle h4]
        show bo (findM sh key es) _ = _
        rw [h6]; rfl
      | some v =>
        obtain rfl := rv_some h7
        refine ⟨rfl, fun rows' nx' C' hle => ?_⟩
        show bo (eqA sh key key) (fun _ => bo (mapRow rows' m) fun es => bo (findM sh key es) fun q => match q with
          | some v => rv rows' nx' (match (generalizing := false) ok with | true => .tup [v, .bool true] | false => v)
          | none => rv rows' nx' (match (generalizing := false) ok with | true => .tup [z, .bool false] | false => z)) = _
        rw [h2, mapRow_mono hle h4]
        show bo (findM sh key es) _ = _
        rw [h6]; rfl
    | unPtr =>
      obtain ⟨a, t, rfl, h1⟩ := u1_some.1 (show u1 vs (fun x => match x with
        | .ptr b o => asCells (rows.get b) fun _ l => gd (Nat.blt o (lenN l)) (rv rows nx (.ptr b o))
        | .nil k => (match k with | .ptr => rv rows nx (.nil .ptr) | _ => none)
        | _ => none) = some r from he)
      cases a <;> simp only at h1 <;> try (cases h1; done)
      case ptr b o =>
        obtain ⟨g, l, h2, h3⟩ := asCells_some.1 h1
        obtain ⟨h4, h5⟩ := gd_some.1 h3
        obtain rfl := rv_some h5
        refine ⟨rfl, fun rows' nx' C' hle => ?_⟩
        show asCells (rows'.get b) (fun _ l => gd (Nat.blt o (lenN l)) (rv rows' nx' (.ptr b o))) = _
        rw [hle b _ h2]
        show gd (Nat.blt o (lenN l)) (rv rows' nx' (.ptr b o)) = _
        rw [h4]; rfl
      case nil k =>
        cases k <;> simp only at h1 <;> try (cases h1; done)
        obtain rfl := rv_some h1
        exact ⟨rfl, fun rows' nx' C' hle => rfl⟩
    | toPtr ty sz =>
      obtain ⟨a, t, rfl, h1⟩ := u1_some.1 (show u1 vs (fun x => match x with
        | .ptr b o => asCells (rows.get b) fun g l => gd (Nat.beq o 0 && (Nat.beq g ty && Nat.ble sz (lenN l))) (rv rows nx (.ptr b 0))
        | .nil k => (match k with | .ptr => rv rows nx (.nil .ptr) | _ => none)
        | _ => none) = some r from he)
      cases a <;> simp only at h1 <;> try (cases h1; done)
      case ptr b o =>
        obtain ⟨g, l, h2, h3⟩ := asCells_some.1 h1
        obtain ⟨h4, h5⟩ := gd_some.1 h3
        obtain rfl := rv_some h5
        refine ⟨rfl, fun rows' nx' C' hle => ?_⟩
        show asCells (rows'.get b) (fun g l => gd (Nat.beq o 0 && (Nat.beq g ty && Nat.ble sz (lenN l))) (rv rows' nx' (.ptr b 0))) = _
        rw [hle b _ h2]
        show gd (Nat.beq o 0 && (Nat.beq g ty && Nat.ble sz (lenN l))) (rv rows' nx' (.ptr b 0)) = _
        rw [h4]; rfl
      case nil k =>
        cases k <;> simp only at h1 <;> try (cases h1; done)
        obtain rfl := rv_some h1
        exact ⟨rfl, fun rows' nx' C' hle => rfl⟩
    | globAt g n sz =>
      obtain ⟨a, t, rfl, h1⟩ := u1_some.1 (show u1 vs (fun i => asNat i fun i => asRo (rows.get g) fun k _ => gd (Nat.beq k (Nat.succ g) && Nat.blt i n) (rv rows nx (.ptr g (Nat.mul i sz)))) = some r from he)
      obtain ⟨_, i, rfl, h2⟩ := asNat_some.1 h1
      obtain ⟨k, l, h3, h4⟩ := asRo_some.1 h2
      obtain ⟨h5, h6⟩ := gd_some.1 h4
      obtain rfl := rv_some h6
      refine ⟨rfl, fun rows' nx' C' hle => ?_⟩
      refine asRo_some.2 ⟨k, l, hle g _ h3, ?_⟩
      rw [h5]; rfl
    | globLoad g q =>
      obtain ⟨k, l, h3, h4⟩ := asRo_some.1 (show asRo (rows.get g) (fun k l => gd (Nat.beq k (Nat.succ g)) (bo (kd q l) fun v => rv rows nx v)) = some r from he)
      obtain ⟨h5, h6⟩ := gd_some.1 h4
      obtain ⟨v, h7, h8⟩ := bo_some.1 h6
      obtain rfl := rv_some h8
      refine ⟨rfl, fun rows' nx' C' hle => ?_⟩
      refine asRo_some.2 ⟨k, l, hle g _ h3, ?_⟩
      rw [h5, h7]; rfl
    | toStr =>
      obtain ⟨a, t, rfl, h1⟩ := u1_some.1 (show u1 vs (fun x => match x with
        | .slice b o len _ => asRead (rows.get b) fun l => bo (takeN len (dropN o l)) fun l => bo (bytesOf l) fun s => rv rows nx (.str s)
        | .nil k => (match k with | .slice => rv rows nx (.str []) | _ => none)
        | .empty => rv rows nx (.str [])
        | _ => none) = some r from he)
      cases a <;> simp only at h1 <;> try (cases h1; done)
      case slice b o len c =>
        obtain ⟨q, l, h2, hq, h3⟩ := asRead_some.1 h1
        obtain ⟨l', h4, h5⟩ := bo_some.1 h3
        obtain ⟨s, h6, h7⟩ := bo_some.1 h5
        obtain rfl := rv_some h7
        refine ⟨rfl, fun rows' nx' C' hle => ?_⟩
        refine asRead_some.2 ⟨q, l, hle b _ h2, hq, ?_⟩
        show bo (takeN len (dropN o l)) (fun l => bo (bytesOf l) fun s => rv rows' nx' (.str s)) = _
        rw [h4]
        show bo (bytesOf l') (fun s => rv rows' nx' (.str s)) = _
        rw [h6]; rfl
      case nil k =>
        cases k <;> simp only at h1 <;> try (cases h1; done)
        obtain rfl := rv_some h1
        exact ⟨rfl, fun rows' nx' C' hle => rfl⟩
      case empty =>
        obtain rfl := rv_some h1
        exact ⟨rfl, fun rows' nx' C' hle => rfl⟩
    | _ => simp [clsK] at hc
  | _ => simp [clsK] at hc

theorem cls_a {k : K} (hc : clsK k = .a) {vs : List AV} {C : CallF} {rows : T ARow} {b : Nat} {r : R} (he : evK vs rows b C k = some r) :
    ∃ row, r = ⟨r.v, rows.set b (some row), b+1⟩ ∧ (∀ rows', evK vs rows' b C k = some ⟨r.v, rows'.set b (some row), b+1⟩) ∧ row.isRo = false := by
  cases k with
  | box g =>
    obtain ⟨a, t, rfl, h1⟩ := u1_some.1 (show u1 vs (fun x => gd x.stored (rnew rows b (.ptr b 0) (.cells g x.cells))) = some r from he)
    obtain ⟨h2, h3⟩ := gd_some.1 h1
    simp only [rnew, Option.some.injEq] at h3
    subst h3
    refine ⟨_, rfl, fun rows' => ?_, rfl⟩
    show gd a.stored (rnew rows' b (.ptr b 0) (.cells g a.cells)) = _
    rw [h2]; rfl
  | rare q =>
    cases q with
    | makeSlice z bytes =>
      obtain ⟨l, c, t, rfl, h1⟩ := u2_some.1 (show u2 vs (fun l c => asNat l fun l => asNat c fun c => gd (Nat.ble l c && small c bytes) (rnew rows b (.slice b 0 l (.ex c)) (.cells 0 (repl c z)))) = some r from he)
      obtain ⟨k1, n, rfl, h2⟩ := asNat_some.1 h1
      obtain ⟨k2, m, rfl, h3⟩ := asNat_some.1 h2
      obtain ⟨h4, h5⟩ := gd_some.1 h3
      simp only [rnew, Option.some.injEq] at h5
      subst h5
      refine ⟨_, rfl, fun rows' => ?_, rfl⟩
      show gd (Nat.ble n m && small m bytes) (rnew rows' b (.slice b 0 n (.ex m)) (.cells 0 (repl m z))) = _
      rw [h4]; rfl
    | makeMap =>
      simp only [evK, evRare, rnew, Option.some.injEq] at he
      subst he
      exact ⟨_, rfl, fun rows' => rfl, rfl⟩
    | toBytes =>
      obtain ⟨a, t, rfl, h1⟩ := u1_some.1 (show u1 vs (fun x => asStr x fun l => rnew rows b (.slice b 0 (lenN l) (.op 1)) (.cells 0 (mapN (fun c => .int .u8 (.ofNat c.toNat)) l))) = some r from he)
      obtain ⟨l, rfl, h2⟩ := asStr_some.1 h1
      simp only [rnew, Option.some.injEq] at h2
      subst h2
      exact ⟨_, rfl, fun rows' => rfl, rfl⟩
    | buildSlice z len offs =>
      obtain ⟨l, h1, h2⟩ := bo_some.1 (show bo (evParts offs vs z) (fun l => rnew rows b (.slice b 0 len (.ex len)) (.cells 0 l)) = some r from he)
      simp only [rnew, Option.some.injEq] at h2
      subst h2
      refine ⟨_, rfl, fun rows' => ?_, rfl⟩
      show bo (evParts offs vs z) (fun l => rnew rows' b (.slice b 0 len (.ex len)) (.cells 0 l)) = _
      rw [h1]; rfl
    | _ => simp [clsK] at hc
  | len lk => cases lk <;> simp [clsK] at hc
  | _ => simp [clsK] at hc

mutual
theorem sameV_eq : ∀ {a b : AV}, sameV a b = true → a = b
  | .bool a, .bool b, h => by simp [sameV] at h; rw [h]
  | .int j a, .int k b, h => by
    simp only [sameV, Bool.and_eq_true, eqI_eq] at h
    have h1 : j = k := by simpa using h.1
    rw [h1, of_decide_eq_true h.2]
  | .str a, .str b, h => by simp [sameV] at h; rw [h]
  | .ptr a o, .ptr b p, h => by
    simp only [sameV, beq_nat, Bool.and_eq_true, decide_eq_true_eq] at h
    rw [h.1, h.2]
  | .slice a o l c, .slice b p m d, h => by
    simp only [sameV, beq_nat, Bool.and_eq_true, decide_eq_true_eq] at h
    rw [h.1, h.2.1, h.2.2.1, h.2.2.2]
  | .nil j, .nil k, h => by simp [sameV] at h; rw [h]
  | .agg l, .agg m, h => by rw [sameL_eq (show sameL l m = true from by simpa [sameV] using h)]
  | .fn f l, .fn g m, h => by
    simp only [sameV, beq_nat, Bool.and_eq_true, decide_eq_true_eq] at h
    rw [h.1, sameL_eq h.2]
  | .map a, .map b, h => by
    simp only [sameV, beq_nat, decide_eq_true_eq] at h
    rw [h]
  | .yld a, .yld b, h => by
    simp only [sameV, beq_nat, decide_eq_true_eq] at h
    rw [h]
theorem sameL_eq : ∀ {l m : List AV}, sameL l m = true → l = m
  | [], [], _ => rfl
  | a :: l, b :: m, h => by
    simp only [sameL, Bool.and_eq_true] at h
    rw [sameV_eq h.1, sameL_eq h.2]
end
end Ev
end

/- A region whose order is open. -/
section
namespace Ev
open Go Go.RowKit

theorem Post.then {IR : Nat → IC → Code → Prop} {B : Base} {ι ι1 ι2 : Io} {rows rows1 rows2 : T ARow} {w w1 w2 : World} {nx nx1 na nb nf : Nat}
    (h : Post IR B ι ι1 rows w nx rows1 nx1 w1) (k : Post IR B ι1 ι2 rows1 w1 na rows2 nb w2) (h1 : nx ≤ na) (h2 : na ≤ nf) (h3 : nb ≤ nf) (h4 : nx1 ≤ nf) : Post IR B ι ι2 rows w nx rows2 nf w2 where
  ext := h.ext.trans k.ext
  new := fun b hb1 hb2 => (k.new b (Nat.le_trans h2 hb2) (Nat.le_trans h3 hb2)).trans (h.new b hb1 (Nat.le_trans h4 hb2))
  old := fun b hb => (k.old b (Nat.lt_of_lt_of_le hb h1)).trans (h.old b hb)
  le := Nat.le_trans h.le h4
  hrel := k.hrel
  frame := fun j hj ho => by
    rw [k.frame j (Nat.lt_of_lt_of_le hj h.size), h.frame j hj ho]
    intro hw
    rcases h.own j hw with h1 | h1
    · exact ho h1
    · omega
  size := Nat.le_trans h.size k.size
  own := fun j hj => by
    rcases k.own j hj with h1 | h1
    · exact h.own j h1
    · exact .inr (Nat.le_trans h.size h1)

theorem HRel.sub {IR : Nat → IC → Code → Prop} {B : Base} {ι : Io} {rows rows' : T ARow} {w : World} (h : HRel IR B ι rows w) (hs : RLe rows' rows) : HRel IR B ι rows' w :=
  ⟨fun b r e => h.row b r (hs b r e), fun b1 b2 r1 r2 L1 L2 e1 e2 => h.inj b1 b2 r1 r2 L1 L2 (hs _ _ e1) (hs _ _ e2), fun b r L e => h.low b r L (hs _ _ e), h.below, h.room⟩

theorem exists_rows (t : T ARow) (p : Nat → Option ARow) (l : List Nat) : ∃ t' : T ARow, ∀ b, t'.get b = if b ∈ l ∧ (p b).isSome then p b else t.get b := by
  induction l with
  | nil => exact ⟨t, fun b => by simp⟩
  | cons x l ih =>
    obtain ⟨t', h⟩ := ih
    cases hx : p x with
    | none =>
      refine ⟨t', fun b => ?_⟩
      rw [h]
      by_cases hb : b = x
      · subst hb; simp [hx]
      · simp [hb]
    | some r =>
      refine ⟨t'.set x (some r), fun b => ?_⟩
      rw [T.get_set, h]
      by_cases hb : b = x
      · subst hb; simp [hx]
      · simp [hb]

/-- What was not taken part in stays. -/
theorem Post.merge {IR : Nat → IC → Code → Prop} {B : Base} {ι ι' : Io} {rows1 rows2 V : T ARow} {w w' : World} {nx nx2 : Nat} (l : List Nat) (hV : HRel IR B ι V w) (hsub : RLe rows1 V) (hl : ∀ b r, V.get b = some r → rows1.get b = none → b ∈ l ∧ r.isRo = false)
    (hp : Post IR B ι ι' rows1 w nx rows2 nx2 w') :
    ∃ V', (∀ b r, V'.get b = some r ↔ (rows2.get b = some r ∨ (V.get b = some r ∧ rows1.get b = none))) ∧ Post IR B ι ι' V w nx V' nx2 w' ∧ (∀ b r, V.get b = some r → rows1.get b = none → rows2.get b = none) := by
  classical
  -- a row that took no part
  have keep : ∀ b r, V.get b = some r → rows1.get b = none → ∃ L o, ι b = some L ∧ w.heap[L.blk]? = some o ∧ RowRel IR ι L r o ∧ ¬ Owns ι rows1 L.blk ∧ L.blk < w.heap.size := by
    intro b r e e1
    obtain ⟨L, o, h1, h2, h3⟩ := hV.row b r e
    refine ⟨L, o, h1, h2, h3, ?_, (Array.getElem?_eq_some_iff.1 h2).1⟩
    rintro ⟨b', r', L', g1, g2, g3⟩
    have := hV.inj b b' r r' L L' e (hsub _ _ g1) (.inl (hl b r e e1).2) h1 g2 g3.symm
    subst this
    rw [e1] at g1; cases g1
  have none2 : ∀ b r, V.get b = some r → rows1.get b = none → rows2.get b = none := by
    intro b r e e1
    obtain ⟨L, o, h1, h2, h3, h4, h5⟩ := keep b r e e1
    cases hr : rows2.get b with
    | none => rfl
    | some r2 =>
      exfalso
      rcases hp.own L.blk ⟨b, r2, L, hr, hp.ext _ _ h1, rfl⟩ with h6 | h6
      · exact h4 h6
      · omega
  obtain ⟨V', hV'⟩ := exists_rows rows2 (fun b => if rows1.get b = none then V.get b else none) l
  have char : ∀ b r, V'.get b = some r ↔ (rows2.get b = some r ∨ (V.get b = some r ∧ rows1.get b = none)) := by
    intro b r
    rw [hV']
    by_cases h1 : rows1.get b = none
    · rw [if_pos h1]
      cases hv : V.get b with
      | none => simp
      | some q =>
        have hm := (hl b q hv h1).1
        have hn := none2 b q hv h1
        simp [hm, hn, h1]
    · rw [if_neg h1]
      simp [h1]
  refine ⟨V', char, ⟨hp.ext, hp.new, hp.old, hp.le, ⟨fun b r e => ?_, fun b1 b2 r1 r2 L1 L2 e1 e2 ho12 i1 i2 hk => ?_, fun b r L e i => ?_, hp.hrel.below, hp.hrel.room⟩, fun k hk ho => ?_, hp.size, fun k hk => ?_⟩, none2⟩
  · rcases (char b r).1 e with h1 | ⟨h1, h2⟩
    · exact hp.hrel.row b r h1
    · obtain ⟨L, o, g1, g2, g3, g4, g5⟩ := keep b r h1 h2
      exact ⟨L, o, hp.ext _ _ g1, by rw [hp.frame _ g5 g4]; exact g2, g3.mono hp.ext⟩
  · have cross : ∀ (b1 b2 : Nat) (r1 r2 : ARow) (L1 L2 : Loc), rows2.get b1 = some r1 → V.get b2 = some r2 → rows1.get b2 = none → ι' b1 = some L1 → ι' b2 = some L2 → L1.blk = L2.blk → b1 = b2 := by
      intro b1 b2 r1 r2 L1 L2 e1 e2 e3 i1 i2 hk
      obtain ⟨L, o, g1, g2, g3, g4, g5⟩ := keep b2 r2 e2 e3
      have : ι' b2 = some L := hp.ext _ _ g1
      rw [this] at i2; cases i2
      exfalso
      rcases hp.own L2.blk ⟨b1, r1, L1, e1, i1, hk⟩ with h6 | h6
      · exact g4 h6
      · omega
    rcases (char b1 r1).1 e1 with h1 | ⟨h1, h2⟩ <;> rcases (char b2 r2).1 e2 with h3 | ⟨h3, h4⟩
    · exact hp.hrel.inj b1 b2 r1 r2 L1 L2 h1 h3 ho12 i1 i2 hk
    · exact cross b1 b2 r1 r2 L1 L2 h1 h3 h4 i1 i2 hk
    · exact (cross b2 b1 r2 r1 L2 L1 h3 h1 h2 i2 i1 hk.symm).symm
    · obtain ⟨M1, _, g1, _⟩ := keep b1 r1 h1 h2
      obtain ⟨M2, _, g2, _⟩ := keep b2 r2 h3 h4
      have e1 : ι' b1 = some M1 := hp.ext _ _ g1
      have e2 : ι' b2 = some M2 := hp.ext _ _ g2
      rw [e1] at i1; cases i1
      rw [e2] at i2; cases i2
      exact hV.inj b1 b2 r1 r2 _ _ h1 h3 ho12 g1 g2 hk
  · intro hro
    rcases (char b r).1 e with h1 | ⟨h1, h2⟩
    · exact hp.hrel.low b r L h1 i hro
    · obtain ⟨M, _, g1, _⟩ := keep b r h1 h2
      have e1 : ι' b = some M := hp.ext _ _ g1
      rw [e1] at i; cases i
      exact hV.low b r _ h1 g1 hro
  · refine hp.frame k hk (fun ⟨b, r, L, g1, g2, g3⟩ => ho ⟨b, r, L, hsub _ _ g1, g2, g3⟩)
  · obtain ⟨b, r, L, e, i, hk⟩ := hk
    rcases (char b r).1 e with h1 | ⟨h1, h2⟩
    · rcases hp.own k ⟨b, r, L, h1, i, hk⟩ with ⟨b', r', L', g1, g2, g3⟩ | h6
      · exact .inl ⟨b', r', L', hsub _ _ g1, g2, g3⟩
      · exact .inr h6
    · obtain ⟨M, _, g1, _⟩ := keep b r h1 h2
      have e1 : ι' b = some M := hp.ext _ _ g1
      rw [e1] at i; cases i
      exact .inl ⟨b, r, _, h1, g1, hk⟩

/-! ### what is asked of a region -/

def readsOf (g : GOp) : List Nat := (g.xs.filterMap fun x => match x with | .t n => some n | .c _ => none) ++ (match g.g with | some p => [p.1] | none => [])

structure DrawOK (P : Program) (n : Nat) (ops : Array Oper) (ds : List DOp) (rst : List Nat) (bef : Nat → Nat → Prop) : Prop where
  len : ds.length = ops.size
  at' : ∀ (i : Nat) (o : Oper), ops[i]? = some o → ∃ d : DOp, ds[i]? = some d ∧ d.i = i ∧ d.g = compG P n ops.toList o ∧ d.cls = clsK d.g.k
  guard : ∀ o ∈ ops.toList, ∃ g, compGuard n ops.toList o = some g
  lt : ∀ i j, bef i j → j < i
  edge : ∀ (i j : Nat) (o : Oper), bef i j → ops[i]? = some o → ∃ e ∈ o.after, Region.binds .any e = true ∧ (e.on = j ∨ bef e.on j)
  edgeLt : ∀ (i : Nat) (o : Oper) (e : Edge), ops[i]? = some o → e ∈ o.after → Region.binds .any e = true → e.on < i
  chain : ∀ (i j : Nat) (di dj : DOp), ds[i]? = some di → ds[j]? = some dj → di.cls = .c → dj.cls = .c → i < j → bef j i
  reads : ∀ (i : Nat) (d : DOp) (t j : Nat) (oj : Oper), ds[i]? = some d → t ∈ readsOf d.g → ops[j]? = some oj → oj.dst = some t → j ≠ i → bef i j ∨ bef j i
  rlt : ∀ (i : Nat) (d : DOp) (t : Nat), ds[i]? = some d → t ∈ readsOf d.g → t < n
  one : ∀ (i j : Nat) (oi oj : Oper) (t : Nat), ops[i]? = some oi → ops[j]? = some oj → oi.dst = some t → oj.dst = some t → i = j
  accA : ∀ (i : Nat) (d : DOp) (a : Nat), ds[i]? = some d → a ∈ d.acc → bef i a ∧ d.cls = .c
  accOne : ∀ (i j : Nat) (di dj : DOp) (a : Nat), ds[i]? = some di → ds[j]? = some dj → a ∈ di.acc → a ∈ dj.acc → i = j
  rest : ∀ (a : Nat) (da : DOp), ds[a]? = some da → da.cls = .a → (∀ (i : Nat) (di : DOp), ds[i]? = some di → a ∉ di.acc) → a ∈ rst
  restNo : ∀ (a i : Nat) (di : DOp), a ∈ rst → ds[i]? = some di → a ∉ di.acc
  lo : ∀ (i : Nat) (d : DOp), ds[i]? = some d → d.cls = .l → d.lo ≤ ops.size ∧ ∀ (c : Nat) (dc : DOp), ds[c]? = some dc → dc.cls = .c → c < d.lo → bef i c
  hi : ∀ (i : Nat) (d : DOp), ds[i]? = some d → d.cls = .l → d.hi = ops.size ∨ ∃ dc : DOp, ds[d.hi]? = some dc ∧ dc.cls = .c ∧ bef d.hi i
  nochk : ∀ (i : Nat) (d : DOp), ds[i]? = some d → d.cls = .l → d.chk = false → ∀ F, F ≤ ops.size → (F = ops.size ∨ ∃ dF : DOp, ds[F]? = some dF ∧ dF.cls = .c) → d.lo ≤ F → F ≤ d.hi → i < F ∧ ∀ (c : Nat) (dc : DOp), ds[c]? = some dc → dc.cls = .c → i < c → F ≤ c

/-! ### the run, step by step -/

theorem trace {C : CallF} {n0 : Nat} : ∀ {l : List DOp} {s t : DS}, evDs C n0 l s = some t → ∃ σ : Nat → DS, σ 0 = s ∧ σ l.length = t ∧ ∀ i d, l[i]? = some d → evD C n0 d (σ i) = some (σ (i+1))
  | [], s, t, h => by
    have : s = t := by simpa [evDs] using h
    exact ⟨fun _ => s, rfl, this, fun i d h => by simp at h⟩
  | d :: l, s, t, h => by
    obtain ⟨s1, h1, h2⟩ := bo_some.1 (show bo (evD C n0 d s) (evDs C n0 l) = some t from h)
    obtain ⟨σ, g1, g2, g3⟩ := trace h2
    refine ⟨fun i => match i with | 0 => s | i+1 => σ i, rfl, g2, fun i e hi => ?_⟩
    cases i with
    | zero =>
      simp at hi; subst hi
      show evD C n0 d s = some (σ 0)
      rw [g1]; exact h1
    | succ i => exact g3 i e (by simpa using hi)

theorem evD_cases {C : CallF} {n0 : Nat} {d : DOp} {s t : DS} (h : evD C n0 d s = some t) :
    (wanted s.tm d.g.g = false ∧ t.tm = s.tm.set d.g.d (some .undef) ∧ t.nx = s.nx ∧ t.al = s.al ∧ t.lg = s.lg ∧ (d.cls = .c → t.rows = account n0 s.al s.rows d.acc ∧ t.eps = (d.i, s.rows) :: s.eps) ∧ (d.cls ≠ .c → t.rows = s.rows ∧ t.eps = s.eps)) ∨
    (wanted s.tm d.g.g = true ∧ ∃ r : R, t.tm = s.tm.set d.g.d (some r.v) ∧
      (d.cls = .p → evK (evList s.tm d.g.xs) s.rows n0 C d.g.k = some r ∧ t.rows = s.rows ∧ t.nx = s.nx ∧ t.al = s.al ∧ t.eps = s.eps ∧ t.lg = s.lg) ∧
      (d.cls = .l → evK (evList s.tm d.g.xs) s.rows n0 C d.g.k = some r ∧ t.rows = s.rows ∧ t.nx = s.nx ∧ t.al = s.al ∧ t.eps = s.eps ∧ t.lg = (match d.chk with | true => ⟨d.lo, d.hi, evList s.tm d.g.xs, d.g.k, r.v⟩ :: s.lg | false => s.lg)) ∧
      (d.cls = .a → ∃ row, evK (evList s.tm d.g.xs) s.rows (n0 + d.i) C d.g.k = some r ∧ r.rows.get (n0 + d.i) = some row ∧ t.rows = s.rows ∧ t.nx = s.nx ∧ t.al = (d.i, row) :: s.al ∧ t.eps = s.eps ∧ t.lg = s.lg) ∧
      (d.cls = .c → evK (evList s.tm d.g.xs) (account n0 s.al s.rows d.acc) s.nx C d.g.k = some r ∧ t.rows = r.rows ∧ t.nx = r.nx ∧ t.al = s.al ∧ t.eps = (d.i, s.rows) :: s.eps ∧ t.lg = s.lg)) := by
  unfold evD at h
  cases hw : wanted s.tm d.g.g with
  | false =>
    rw [hw] at h
    have h : evDU n0 d s = some t := h
    unfold evDU at h
    refine .inl ⟨rfl, ?_⟩
    cases hc : d.cls <;> rw [hc] at h <;> simp only [Option.some.injEq] at h <;> subst h <;> simp
  | true =>
    rw [hw] at h
    have h : evDK C n0 d s = some t := h
    unfold evDK at h
    refine .inr ⟨rfl, ?_⟩
    cases hc : d.cls <;> rw [hc] at h <;> simp only at h
    · obtain ⟨r, h1, h2⟩ := bo_some.1 h
      simp only [Option.some.injEq] at h2
      subst h2
      exact ⟨r, rfl, fun _ => ⟨h1, rfl, rfl, rfl, rfl, rfl⟩, by simp, by simp, by simp⟩
    · obtain ⟨r, h1, h2⟩ := bo_some.1 h
      simp only [Option.some.injEq] at h2
      subst h2
      exact ⟨r, rfl, by simp, fun _ => ⟨h1, rfl, rfl, rfl, rfl, rfl⟩, by simp, by simp⟩
    · obtain ⟨r, h1, h2⟩ := bo_some.1 h
      obtain ⟨row, h3, h4⟩ := bo_some.1 h2
      simp only [Option.some.injEq] at h4
      subst h4
      exact ⟨r, rfl, by simp, by simp, fun _ => ⟨row, h1, h3, rfl, rfl, rfl, rfl, rfl⟩, by simp⟩
    · obtain ⟨r, h1, h2⟩ := bo_some.1 h
      simp only [Option.some.injEq] at h2
      subst h2
      exact ⟨r, rfl, by simp, by simp, by simp, fun _ => ⟨h1, rfl, rfl, rfl, rfl, rfl⟩⟩

theorem account_get {n0 : Nat} {al : List (Nat × ARow)} {rows : T ARow} : ∀ (l : List Nat) (b : Nat) (r : ARow), (account n0 al rows l).get b = some r ↔ ((∃ i, i ∈ l ∧ b = n0 + i ∧ findA i al = some r) ∨ ((∀ i, i ∈ l → b = n0 + i → findA i al = none) ∧ rows.get b = some r))
  | [], b, r => by simp [account]
  | x :: l, b, r => by
    have ih := account_get (n0 := n0) (al := al) (rows := rows) l b r
    show (accOne n0 x (findA x al) (account n0 al rows l)).get b = some r ↔ _
    unfold accOne
    cases hx : findA x al with
    | none =>
      simp only
      rw [ih]
      constructor
      · rintro (⟨i, h1, h2, h3⟩ | ⟨h1, h2⟩)
        · exact .inl ⟨i, by simp [h1], h2, h3⟩
        · refine .inr ⟨fun i hi hb => ?_, h2⟩
          rcases List.mem_cons.1 hi with rfl | hi
          · exact hx
          · exact h1 i hi hb
      · rintro (⟨i, h1, h2, h3⟩ | ⟨h1, h2⟩)
        · rcases List.mem_cons.1 h1 with rfl | h1
          · rw [hx] at h3; cases h3
          · exact .inl ⟨i, h1, h2, h3⟩
        · exact .inr ⟨fun i hi hb => h1 i (by simp [hi]) hb, h2⟩
    | some q =>
      simp only [T.get_set, Nat.add_eq]
      by_cases hb : b = n0 + x
      · rw [if_pos hb]
        constructor
        · intro e
          cases e
          exact .inl ⟨x, by simp, hb, hx⟩
        · rintro (⟨i, h1, h2, h3⟩ | ⟨h1, h2⟩)
          · have : i = x := by omega
            subst this
            rw [hx] at h3; exact h3
          · have := h1 x (by simp) hb
            rw [hx] at this; cases this
      · rw [if_neg hb, ih]
        constructor
        · rintro (⟨i, h1, h2, h3⟩ | ⟨h1, h2⟩)
          · exact .inl ⟨i, by simp [h1], h2, h3⟩
          · refine .inr ⟨fun i hi hb' => ?_, h2⟩
            rcases List.mem_cons.1 hi with rfl | hi
            · exact absurd hb' hb
            · exact h1 i hi hb'
        · rintro (⟨i, h1, h2, h3⟩ | ⟨h1, h2⟩)
          · rcases List.mem_cons.1 h1 with rfl | h1
            · exact absurd h2 hb
            · exact .inl ⟨i, h1, h2, h3⟩
          · exact .inr ⟨fun i hi hb' => h1 i (by simp [hi]) hb', h2⟩
end Ev
end

/- A region whose order is open: what its run tells. -/
section
namespace Ev
open Go Go.RowKit

structure Run (C : CallF) (n0 : Nat) (ds : List DOp) (σ : Nat → DS) (s0 : St) : Prop where
  init : σ 0 = ⟨s0.tm, s0.rows, n0 + ds.length, [], [], []⟩
  step : ∀ (i : Nat) (d : DOp), ds[i]? = some d → evD C n0 d (σ i) = some (σ (i+1))
  chk : chkLg C ((ds.length, (σ ds.length).rows) :: (σ ds.length).eps) (σ ds.length).lg = true

theorem chkLg_some {C : CallF} {eps : List (Nat × T ARow)} : ∀ {lg : List Lg}, chkLg C eps lg = true → ∀ g ∈ lg, ∀ e ∈ eps, chkOne C g e = true
  | [], _, g, hg, _, _ => by cases hg
  | g :: lg, h, g', hg, e, he => by
    have h : (match (List.rec true (fun e _ ih => match chkOne C g e with | true => ih | false => false) eps : Bool) with | true => chkLg C eps lg | false => false) = true := h
    have key : ∀ l : List (Nat × T ARow), (List.rec true (fun e _ ih => match chkOne C g e with | true => ih | false => false) l : Bool) = true → ∀ e ∈ l, chkOne C g e = true := by
      intro l
      induction l with
      | nil => intro _ e he; cases he
      | cons x l ih =>
        intro h e he
        have h : (match chkOne C g x with | true => (List.rec true (fun e _ ih => match chkOne C g e with | true => ih | false => false) l : Bool) | false => false) = true := h
        cases hx : chkOne C g x with
        | false => rw [hx] at h; cases h
        | true =>
          rw [hx] at h
          rcases List.mem_cons.1 he with rfl | he
          · exact hx
          · exact ih h e he
    cases hb : (List.rec true (fun e _ ih => match chkOne C g e with | true => ih | false => false) eps : Bool) with
    | false => rw [hb] at h; cases h
    | true =>
      rw [hb] at h
      rcases List.mem_cons.1 hg with rfl | hg
      · exact key eps hb e he
      · exact chkLg_some h g' hg e he

section
variable {P : Program} {n : Nat} {ops : Array Oper} {ds : List DOp} {rst : List Nat} {bef : Nat → Nat → Prop} {C : CallF} {n0 : Nat} {σ : Nat → DS} {s0 : St}

theorem Run.plain (hR : Run C n0 ds σ s0) {i : Nat} {d : DOp} (hi : ds[i]? = some d) (hc : d.cls ≠ .c) : (σ (i+1)).rows = (σ i).rows ∧ (σ (i+1)).nx = (σ i).nx ∧ (σ (i+1)).eps = (σ i).eps := by
  rcases evD_cases (hR.step i d hi) with ⟨_, _, h2, _, _, _, h3⟩ | ⟨_, r, _, h1, h2, h3, _⟩
  · exact ⟨(h3 hc).1, h2, (h3 hc).2⟩
  · cases hk : d.cls with
    | p => obtain ⟨_, a, b, _, c, _⟩ := h1 hk; exact ⟨a, b, c⟩
    | l => obtain ⟨_, a, b, _, c, _⟩ := h2 hk; exact ⟨a, b, c⟩
    | a => obtain ⟨_, _, _, a, b, _, c, _⟩ := h3 hk; exact ⟨a, b, c⟩
    | c => exact absurd hk hc

theorem Run.same (hR : Run C n0 ds σ s0) {F : Nat} : ∀ k, F ≤ k → k ≤ ds.length → (∀ (c : Nat) (dc : DOp), ds[c]? = some dc → dc.cls = .c → F ≤ c → ¬ c < k) → (σ k).rows = (σ F).rows ∧ (σ k).nx = (σ F).nx := by
  intro k hk
  induction k with
  | zero => intro _ _; have : F = 0 := by omega
            subst this; exact ⟨rfl, rfl⟩
  | succ k ih =>
    intro hm hno
    by_cases hF : F = k + 1
    · subst hF; exact ⟨rfl, rfl⟩
    · obtain ⟨h1, h2⟩ := ih (by omega) (by omega) (fun c dc h1 h2 h3 h4 => hno c dc h1 h2 h3 (by omega))
      obtain ⟨d, hd⟩ : ∃ d, ds[k]? = some d := ⟨ds[k], by simp [show k < ds.length by omega]⟩
      have hc : d.cls ≠ .c := fun hc => hno k d hd hc (by omega) (by omega)
      obtain ⟨g1, g2, _⟩ := hR.plain hd hc
      exact ⟨g1.trans h1, g2.trans h2⟩

theorem Run.alStep (hR : Run C n0 ds σ s0) (hid : ∀ (i : Nat) (d : DOp), ds[i]? = some d → d.i = i) {i a : Nat} {d : DOp} (hi : ds[i]? = some d) (ha : a ≠ i) : findA a (σ (i+1)).al = findA a (σ i).al := by
  rcases evD_cases (hR.step i d hi) with ⟨_, _, _, h2, _⟩ | ⟨_, r, _, h1, h2, h3, h4⟩
  · rw [h2]
  · cases hk : d.cls with
    | p => rw [(h1 hk).2.2.2.1]
    | l => rw [(h2 hk).2.2.2.1]
    | c => rw [(h4 hk).2.2.2.1]
    | a =>
      obtain ⟨row, _, _, _, _, e, _⟩ := h3 hk
      rw [e, hid i d hi]
      show (Bool.rec (findA a (σ i).al) (some row) (Nat.beq a i) : Option ARow) = _
      rw [beq_nat, decide_eq_false ha]
theorem Run.al0 (hR : Run C n0 ds σ s0) (hid : ∀ (i : Nat) (d : DOp), ds[i]? = some d → d.i = i) (a : Nat) : ∀ k, k ≤ a → k ≤ ds.length → findA a (σ k).al = none := by
  intro k
  induction k with
  | zero => intro _ _; rw [hR.init]; rfl
  | succ k ih =>
    intro h1 h2
    obtain ⟨d, hd⟩ : ∃ d, ds[k]? = some d := ⟨ds[k], by simp [show k < ds.length by omega]⟩
    rw [hR.alStep hid hd (by omega)]
    exact ih (by omega) (by omega)
theorem Run.al1 (hR : Run C n0 ds σ s0) (hid : ∀ (i : Nat) (d : DOp), ds[i]? = some d → d.i = i) (a k : Nat) (h1 : a < k) : ∀ j, k ≤ j → j ≤ ds.length → findA a (σ j).al = findA a (σ k).al := by
  intro j
  induction j with
  | zero => intro _ _; omega
  | succ j ih =>
    intro h2 h3
    by_cases hj : k = j + 1
    · rw [hj]
    · obtain ⟨d, hd⟩ : ∃ d, ds[j]? = some d := ⟨ds[j], by simp [show j < ds.length by omega]⟩
      rw [hR.alStep hid hd (by omega)]
      exact ih (by omega) (by omega)

/-- The new row of an operation. -/
noncomputable def arow (ds : List DOp) (σ : Nat → DS) (i : Nat) : Option ARow := findA i (σ ds.length).al

theorem Run.arow_at (hR : Run C n0 ds σ s0) (hid : ∀ (i : Nat) (d : DOp), ds[i]? = some d → d.i = i) {i : Nat} {k : Nat} (h1 : i < k) (h2 : k ≤ ds.length) : findA i (σ k).al = arow ds σ i :=
  (hR.al1 hid i k h1 ds.length h2 (Nat.le_refl _)).symm
theorem lt_of_get {i : Nat} {d : DOp} (hi : ds[i]? = some d) : i < ds.length := (List.getElem?_eq_some_iff.1 hi).1
theorem Run.arow_none (hR : Run C n0 ds σ s0) (hid : ∀ (i : Nat) (d : DOp), ds[i]? = some d → d.i = i) {i : Nat} {d : DOp} (hi : ds[i]? = some d) (h : d.cls ≠ .a ∨ wanted (σ i).tm d.g.g = false) : arow ds σ i = none := by
  have hlt := lt_of_get hi
  rw [← hR.arow_at hid (k := i+1) (by omega) (by omega)]
  have h0 := hR.al0 hid i i (Nat.le_refl _) (by omega)
  rcases evD_cases (hR.step i d hi) with ⟨_, _, _, h2, _⟩ | ⟨hw, r, _, h1, h2, h3, h4⟩
  · rw [h2]; exact h0
  · cases hk : d.cls with
    | p => rw [(h1 hk).2.2.2.1]; exact h0
    | l => rw [(h2 hk).2.2.2.1]; exact h0
    | c => rw [(h4 hk).2.2.2.1]; exact h0
    | a =>
      rcases h with h | h
      · exact absurd hk h
      · rw [h] at hw; cases hw

theorem Run.eps (hR : Run C n0 ds σ s0) (hid : ∀ (i : Nat) (d : DOp), ds[i]? = some d → d.i = i) {F : Nat} {dF : DOp} (hF : ds[F]? = some dF) (hc : dF.cls = .c) : ∀ k, F < k → k ≤ ds.length → (F, (σ F).rows) ∈ (σ k).eps := by
  intro k
  induction k with
  | zero => intro h; omega
  | succ k ih =>
    intro h1 h2
    obtain ⟨d, hd⟩ : ∃ d, ds[k]? = some d := ⟨ds[k], by simp [show k < ds.length by omega]⟩
    have mono : ∀ e ∈ (σ k).eps, e ∈ (σ (k+1)).eps := by
      intro e he
      by_cases hk : d.cls = .c
      · rcases evD_cases (hR.step k d hd) with ⟨_, _, _, _, _, h3, _⟩ | ⟨_, r, _, _, _, _, h4⟩
        · rw [(h3 hk).2]; exact List.mem_cons_of_mem _ he
        · rw [(h4 hk).2.2.2.2.1]; exact List.mem_cons_of_mem _ he
      · rw [(hR.plain hd hk).2.2]; exact he
    by_cases hk : F = k
    · subst hk
      rw [hF] at hd; cases hd
      rcases evD_cases (hR.step F dF hF) with ⟨_, _, _, _, _, h3, _⟩ | ⟨_, r, _, _, _, _, h4⟩
      · rw [(h3 hc).2, hid F dF hF]; simp
      · rw [(h4 hc).2.2.2.2.1, hid F dF hF]; simp
    · exact mono _ (ih (by omega) (by omega))

theorem Run.lg (hR : Run C n0 ds σ s0) {i : Nat} {d : DOp} (hi : ds[i]? = some d) (hc : d.cls = .l) (hchk : d.chk = true) {r : R} (hw : wanted (σ i).tm d.g.g = true) (he : evK (evList (σ i).tm d.g.xs) (σ i).rows n0 C d.g.k = some r) :
    ∀ k, i < k → k ≤ ds.length → (⟨d.lo, d.hi, evList (σ i).tm d.g.xs, d.g.k, r.v⟩ : Lg) ∈ (σ k).lg := by
  intro k
  induction k with
  | zero => intro h; omega
  | succ k ih =>
    intro h1 h2
    obtain ⟨d', hd⟩ : ∃ d, ds[k]? = some d := ⟨ds[k], by simp [show k < ds.length by omega]⟩
    by_cases hk : i = k
    · subst hk
      rw [hi] at hd; cases hd
      rcases evD_cases (hR.step i d hi) with ⟨hw', _⟩ | ⟨_, r', _, _, h3, _, _⟩
      · rw [hw] at hw'; cases hw'
      · obtain ⟨g1, _, _, _, _, g2⟩ := h3 hc
        rw [he] at g1; cases g1
        rw [g2, hchk]; simp
    · have hm := ih (by omega) (by omega)
      rcases evD_cases (hR.step k d' hd) with ⟨_, _, _, _, h2, _⟩ | ⟨_, r', _, h3, h4, h5, h6⟩
      · rw [h2]; exact hm
      · cases hk : d'.cls with
        | p => rw [(h3 hk).2.2.2.2.2]; exact hm
        | l =>
          rw [(h4 hk).2.2.2.2.2]
          cases d'.chk
          · exact hm
          · exact List.mem_cons_of_mem _ hm
        | a => obtain ⟨_, _, _, _, _, _, _, e⟩ := h5 hk; rw [e]; exact hm
        | c => rw [(h6 hk).2.2.2.2.2]; exact hm

/-- The value that an operation puts. -/
noncomputable def vput (ds : List DOp) (σ : Nat → DS) (i : Nat) : AV := match ds[i]? with
  | some d => (Opd.t d.g.d).ev (σ (i+1)).tm
  | none => .undef

theorem Run.tmStep (hR : Run C n0 ds σ s0) {i : Nat} {d : DOp} (hi : ds[i]? = some d) : ∀ t, (Opd.t t).ev (σ (i+1)).tm = if t = d.g.d then vput ds σ i else (Opd.t t).ev (σ i).tm := by
  have : ∃ v, (σ (i+1)).tm = (σ i).tm.set d.g.d (some v) := by
    rcases evD_cases (hR.step i d hi) with ⟨_, h, _⟩ | ⟨_, r, h, _⟩
    · exact ⟨_, h⟩
    · exact ⟨_, h⟩
  obtain ⟨v, hv⟩ := this
  intro t
  have e : vput ds σ i = v := by
    unfold vput
    rw [hi]
    simp only [hv]
    rw [ev_set, if_pos rfl]
  rw [e, hv, ev_set]

theorem compG_d {o : Oper} (hg : ∃ g, compGuard n ops.toList o = some g) : (compG P n ops.toList o).d = o.dst.getD n := by
  rcases compG_cases (P := P) hg with ⟨g, k, xs, ys, _, _, _, h⟩ | ⟨g, _, h⟩ <;> rw [h]

theorem DrawOK.op (hD : DrawOK P n ops ds rst bef) {i : Nat} {d : DOp} (hi : ds[i]? = some d) : ∃ o, ops[i]? = some o ∧ d.i = i ∧ d.g = compG P n ops.toList o ∧ d.cls = clsK d.g.k ∧ d.g.d = o.dst.getD n ∧ ∃ g, compGuard n ops.toList o = some g := by
  have hlt := lt_of_get hi
  rw [hD.len] at hlt
  obtain ⟨o, ho⟩ : ∃ o, ops[i]? = some o := ⟨ops[i], by simp [hlt]⟩
  obtain ⟨d', h1, h2, h3, h4⟩ := hD.at' i o ho
  rw [hi] at h1; cases h1
  have hg := hD.guard o (by simpa using Array.mem_of_getElem? ho)
  exact ⟨o, ho, h2, h3, h4, by rw [h3]; exact compG_d hg, hg⟩
theorem DrawOK.id (hD : DrawOK P n ops ds rst bef) : ∀ (i : Nat) (d : DOp), ds[i]? = some d → d.i = i := fun i d hi => by
  obtain ⟨_, _, h, _⟩ := hD.op hi; exact h

theorem Run.tm1 (hR : Run C n0 ds σ s0) (hD : DrawOK P n ops ds rst bef) {j : Nat} {oj : Oper} {t : Nat} (hj : ops[j]? = some oj) (ht : oj.dst = some t) (htn : t < n) : ∀ k, j < k → k ≤ ds.length → (Opd.t t).ev (σ k).tm = vput ds σ j := by
  intro k
  induction k with
  | zero => intro h; omega
  | succ k ih =>
    intro h1 h2
    obtain ⟨d, hd⟩ : ∃ d, ds[k]? = some d := ⟨ds[k], by simp [show k < ds.length by omega]⟩
    obtain ⟨o, ho, _, _, _, hdd, _⟩ := hD.op hd
    rw [hR.tmStep hd, hdd]
    by_cases hk : j = k
    · subst hk
      rw [hj] at ho; cases ho
      rw [ht]; simp
    · have : t ≠ o.dst.getD n := by
        intro e
        cases hdst : o.dst with
        | none => rw [hdst] at e; simp at e; omega
        | some t' =>
          rw [hdst] at e
          simp at e
          subst e
          exact hk (hD.one j k oj o t hj ho ht hdst)
      rw [if_neg this]
      exact ih (by omega) (by omega)
theorem Run.tm2 (hR : Run C n0 ds σ s0) (hD : DrawOK P n ops ds rst bef) {t : Nat} (htn : t < n) : ∀ k, k ≤ ds.length → (∀ (j : Nat) (oj : Oper), j < k → ops[j]? = some oj → oj.dst ≠ some t) → (Opd.t t).ev (σ k).tm = (Opd.t t).ev s0.tm := by
  intro k
  induction k with
  | zero => intro _ _; rw [hR.init]
  | succ k ih =>
    intro h2 hno
    obtain ⟨d, hd⟩ : ∃ d, ds[k]? = some d := ⟨ds[k], by simp [show k < ds.length by omega]⟩
    obtain ⟨o, ho, _, _, _, hdd, _⟩ := hD.op hd
    rw [hR.tmStep hd, hdd]
    have : t ≠ o.dst.getD n := by
      intro e
      cases hdst : o.dst with
      | none => rw [hdst] at e; simp at e; omega
      | some t' =>
        rw [hdst] at e
        simp at e
        subst e
        exact hno k o (by omega) ho hdst
    rw [if_neg this]
    exact ih (by omega) (fun j oj hj => hno j oj (by omega))

theorem next_chain : ∀ (g F : Nat), ds.length - F = g → F ≤ ds.length → ∃ G, F ≤ G ∧ G ≤ ds.length ∧ (G = ds.length ∨ ∃ dG, ds[G]? = some dG ∧ dG.cls = .c) ∧ ∀ (c : Nat) (dc : DOp), ds[c]? = some dc → dc.cls = .c → F ≤ c → ¬ c < G := by
  intro g
  induction g with
  | zero =>
    intro F h1 h2
    exact ⟨F, Nat.le_refl _, h2, .inl (by omega), fun c dc _ _ h3 h4 => by omega⟩
  | succ g ih =>
    intro F h1 h2
    obtain ⟨d, hd⟩ : ∃ d, ds[F]? = some d := ⟨ds[F], by simp [show F < ds.length by omega]⟩
    by_cases hc : d.cls = .c
    · exact ⟨F, Nat.le_refl _, h2, .inr ⟨d, hd, hc⟩, fun c dc _ _ h3 h4 => by omega⟩
    · obtain ⟨G, g1, g2, g3, g4⟩ := ih (F+1) (by omega) (by omega)
      refine ⟨G, by omega, g2, g3, fun c dc h3 h4 h5 => ?_⟩
      by_cases he : c = F
      · subst he; rw [hd] at h3; cases h3; exact absurd h4 hc
      · exact g4 c dc h3 h4 (by omega)
end
end Ev
end

/- A region whose order is open: in the machine. -/
section
namespace Ev
open Go Go.RowKit

section
variable {P : Program} {n : Nat} {ops : Array Oper} {ds : List DOp} {rst : List Nat} {bef : Nat → Nat → Prop} {C : CallF} {σ : Nat → DS} {s0 : St} {IR : Nat → IC → Code → Prop} {B : Base}

/-- A new row that is laid, and not taken up yet. -/
def Pend (ds : List DOp) (σ : Nat → DS) (S : Nat → Prop) (F i : Nat) (r : ARow) : Prop := S i ∧ arow ds σ i = some r ∧ ∀ (c : Nat) (dc : DOp), ds[c]? = some dc → c < F → i ∉ dc.acc

structure DInv (IR : Nat → IC → Code → Prop) (B : Base) (n : Nat) (ops : Array Oper) (ds : List DOp) (bef : Nat → Nat → Prop) (σ : Nat → DS) (s0 : St) (ι0 : Io) (w0 : World) (dfs : List Deferred) (S : Nat → Prop) (F : Nat) (ι : Io) (V : T ARow) (tmS : T AV) (a : Act) (w : World) : Prop where
  clo : ∀ i j, S i → bef i j → S j
  fr : ∀ (c : Nat) (dc : DOp), ds[c]? = some dc → dc.cls = .c → (S c ↔ c < F)
  Fm : F ≤ ds.length
  row : ∀ b r, V.get b = some r ↔ ((σ F).rows.get b = some r ∨ ∃ i, Pend ds σ S F i r ∧ b = s0.nx + i)
  post : Post IR B ι0 ι s0.rows w0 s0.nx V (σ F).nx w
  nx : s0.nx + ds.length ≤ (σ F).nx
  unal : ∀ i, i < ds.length → ¬ S i → ι (s0.nx + i) = none
  tm : TmRel ι tmS a.tmps
  t1 : ∀ (j : Nat) (oj : Oper) (t : Nat), ops[j]? = some oj → S j → oj.dst = some t → t < n → (Opd.t t).ev tmS = vput ds σ j
  t2 : ∀ t, t < n → (∀ (j : Nat) (oj : Oper), ops[j]? = some oj → S j → oj.dst ≠ some t) → (Opd.t t).ev tmS = (Opd.t t).ev s0.tm
  sz : a.tmps.size = n
  df : a.defers = dfs
  lt : ∀ i, S i → i < ds.length
  pn : ∀ j r, Pend ds σ S F j r → (σ F).rows.get (s0.nx + j) = none

variable {ι0 : Io} {w0 : World} {dfs : List Deferred} {S : Nat → Prop} {F : Nat} {ι : Io} {V : T ARow} {tmS : T AV} {a : Act} {w : World}

/-- One operation more has been run. -/
theorem DInv.step (hD : DrawOK P n ops ds rst bef) (h : DInv IR B n ops ds bef σ s0 ι0 w0 dfs S F ι V tmS a w) {i : Nat} {d : DOp} {o : Oper} (hi : ds[i]? = some d) (ho : ops[i]? = some o) (hS : ¬ S i) (hb : ∀ j, bef i j → S j)
    {F' : Nat} {ι' : Io} {V' : T ARow} {u : Value} {w' : World} (he : Ext ι ι') (hu : VRel ι' (vput ds σ i) u)
    (hfr : ∀ (c : Nat) (dc : DOp), ds[c]? = some dc → dc.cls = .c → ((S c ∨ c = i) ↔ c < F')) (hFm : F' ≤ ds.length)
    (hrow : ∀ b r, V'.get b = some r ↔ ((σ F').rows.get b = some r ∨ ∃ j, Pend ds σ (fun j => S j ∨ j = i) F' j r ∧ b = s0.nx + j)) (hpost : Post IR B ι0 ι' s0.rows w0 s0.nx V' (σ F').nx w') (hnx : s0.nx + ds.length ≤ (σ F').nx)
    (hun : ∀ j, j < ds.length → ¬ S j → j ≠ i → ι' (s0.nx + j) = none) (hpn : ∀ j r, Pend ds σ (fun j => S j ∨ j = i) F' j r → (σ F').rows.get (s0.nx + j) = none) :
    DInv IR B n ops ds bef σ s0 ι0 w0 dfs (fun j => S j ∨ j = i) F' ι' V' (tmS.set (o.dst.getD n) (some (vput ds σ i))) (a.put o.dst u) w' := by
  obtain ⟨q1, q2, q3⟩ := (h.tm.mono he).put (dst := o.dst) h.sz hu
  refine ⟨?_, hfr, hFm, hrow, hpost, hnx, fun j hj hs => hun j hj (fun e => hs (.inl e)) (fun e => hs (.inr e)), q1, ?_, ?_, q2, q3.trans h.df, ?_, hpn⟩
  · rintro j k (hj | rfl) hk
    · exact .inl (h.clo j k hj hk)
    · exact .inl (hb k hk)
  · intro j oj t hj hs hdt htn
    rw [ev_set]
    rcases hs with hs | rfl
    · have : t ≠ o.dst.getD n := by
        intro e
        cases hdst : o.dst with
        | none => rw [hdst] at e; simp at e; omega
        | some t' =>
          rw [hdst] at e
          simp at e
          subst e
          have := hD.one j i oj o t hj ho hdt hdst
          subst this
          exact hS hs
      rw [if_neg this]
      exact h.t1 j oj t hj hs hdt htn
    · rw [ho] at hj; cases hj
      rw [hdt]
      simp
  · intro t htn hno
    rw [ev_set]
    have : t ≠ o.dst.getD n := by
      intro e
      cases hdst : o.dst with
      | none => rw [hdst] at e; simp at e; omega
      | some t' =>
        rw [hdst] at e
        simp at e
        subst e
        exact hno i o ho (.inr rfl) hdst
    rw [if_neg this]
    exact h.t2 t htn (fun j oj hj hs => hno j oj hj (.inl hs))
  · rintro j (hj | rfl)
    · exact h.lt j hj
    · exact lt_of_get hi

/-- What it reads is what the run read. -/
theorem DInv.reads (hD : DrawOK P n ops ds rst bef) (hR : Run C s0.nx ds σ s0) (h : DInv IR B n ops ds bef σ s0 ι0 w0 dfs S F ι V tmS a w) {i : Nat} {d : DOp} (hi : ds[i]? = some d) (hS : ¬ S i) (hb : ∀ j, bef i j → S j) {t : Nat} (ht : t ∈ readsOf d.g) :
    (Opd.t t).ev tmS = (Opd.t t).ev (σ i).tm := by
  have hlt := lt_of_get hi
  have htn := hD.rlt i d t hi ht
  by_cases hw : ∃ j oj, ops[j]? = some oj ∧ oj.dst = some t ∧ j ≠ i
  · obtain ⟨j, oj, hj, hdt, hne⟩ := hw
    have only : ∀ k ok, ops[k]? = some ok → ok.dst = some t → k = j := fun k ok hk hkt => hD.one k j ok oj t hk hj hkt hdt
    rcases hD.reads i d t j oj hi ht hj hdt hne with h1 | h1
    · rw [h.t1 j oj t hj (hb j h1) hdt htn, hR.tm1 hD hj hdt htn i (hD.lt i j h1) (by omega)]
    · have hSj : ¬ S j := fun hs => hS (h.clo j i hs h1)
      have hij := hD.lt j i h1
      rw [h.t2 t htn (fun k ok hk hs hkt => hSj (by rw [← only k ok hk hkt]; exact hs)), hR.tm2 hD htn i (by omega) (fun k ok hk hok hkt => by
        have := only k ok hok hkt
        omega)]
  · have hno : ∀ k ok, ops[k]? = some ok → k ≠ i → ok.dst ≠ some t := fun k ok hk hne hkt => hw ⟨k, ok, hk, hkt, hne⟩
    rw [h.t2 t htn (fun k ok hk hs => hno k ok hk (fun e => hS (by rw [← e]; exact hs))), hR.tm2 hD htn i (by omega) (fun k ok hk hok => hno k ok hok (by omega))]
theorem DInv.opds (hD : DrawOK P n ops ds rst bef) (hR : Run C s0.nx ds σ s0) (h : DInv IR B n ops ds bef σ s0 ι0 w0 dfs S F ι V tmS a w) {i : Nat} {d : DOp} (hi : ds[i]? = some d) (hS : ¬ S i) (hb : ∀ j, bef i j → S j) :
    evList tmS d.g.xs = evList (σ i).tm d.g.xs ∧ wanted tmS d.g.g = wanted (σ i).tm d.g.g := by
  refine ⟨?_, ?_⟩
  · rw [evList_eq, evList_eq]
    apply List.map_congr_left
    intro x hx
    cases x with
    | c v => rfl
    | t t => exact h.reads hD hR hi hS hb (List.mem_append_left _ (List.mem_filterMap.2 ⟨.t t, hx, rfl⟩))
  · cases hg : d.g.g with
    | none => rfl
    | some p =>
      have := h.reads hD hR hi hS hb (t := p.1) (List.mem_append_right _ (by simp [hg]))
      have two : ∀ tm : T AV, wanted tm (some p) = (match (Opd.t p.1).ev tm with | .bool b => (match p.2 with | true => b | false => !b) | _ => false) := by
        intro tm
        simp only [wanted, Opd.ev]
        cases tm.get p.1 <;> rfl
      rw [two, two, this]

/-- Which rows lie there, for an operation that lays none. -/
theorem DInv.row_same (h : DInv IR B n ops ds bef σ s0 ι0 w0 dfs S F ι V tmS a w) {i : Nat} (ha : arow ds σ i = none) (b : Nat) (r : ARow) :
    V.get b = some r ↔ ((σ F).rows.get b = some r ∨ ∃ j, Pend ds σ (fun j => S j ∨ j = i) F j r ∧ b = s0.nx + j) := by
  rw [h.row]
  constructor
  · rintro (h1 | ⟨j, ⟨h1, h2, h3⟩, h4⟩)
    · exact .inl h1
    · exact .inr ⟨j, ⟨.inl h1, h2, h3⟩, h4⟩
  · rintro (h1 | ⟨j, ⟨h1, h2, h3⟩, h4⟩)
    · exact .inl h1
    · rcases h1 with h1 | rfl
      · exact .inr ⟨j, ⟨h1, h2, h3⟩, h4⟩
      · rw [ha] at h2; cases h2

theorem DInv.fr_same (h : DInv IR B n ops ds bef σ s0 ι0 w0 dfs S F ι V tmS a w) {i : Nat} {d : DOp} (hi : ds[i]? = some d) (hc : d.cls ≠ .c) (c : Nat) (dc : DOp) (h1 : ds[c]? = some dc) (h2 : dc.cls = .c) : (S c ∨ c = i) ↔ c < F := by
  rw [← h.fr c dc h1 h2]
  constructor
  · rintro (h3 | rfl)
    · exact h3
    · rw [hi] at h1; cases h1; exact absurd h2 hc
  · exact .inl

theorem DInv.hrel (h : DInv IR B n ops ds bef σ s0 ι0 w0 dfs S F ι V tmS a w) : RLe (σ F).rows V := fun b r e => (h.row b r).2 (.inl e)

theorem DInv.old_unal {ι' : Io} (h : DInv IR B n ops ds bef σ s0 ι0 w0 dfs S F ι V tmS a w) (hold : ∀ b, b < (σ F).nx → ι' b = ι b) (i : Nat) : ∀ j, j < ds.length → ¬ S j → j ≠ i → ι' (s0.nx + j) = none := fun j hj hs _ => by
  rw [hold _ (by have := h.nx; omega)]; exact h.unal j hj hs

theorem Pend.of_none {i j : Nat} {r : ARow} (ha : arow ds σ i = none) (hp : Pend ds σ (fun j => S j ∨ j = i) F j r) : Pend ds σ S F j r := by
  obtain ⟨h1, h2, h3⟩ := hp
  rcases h1 with h1 | rfl
  · exact ⟨h1, h2, h3⟩
  · rw [ha] at h2; cases h2

/-- What is taken up by an operation that may do anything. -/
theorem DInv.acc (hD : DrawOK P n ops ds rst bef) (hR : Run C s0.nx ds σ s0) (h : DInv IR B n ops ds bef σ s0 ι0 w0 dfs S F ι V tmS a w) {i : Nat} {d : DOp} (hi : ds[i]? = some d) (hc : d.cls = .c) (hS : ¬ S i) (hb : ∀ j, bef i j → S j) :
    F ≤ i ∧ (σ i).nx = (σ F).nx ∧ (∀ b r, V.get b = some r ↔ ((account s0.nx (σ i).al (σ i).rows d.acc).get b = some r ∨ ∃ j, Pend ds σ S (i+1) j r ∧ b = s0.nx + j)) ∧
    (∀ j r, Pend ds σ S (i+1) j r → (account s0.nx (σ i).al (σ i).rows d.acc).get (s0.nx + j) = none) ∧ (∀ (c : Nat) (dc : DOp), ds[c]? = some dc → dc.cls = .c → ((S c ∨ c = i) ↔ c < i + 1)) := by
  have hlt := lt_of_get hi
  have hFi : F ≤ i := Nat.le_of_not_lt fun hlt => hS ((h.fr i d hi hc).2 hlt)
  have hbetween : ∀ (c : Nat) (dc : DOp), ds[c]? = some dc → dc.cls = .c → F ≤ c → ¬ c < i := fun c dc h1 h2 h3 h4 => by
    have := hb c (hD.chain c i dc d h1 hi h2 hc h4)
    have := (h.fr c dc h1 h2).1 this
    omega
  obtain ⟨hrows, hnx⟩ := hR.same i hFi (by omega) hbetween
  have hal : ∀ x, x ∈ d.acc → findA x (σ i).al = arow ds σ x ∧ S x := fun x hx => by
    have h1 := (hD.accA i d x hi hx).1
    exact ⟨hR.arow_at hD.id (hD.lt i x h1) (by omega), hb x h1⟩
  have pendF : ∀ x r, x ∈ d.acc → arow ds σ x = some r → Pend ds σ S F x r := fun x r hx hr =>
    ⟨(hal x hx).2, hr, fun c dc h1 h2 h3 => by
      have := hD.accOne c i dc d x h1 hi h3 hx
      omega⟩
  have pendUp : ∀ j r, Pend ds σ S F j r → j ∉ d.acc → Pend ds σ S (i+1) j r := fun j r ⟨h1, h2, h3⟩ hno =>
    ⟨h1, h2, fun c dc g1 g2 g3 => by
      by_cases hcF : c < F
      · exact h3 c dc g1 hcF g3
      · by_cases hci : c = i
        · subst hci; rw [hi] at g1; cases g1; exact hno g3
        · exact hbetween c dc g1 (hD.accA c dc j g1 g3).2 (by omega) (by omega)⟩
  have pendDn : ∀ j r, Pend ds σ S (i+1) j r → Pend ds σ S F j r := fun j r ⟨h1, h2, h3⟩ => ⟨h1, h2, fun c dc g1 g2 => h3 c dc g1 (by omega)⟩
  refine ⟨hFi, hnx, fun b r => ?_, fun j r hp => ?_, fun c dc h1 h2 => ?_⟩
  · rw [account_get]
    constructor
    · intro hv
      by_cases hx : ∃ x r', x ∈ d.acc ∧ b = s0.nx + x ∧ arow ds σ x = some r'
      · obtain ⟨x, r', g1, g2, g3⟩ := hx
        have := (h.row b r').2 (.inr ⟨x, pendF x r' g1 g3, g2⟩)
        rw [hv] at this
        cases this
        exact .inl (.inl ⟨x, g1, g2, by rw [(hal x g1).1]; exact g3⟩)
      · rcases (h.row b r).1 hv with h1 | ⟨j, h1, h2⟩
        · refine .inl (.inr ⟨fun x g1 g2 => ?_, by rw [hrows]; exact h1⟩)
          rw [(hal x g1).1]
          cases hq : arow ds σ x with
          | none => rfl
          | some r' => exact absurd ⟨x, r', g1, g2, hq⟩ hx
        · refine .inr ⟨j, pendUp j r h1 (fun hj => hx ⟨j, r, hj, h2, h1.2.1⟩), h2⟩
    · rintro ((⟨x, g1, g2, g3⟩ | ⟨_, g1⟩) | ⟨j, g1, g2⟩)
      · rw [(hal x g1).1] at g3
        exact (h.row b r).2 (.inr ⟨x, pendF x r g1 g3, g2⟩)
      · rw [hrows] at g1
        exact (h.row b r).2 (.inl g1)
      · exact (h.row b r).2 (.inr ⟨j, pendDn j r g1, g2⟩)
  · have hno : j ∉ d.acc := hp.2.2 i d hi (by omega)
    cases hg : (account s0.nx (σ i).al (σ i).rows d.acc).get (s0.nx + j) with
    | none => rfl
    | some q =>
      rcases (account_get _ _ _).1 hg with ⟨x, g1, g2, g3⟩ | ⟨_, g1⟩
      · have : x = j := by omega
        subst this; exact absurd g1 hno
      · rw [hrows, h.pn j r (pendDn j r hp)] at g1; cases g1
  · constructor
    · rintro (h3 | rfl)
      · have := (h.fr c dc h1 h2).1 h3; omega
      · omega
    · intro h3
      by_cases hci : c = i
      · exact .inr hci
      · exact .inl (hb c (hD.chain c i dc d h1 hi h2 hc (by omega)))

/-- It may be run: it has not been; all that comes before it has. -/
theorem ready_bef (hD : DrawOK P n ops ds rst bef) {listed : Array Bool} {i : Nat} (hclo : ∀ i j, listed.getD i false = true → bef i j → listed.getD j false = true) (hr : i ∈ Region.ready .any ops listed) : ∃ o, ops[i]? = some o ∧ listed.getD i true = false ∧ ∀ j, bef i j → listed.getD j false = true := by
  obtain ⟨h1, o, ho, h2⟩ := mem_ready.1 hr
  refine ⟨o, ho, h1, fun j hj => ?_⟩
  obtain ⟨e, he, hbi, h3⟩ := hD.edge i j o hj ho
  rcases h3 with rfl | h3
  · exact h2 e he hbi
  · exact hclo _ _ (h2 e he hbi) h3
end
end Ev
end

/- A region whose order is open: each operation; the whole. -/
section
namespace Ev
open Go Go.RowKit

section
variable {P : Program} {n : Nat} {ops : Array Oper} {ds : List DOp} {rst : List Nat} {bef : Nat → Nat → Prop} {C : CallF} {σ : Nat → DS} {s0 : St} {IR : Nat → IC → Code → Prop} {B : Base}
variable {ι0 : Io} {w0 : World} {dfs : List Deferred} {S : Nat → Prop} {F : Nat} {ι : Io} {V : T ARow} {tmS : T AV} {a : Act} {w : World}

theorem vput_of {i : Nat} {d : DOp} {v : AV} (hi : ds[i]? = some d) (h : (σ (i+1)).tm = (σ i).tm.set d.g.d (some v)) : vput ds σ i = v := by
  unfold vput
  rw [hi]
  simp only [h]
  rw [ev_set, if_pos rfl]

theorem isCall_cls {k : K} (h : clsK k ≠ .c) : isCallK k = false := by
  cases k <;> first | rfl | exact absurd rfl h

/-- What it reads in memory is the same whenever it is run. -/
theorem DInv.load (hD : DrawOK P n ops ds rst bef) (hR : Run C s0.nx ds σ s0) (h : DInv IR B n ops ds bef σ s0 ι0 w0 dfs S F ι V tmS a w) {i : Nat} {d : DOp} (hi : ds[i]? = some d) (hc : d.cls = .l) (hk : clsK d.g.k = .l) (hS : ¬ S i) (hb : ∀ j, bef i j → S j) {r : R}
    (hw : wanted (σ i).tm d.g.g = true) (he : evK (evList (σ i).tm d.g.xs) (σ i).rows s0.nx C d.g.k = some r) (nx : Nat) : evK (evList (σ i).tm d.g.xs) V nx C d.g.k = some ⟨r.v, V, nx⟩ := by
  have hlt := lt_of_get hi
  obtain ⟨G, g1, g2, g3, g4⟩ := next_chain (ds := ds) (ds.length - F) F rfl h.Fm
  obtain ⟨hGF, _⟩ := hR.same G g1 g2 g4
  obtain ⟨hlo1, hlo2⟩ := hD.lo i d hi hc
  rw [← hD.len] at hlo1
  have hlo : d.lo ≤ G := Nat.le_of_not_lt fun hlt' => by
    rcases g3 with e | ⟨dG, e1, e2⟩
    · omega
    · have := (h.fr G dG e1 e2).1 (hb G (hlo2 G dG e1 e2 hlt'))
      omega
  have hhi : G ≤ d.hi := by
    rcases hD.hi i d hi hc with e | ⟨dc, e1, e2, e3⟩
    · rw [e, ← hD.len]; exact g2
    · have hn : ¬ S d.hi := fun hs => hS (h.clo _ _ hs e3)
      have : ¬ d.hi < F := fun hlt' => hn ((h.fr d.hi dc e1 e2).2 hlt')
      exact Nat.le_of_not_lt fun hlt' => g4 d.hi dc e1 e2 (by omega) hlt'
  cases hchk : d.chk with
  | true =>
    have hent := hR.lg hi hc hchk hw he ds.length hlt (Nat.le_refl _)
    have heps : (G, (σ G).rows) ∈ (ds.length, (σ ds.length).rows) :: (σ ds.length).eps := by
      rcases g3 with e | ⟨dG, e1, e2⟩
      · rw [e]; simp
      · exact List.mem_cons_of_mem _ (hR.eps hD.id e1 e2 ds.length (lt_of_get e1) (Nat.le_refl _))
    have hone := chkLg_some hR.chk _ hent _ heps
    unfold chkOne at hone
    have hin : (Nat.ble d.lo G && Nat.ble G d.hi) = true := by
      rw [ble_nat, ble_nat]; simp [hlo, hhi]
    simp only [hin] at hone
    cases hr : evK (evList (σ i).tm d.g.xs) (σ G).rows 0 C d.g.k with
    | none => rw [hr] at hone; cases hone
    | some r' =>
      rw [hr] at hone
      have hv := sameV_eq hone
      have := (cls_l hk hr).2 V nx C (by rw [hGF]; exact h.hrel)
      rw [this, hv]
  | false =>
    obtain ⟨q1, q2⟩ := hD.nochk i d hi hc hchk G (by rw [← hD.len]; exact g2) (by rw [← hD.len]; exact g3) hlo hhi
    have hsame := (hR.same G (F := i) (by omega) g2 (fun c dc e1 e2 e3 e4 => by
      by_cases hci : c = i
      · subst hci; rw [hi] at e1; cases e1; rw [hc] at e2; cases e2
      · have := q2 c dc e1 e2 (by omega); omega)).1
    exact (cls_l hk he).2 V nx C (by rw [← hsame, hGF]; exact h.hrel)

/-- A row that waits is one's own. -/
theorem arow_ro (hR : Run C s0.nx ds σ s0) (hD : DrawOK P n ops ds rst bef) {j : Nat} {q : ARow} (hj : j < ds.length) (h : arow ds σ j = some q) : q.isRo = false := by
  obtain ⟨d, hd⟩ : ∃ d, ds[j]? = some d := ⟨ds[j], by simp [hj]⟩
  obtain ⟨o', ho', _, hg, hcl, hdd, hgd⟩ := hD.op hd
  rcases evD_cases (hR.step j d hd) with ⟨hw', _⟩ | ⟨_, r, e1, ep, el, ea, ec⟩
  · rw [hR.arow_none hD.id hd (.inr hw')] at h; cases h
  · cases hc : d.cls with
    | a =>
      obtain ⟨row, e2, er, _, _, eal, _⟩ := ea hc
      rw [hD.id j d hd] at e2 er eal
      have hk : clsK d.g.k = .a := by rw [← hcl]; exact hc
      have ha : arow ds σ j = some row := by
        rw [← hR.arow_at hD.id (k := j+1) (by omega) (by omega), eal]
        show (Bool.rec (findA j (σ j).al) (some row) (Nat.beq j j) : Option ARow) = _
        rw [beq_nat, decide_eq_true rfl]
      obtain ⟨row', g1, g2, g3⟩ := cls_a hk e2
      have hrow : row' = row := by
        rw [g1] at er
        simp only [T.get_set, if_true, Option.some.injEq] at er
        exact er
      subst hrow
      rw [ha] at h; cases h
      exact g3
    | p => rw [hR.arow_none hD.id hd (.inl (by rw [hc]; simp))] at h; cases h
    | l => rw [hR.arow_none hD.id hd (.inl (by rw [hc]; simp))] at h; cases h
    | c => rw [hR.arow_none hD.id hd (.inl (by rw [hc]; simp))] at h; cases h

/-- One operation of the region. -/
theorem draw_op {Q : Exit → Act → World → Prop} {ro : Option Nat} (hC : CallOK IR B P C) (hfr0 : ∀ b, s0.nx ≤ b → ι0 b = none) (hD : DrawOK P n ops ds rst bef) (hR : Run C s0.nx ds σ s0) (h : DInv IR B n ops ds bef σ s0 ι0 w0 dfs S F ι V tmS a w) {i : Nat} {d : DOp} {o : Oper}
    (hi : ds[i]? = some d) (ho : ops[i]? = some o) (hS : ¬ S i) (hb : ∀ j, bef i j → S j) {K : Act → World → Prop}
    (hK : ∀ F' ι' V' tm' a' w', DInv IR B n ops ds bef σ s0 ι0 w0 dfs (fun j => S j ∨ j = i) F' ι' V' tm' a' w' → K a' w') : wpOpIn (fence ro) 0 P ops Q i K a w := by
  have hlt := lt_of_get hi
  have hfr : ∀ b, (σ F).nx ≤ b → ι b = none := post_fresh h.post hfr0
  obtain ⟨o', ho', _, hg, hcl, hdd, hgd⟩ := hD.op hi
  rw [ho] at ho'; cases ho'
  obtain ⟨hvs, hwant⟩ := h.opds hD hR hi hS hb
  unfold wpOpIn
  simp only [ho]
  -- it is not wanted
  have unwanted : wanted (σ i).tm d.g.g = false → (∀ f, o.about P w a.eval = some f → (fence ro).fn f) ∧ K (a.put o.dst undef) w := by
    intro hw
    refine ⟨fun f _ => fence_fn ro f, ?_⟩
    rcases evD_cases (hR.step i d hi) with ⟨_, e1, e2, _, _, e5, e6⟩ | ⟨hw', _⟩
    · have hv := vput_of hi e1
      have ha := hR.arow_none hD.id hi (.inr hw)
      by_cases hc : d.cls = .c
      · obtain ⟨q1, q2, q3, q4, q5⟩ := h.acc hD hR hi hc hS hb
        obtain ⟨e7, _⟩ := e5 hc
        refine hK (i+1) ι V _ _ w (h.step hD hi ho hS hb (.refl _) (by rw [hv]; exact .undef) q5 (by omega) (fun b r => ?_) (by rw [e2, q2]; exact h.post) (by rw [e2, q2]; exact h.nx) (fun j hj hs _ => h.unal j hj hs) (fun j r hp => ?_))
        · rw [e7, q3]
          constructor
          · rintro (g | ⟨j, ⟨g1, g2, g3⟩, g4⟩)
            · exact .inl g
            · exact .inr ⟨j, ⟨.inl g1, g2, g3⟩, g4⟩
          · rintro (g | ⟨j, g1, g4⟩)
            · exact .inl g
            · exact .inr ⟨j, g1.of_none ha, g4⟩
        · rw [e7]; exact q4 j r (hp.of_none ha)
      · exact hK F ι V _ _ w (h.step hD hi ho hS hb (.refl _) (by rw [hv]; exact .undef) (h.fr_same hi hc) h.Fm (h.row_same ha) h.post h.nx (fun j hj hs _ => h.unal j hj hs) (fun j r hp => h.pn j r (hp.of_none ha)))
    · rw [hw] at hw'; cases hw'
  rcases compG_cases (P := P) hgd with ⟨g, k, xs, ys, h1, h2, h3, h4⟩ | ⟨g, h1, h4⟩
  · have hgg : d.g.g = g := by rw [hg, h4]
    have hgk : d.g.k = k := by rw [hg, h4]
    have hgx : d.g.xs = ys := by rw [hg, h4]
    have hgdd : d.g.d = o.dst.getD n := hdd
    have hwt : Region.wanted o (yielded ops a.tmps) = wanted (σ i).tm d.g.g := by
      rw [wanted_ok h1 h.sz h.tm, ← hgg, hwant]
    rw [hwt]
    cases hw : wanted (σ i).tm d.g.g with
    | false => simpa using unwanted hw
    | true =>
      simp only [if_true]
      rcases evD_cases (hR.step i d hi) with ⟨hw', _⟩ | ⟨_, r, e1, ep, el, ea, ec⟩
      · rw [hw] at hw'; cases hw'
      · have hv := vput_of hi e1
        cases hc : d.cls with
        | p =>
          obtain ⟨e2, _⟩ := ep hc
          have hk : clsK d.g.k = .p := by rw [← hcl]; exact hc
          have ha := hR.arow_none hD.id hi (.inl (by rw [hc]; simp))
          have e3 := ((cls_p hk (evList (σ i).tm d.g.xs) C).get e2).2 V (σ F).nx
          rw [← hvs, hgx, hgk] at e3
          refine op_run (rows := V) (nx := (σ F).nx) hC h2 h3 h.sz h.tm h.post.hrel (hfr _ (Nat.le_refl _)) (fun _ => hfr) e3 fun ι' u w' hu hp => ?_
          exact hK F ι' V _ _ w' (h.step hD hi ho hS hb hp.ext (by rw [hv]; exact hu) (h.fr_same hi (by rw [hc]; simp)) h.Fm (h.row_same ha) (h.post.trans hp) h.nx (h.old_unal hp.old i) (fun j r hp => h.pn j r (hp.of_none ha)))
        | l =>
          obtain ⟨e2, _⟩ := el hc
          have hk : clsK d.g.k = .l := by rw [← hcl]; exact hc
          have ha := hR.arow_none hD.id hi (.inl (by rw [hc]; simp))
          have e3 := h.load hD hR hi hc hk hS hb hw e2 (σ F).nx
          rw [← hvs, hgx, hgk] at e3
          refine op_run (rows := V) (nx := (σ F).nx) hC h2 h3 h.sz h.tm h.post.hrel (hfr _ (Nat.le_refl _)) (fun _ => hfr) e3 fun ι' u w' hu hp => ?_
          exact hK F ι' V _ _ w' (h.step hD hi ho hS hb hp.ext (by rw [hv]; exact hu) (h.fr_same hi (by rw [hc]; simp)) h.Fm (h.row_same ha) (h.post.trans hp) h.nx (h.old_unal hp.old i) (fun j r hp => h.pn j r (hp.of_none ha)))
        | a =>
          obtain ⟨row, e2, er, _, _, eal, _⟩ := ea hc
          rw [hD.id i d hi] at e2 er eal
          have hk : clsK d.g.k = .a := by rw [← hcl]; exact hc
          have ha : arow ds σ i = some row := by
            rw [← hR.arow_at hD.id (k := i+1) (by omega) (by omega), eal]
            show (Bool.rec (findA i (σ i).al) (some row) (Nat.beq i i) : Option ARow) = _
            rw [beq_nat, decide_eq_true rfl]
          obtain ⟨row', g1, g2, _⟩ := cls_a hk e2
          have hrow : row' = row := by
            rw [g1] at er
            simp only [T.get_set, if_true, Option.some.injEq] at er
            exact er
          subst hrow
          have e3 := g2 V
          rw [← hvs, hgx, hgk] at e3
          have hni : ι (s0.nx + i) = none := h.unal i hlt hS
          have hnoF : (σ F).rows.get (s0.nx + i) = none := by
            cases hq : (σ F).rows.get (s0.nx + i) with
            | none => rfl
            | some q =>
              obtain ⟨L, _, e, _⟩ := h.post.hrel.row _ _ (h.hrel _ _ hq)
              rw [hni] at e; cases e
          have hFno : ∀ (c : Nat) (dc : DOp), ds[c]? = some dc → c < F → i ∉ dc.acc := fun c dc q1 q2 q3 => by
            obtain ⟨q4, q5⟩ := hD.accA c dc i q1 q3
            exact hS (h.clo c i ((h.fr c dc q1 q5).2 q2) q4)
          have hnx := h.nx
          refine op_run (rows := V) (nx := s0.nx + i) hC h2 h3 h.sz h.tm h.post.hrel hni (fun hcall => by
            rw [isCall_cls (by rw [← hgk, hk]; simp)] at hcall; cases hcall) e3 fun ι' u w' hu hp => ?_
          refine hK F ι' (V.set (s0.nx + i) (some row')) _ _ w' (h.step hD hi ho hS hb hp.ext (by rw [hv]; exact hu) (h.fr_same hi (by rw [hc]; simp)) h.Fm (fun b q => ?_) (h.post.then hp (by omega) (by omega) (by show s0.nx + i + 1 ≤ _; omega) (Nat.le_refl _)) h.nx (fun j hj hs hne => ?_) (fun j q hp => ?_))
          · rw [T.get_set]
            by_cases hbi : b = s0.nx + i
            · rw [if_pos hbi]
              constructor
              · intro e
                exact .inr ⟨i, ⟨.inr rfl, by rw [ha]; exact e, hFno⟩, hbi⟩
              · rintro (e | ⟨j, ⟨_, q2, _⟩, q4⟩)
                · rw [hbi, hnoF] at e; cases e
                · have : j = i := by omega
                  subst this
                  rw [ha] at q2; exact q2
            · rw [if_neg hbi, h.row]
              constructor
              · rintro (e | ⟨j, ⟨q1, q2, q3⟩, q4⟩)
                · exact .inl e
                · exact .inr ⟨j, ⟨.inl q1, q2, q3⟩, q4⟩
              · rintro (e | ⟨j, ⟨q1, q2, q3⟩, q4⟩)
                · exact .inl e
                · rcases q1 with q1 | rfl
                  · exact .inr ⟨j, ⟨q1, q2, q3⟩, q4⟩
                  · exact absurd q4 hbi
          · by_cases hji : j < i
            · rw [hp.old _ (by omega)]; exact h.unal j hj hs
            · rw [hp.new _ (by omega) (by show s0.nx + i + 1 ≤ _; omega)]; exact h.unal j hj hs
          · obtain ⟨q1, q2, q3⟩ := hp
            rcases q1 with q1 | rfl
            · exact h.pn j q ⟨q1, q2, q3⟩
            · exact hnoF
        | c =>
          obtain ⟨e2, e3, e4, _⟩ := ec hc
          have ha := hR.arow_none hD.id hi (.inl (by rw [hc]; simp))
          obtain ⟨q1, q2, q3, q4, q5⟩ := h.acc hD hR hi hc hS hb
          have hsub : RLe (account s0.nx (σ i).al (σ i).rows d.acc) V := fun b q e => (q3 b q).2 (.inl e)
          have e5 := e2
          rw [← hvs, hgx, hgk, q2] at e5
          refine op_run (rows := account s0.nx (σ i).al (σ i).rows d.acc) (nx := (σ F).nx) hC h2 h3 h.sz h.tm (h.post.hrel.sub hsub) (hfr _ (Nat.le_refl _)) (fun _ => hfr) e5 fun ι' u w' hu hp => ?_
          obtain ⟨V', p1, p2, p3⟩ := Post.merge ((List.range ds.length).map (s0.nx + ·)) h.post.hrel hsub (fun b q g1 g2 => by
            rcases (q3 b q).1 g1 with g3 | ⟨j, g3, g4⟩
            · rw [g2] at g3; cases g3
            · exact ⟨List.mem_map.2 ⟨j, List.mem_range.2 (h.lt j g3.1), g4.symm⟩, arow_ro hR hD (h.lt j g3.1) g3.2.1⟩) hp
          refine hK (i+1) ι' V' _ _ w' (h.step hD hi ho hS hb hp.ext (by rw [hv]; exact hu) q5 (by omega) (fun b q => ?_) (by rw [e4]; exact h.post.trans p2) (by rw [e4]; exact Nat.le_trans h.nx hp.le) (h.old_unal hp.old i) (fun j q hpd => ?_))
          · rw [p1, e3]
            constructor
            · rintro (g | ⟨g1, g2⟩)
              · exact .inl g
              · rcases (q3 b q).1 g1 with g3 | ⟨j, ⟨k1, k2, k3⟩, g4⟩
                · rw [g2] at g3; cases g3
                · exact .inr ⟨j, ⟨.inl k1, k2, k3⟩, g4⟩
            · rintro (g | ⟨j, g1, g4⟩)
              · exact .inl g
              · have g5 := g1.of_none ha
                refine .inr ⟨(q3 b q).2 (.inr ⟨j, g5, g4⟩), ?_⟩
                rw [g4]; exact q4 j q g5
          · have g5 := hpd.of_none ha
            rw [e3]
            exact p3 _ q ((q3 _ q).2 (.inr ⟨j, g5, rfl⟩)) (q4 j q g5)
  · have hgg : d.g.g = g := by rw [hg, h4]
    have hgk : d.g.k = .bad := by rw [hg, h4]
    have hwt : Region.wanted o (yielded ops a.tmps) = wanted (σ i).tm d.g.g := by
      rw [wanted_ok h1 h.sz h.tm, ← hgg, hwant]
    rw [hwt]
    cases hw : wanted (σ i).tm d.g.g with
    | false => simpa using unwanted hw
    | true =>
      exfalso
      rcases evD_cases (hR.step i d hi) with ⟨hw', _⟩ | ⟨_, r, e1, ep, _⟩
      · rw [hw] at hw'; cases hw'
      · obtain ⟨e2, _⟩ := ep (by rw [hcl, hgk]; rfl)
        rw [hgk] at e2; cases e2
end
end Ev
end

/- A region whose order is open: the whole. -/
section
namespace Ev
open Go Go.RowKit

theorem filter_less {α : Type} {p q : α → Bool} : ∀ {l : List α}, (∀ x ∈ l, q x = true → p x = true) → (∃ x ∈ l, p x = true ∧ q x = false) → (l.filter q).length < (l.filter p).length
  | [], _, h => by obtain ⟨x, hx, _⟩ := h; cases hx
  | a :: l, h1, h2 => by
    have mono : ∀ {l : List α}, (∀ x ∈ l, q x = true → p x = true) → (l.filter q).length ≤ (l.filter p).length := by
      intro l
      induction l with
      | nil => intro _; exact Nat.le_refl _
      | cons b l ih =>
        intro h
        have h3 := ih (fun x hx => h x (List.mem_cons_of_mem _ hx))
        have h4 := h b (by simp)
        rw [List.filter_cons, List.filter_cons]
        cases hq : q b with
        | false => cases p b <;> simp <;> omega
        | true => rw [h4 hq]; simp; omega
    have hl := h1 a (by simp)
    have hm := mono (fun x hx => h1 x (List.mem_cons_of_mem _ hx))
    rw [List.filter_cons, List.filter_cons]
    obtain ⟨x, hx, hp, hq⟩ := h2
    rcases List.mem_cons.1 hx with rfl | hx
    · rw [hp, hq]; simp; omega
    · have ih := filter_less (fun x hx => h1 x (List.mem_cons_of_mem _ hx)) ⟨x, hx, hp, hq⟩
      cases hqa : q a with
      | false => cases p a <;> simp <;> omega
      | true => rw [hl hqa]; simp; omega

section
variable {P : Program} {n : Nat} {ops : Array Oper} {ds : List DOp} {rst : List Nat} {bef : Nat → Nat → Prop} {C : CallF} {σ : Nat → DS} {s0 : St} {IR : Nat → IC → Code → Prop} {B : Base}
variable {ι0 : Io} {w0 : World} {dfs : List Deferred} {F : Nat} {ι : Io} {V : T ARow} {tmS : T AV} {a : Act} {w : World}

def Listed (listed : Array Bool) (i : Nat) : Prop := listed.getD i false = true

theorem getD_tf {listed : Array Bool} {i : Nat} (h : listed.getD i true = false) : i < listed.size ∧ ¬ Listed listed i := by
  unfold Listed
  rw [Array.getD_eq_getD_getElem?] at h ⊢
  cases hi : listed[i]? with
  | none => rw [hi] at h; simp at h
  | some b =>
    rw [hi] at h
    simp at h
    exact ⟨(Array.getElem?_eq_some_iff.1 hi).1, by simp [h]⟩
theorem listed_set {listed : Array Bool} {i : Nat} (hi : i < listed.size) (j : Nat) : Listed (listed.setIfInBounds i true) j ↔ (Listed listed j ∨ j = i) := by
  unfold Listed
  rw [Array.getD_eq_getD_getElem?, Array.getD_eq_getD_getElem?]
  by_cases h : j = i
  · subst h; simp [hi]
  · rw [Array.getElem?_setIfInBounds_ne (Ne.symm h)]; simp [h]

theorem DInv.congr {S S' : Nat → Prop} (h : DInv IR B n ops ds bef σ s0 ι0 w0 dfs S F ι V tmS a w) (hs : ∀ j, S' j ↔ S j) : DInv IR B n ops ds bef σ s0 ι0 w0 dfs S' F ι V tmS a w := by
  have : S' = S := funext fun j => propext (hs j)
  rw [this]; exact h

theorem draw_any {Q : Exit → Act → World → Prop} {ro : Option Nat} (hC : CallOK IR B P C) (hfr0 : ∀ b, s0.nx ≤ b → ι0 b = none) (hD : DrawOK P n ops ds rst bef) (hR : Run C s0.nx ds σ s0)
    (hQ : ∀ F ι V tm a w, DInv IR B n ops ds bef σ s0 ι0 w0 dfs (fun i => i < ds.length) F ι V tm a w → Q .normal a w) :
    ∀ (fuel : Nat) (listed : Array Bool) {F : Nat} {ι : Io} {V : T ARow} {tmS : T AV} {a : Act} {w : World}, listed.size = ops.size → ((List.range ops.size).filter fun i => !listed.getD i true).length ≤ fuel → DInv IR B n ops ds bef σ s0 ι0 w0 dfs (Listed listed) F ι V tmS a w →
      wpAnyIn (fence ro) 0 P .any ops Q fuel listed a w := by
  intro fuel
  have hlen := hD.len
  -- when none is ready, all have been run
  have done : ∀ (listed : Array Bool) {F : Nat} {ι : Io} {V : T ARow} {tmS : T AV} {a : Act} {w : World}, listed.size = ops.size → DInv IR B n ops ds bef σ s0 ι0 w0 dfs (Listed listed) F ι V tmS a w → Region.ready .any ops listed = [] → Q .normal a w := by
    intro listed F ι V tmS a w hsz h hr
    have all : ∀ i, i < ops.size → Listed listed i := by
      intro i
      induction i using Nat.strongRecOn with
      | _ i ih =>
        intro hi
        refine Classical.byContradiction fun hn => ?_
        have hmem : i ∈ Region.ready .any ops listed := by
          refine mem_ready.2 ⟨?_, ops[i], by simp [hi], fun e he hb => ?_⟩
          · unfold Listed at hn
            rw [Array.getD_eq_getD_getElem?] at hn ⊢
            rw [Array.getElem?_eq_getElem (by omega)] at hn ⊢
            simpa using hn
          · have := hD.edgeLt i ops[i] e (by simp [hi]) he hb
            exact ih e.on this (by omega)
        rw [hr] at hmem; cases hmem
    exact hQ F ι V tmS a w (h.congr fun j => ⟨fun hj => all j (by omega), fun hj => h.lt j hj⟩)
  induction fuel with
  | zero =>
    intro listed F ι V tmS a w hsz hcnt h
    have hr : Region.ready .any ops listed = [] := by
      cases hq : Region.ready .any ops listed with
      | nil => rfl
      | cons x xs =>
        exfalso
        have hx : x ∈ Region.ready .any ops listed := by rw [hq]; simp
        obtain ⟨h1, o, ho, _⟩ := mem_ready.1 hx
        have hlt : x < ops.size := (Array.getElem?_eq_some_iff.1 ho).1
        have : x ∈ (List.range ops.size).filter fun i => !listed.getD i true := List.mem_filter.2 ⟨List.mem_range.2 hlt, by rw [h1]; rfl⟩
        have := List.length_pos_of_mem this
        omega
    exact ⟨hr, done listed hsz h hr⟩
  | succ fuel ih =>
    intro listed F ι V tmS a w hsz hcnt h
    refine ⟨done listed hsz h, fun i hi => ?_⟩
    obtain ⟨o, ho, hno, hbef⟩ := ready_bef hD (listed := listed) (fun i j h1 h2 => h.clo i j h1 h2) hi
    obtain ⟨hisz, hnl⟩ := getD_tf hno
    have hlt : i < ops.size := (Array.getElem?_eq_some_iff.1 ho).1
    obtain ⟨d, hd⟩ : ∃ d, ds[i]? = some d := ⟨ds[i], by simp [show i < ds.length by omega]⟩
    refine draw_op hC hfr0 hD hR h hd ho hnl hbef fun F' ι' V' tm' a' w' h' => ?_
    refine ih (listed.setIfInBounds i true) (by simpa using hsz) ?_ (h'.congr (listed_set hisz))
    have : ((List.range ops.size).filter fun j => !(listed.setIfInBounds i true).getD j true).length < ((List.range ops.size).filter fun j => !listed.getD j true).length := by
      refine filter_less (fun j hj hq => ?_) ⟨i, List.mem_range.2 hlt, by rw [hno]; rfl, ?_⟩
      · by_cases hji : j = i
        · subst hji; rw [hno]; rfl
        · have : (listed.setIfInBounds i true).getD j true = listed.getD j true := by
            rw [Array.getD_eq_getD_getElem?, Array.getD_eq_getD_getElem?, Array.getElem?_setIfInBounds_ne (Ne.symm hji)]
          rwa [this] at hq
      · rw [Array.getD_eq_getD_getElem?]; simp [hisz]
    omega

theorem runs_draw {E id : Nat} {ro : Option Nat} (hm : P.follows .mixedOrders = true) (hC : CallOK IR B P C) (hD : DrawOK P n ops ds rst bef) :
    RunsAs IR B P E n ro (fun s => bo (evDraw C ops.size ds rst s) fun s => some ⟨.normal, s⟩) (.region id ops true) := by
  intro s x ι a w Q he hf hE hgo
  obtain ⟨s1, h1, h2⟩ := bo_some.1 he
  simp only [Option.some.injEq] at h2
  subst h2
  obtain ⟨t, h3, h4⟩ := bo_some.1 h1
  obtain ⟨h5, h6⟩ := gd_some.1 h4
  simp only [Option.some.injEq] at h6
  subst h6
  obtain ⟨σ, g1, g2, g3⟩ := trace h3
  have hlen := hD.len
  have hR : Run C s.nx ds σ s := ⟨by rw [g1, hlen]; rfl, g3, by rw [g2, hlen]; exact h5⟩
  refine wpIn_region_any hm ?_
  refine draw_any (F := 0) (ι := ι) (V := s.rows) (tmS := s.tm) (ι0 := ι) (w0 := w) (dfs := a.defers) hC hf.fr hD hR (fun F ι' V tm a' w' h => ?_) ops.size (Array.replicate ops.size false) (by simp) ?_ ?_
  · -- all have been run
    have hFm := h.Fm
    have hno : ∀ (c : Nat) (dc : DOp), ds[c]? = some dc → dc.cls = .c → F ≤ c → ¬ c < ds.length := fun c dc e1 e2 e3 e4 => by
      have := (h.fr c dc e1 e2).1 e4
      omega
    obtain ⟨hrows, hnx⟩ := hR.same ds.length hFm (Nat.le_refl _) hno
    rw [g2] at hrows hnx
    have hV : ∀ b r, (account s.nx t.al t.rows rst).get b = some r ↔ V.get b = some r := by
      intro b r
      rw [account_get, h.row]
      have hal : ∀ i, findA i t.al = arow ds σ i := fun i => by unfold arow; rw [g2]
      constructor
      · rintro (⟨i, q1, q2, q3⟩ | ⟨_, q1⟩)
        · rw [hal] at q3
          refine .inr ⟨i, ⟨?_, q3, fun c dc e1 _ e2 => hD.restNo i c dc q1 e1 e2⟩, q2⟩
          refine Classical.byContradiction fun hge => ?_
          have := hR.al0 hD.id i ds.length (Nat.le_of_not_lt hge) (Nat.le_refl _)
          unfold arow at q3
          rw [this] at q3; cases q3
        · rw [hrows] at q1; exact .inl q1
      · rintro (q1 | ⟨i, ⟨q1, q2, q3⟩, q4⟩)
        · refine .inr ⟨fun i e1 e2 => ?_, by rw [hrows]; exact q1⟩
          rw [hal]
          cases hq : arow ds σ i with
          | none => rfl
          | some r' =>
            exfalso
            have hi : i < ds.length := Classical.byContradiction fun hge => by
              have := hR.al0 hD.id i ds.length (Nat.le_of_not_lt hge) (Nat.le_refl _)
              unfold arow at hq
              rw [this] at hq; cases hq
            have := h.pn i r' ⟨hi, hq, fun c dc e3 _ e4 => hD.restNo i c dc e1 e3 e4⟩
            rw [← e2, q1] at this; cases this
        · refine .inl ⟨i, ?_, q4, by rw [hal]; exact q2⟩
          have hi : i < ds.length := q1
          obtain ⟨d, hd⟩ : ∃ d, ds[i]? = some d := ⟨ds[i], by simp [hi]⟩
          refine hD.rest i d hd ?_ fun c dc e1 e2 => ?_
          · refine Classical.byContradiction fun hc => ?_
            rw [hR.arow_none hD.id hd (.inl hc)] at q2; cases q2
          · by_cases hcF : c < F
            · exact q3 c dc e1 hcF e2
            · exact hno c dc e1 (hD.accA c dc i e1 e2).2 (by omega) (lt_of_get e1)
    have hp : Post IR B ι ι' s.rows w s.nx (account s.nx t.al t.rows rst) t.nx w' := by
      have hp := h.post
      rw [← hnx] at hp
      exact ⟨hp.ext, hp.new, hp.old, hp.le, hp.hrel.sub (fun b r e => (hV b r).1 e), hp.frame, hp.size, fun k ⟨b, r, L, e1, e2, e3⟩ => hp.own k ⟨b, r, L, (hV b r).1 e1, e2, e3⟩⟩
    refine hgo ι' a' w' (hf.next ⟨fun t' ht' => ?_⟩ h.sz h.df hp) hp
    have htn : t' < n := by rw [← h.sz]; exact ht'
    have hrel := h.tm.rel t' ht'
    have : (Opd.t t').ev tm = (Opd.t t').ev t.tm := by
      by_cases hw : ∃ (j : Nat) (oj : Oper), ops[j]? = some oj ∧ oj.dst = some t'
      · obtain ⟨j, oj, e1, e2⟩ := hw
        have hj : j < ds.length := by rw [hlen]; exact (Array.getElem?_eq_some_iff.1 e1).1
        rw [h.t1 j oj t' e1 hj e2 htn, ← g2, hR.tm1 hD e1 e2 htn ds.length hj (Nat.le_refl _)]
      · rw [h.t2 t' htn (fun j oj e1 _ e2 => hw ⟨j, oj, e1, e2⟩), ← g2, hR.tm2 hD htn ds.length (Nat.le_refl _) (fun j oj _ e1 e2 => hw ⟨j, oj, e1, e2⟩)]
    rw [← this]; exact hrel
  · exact Nat.le_trans (List.length_filter_le _ _) (by simp)
  · have none : ∀ i, ¬ Listed (Array.replicate ops.size false) i := by
      intro i hi
      unfold Listed at hi
      rw [Array.getD_eq_getD_getElem?, Array.getElem?_replicate] at hi
      split at hi <;> simp at hi
    have hb : Below B.n w { w with drawn := w.drawn + 1 } := below_drew w _
    have hp := Post.of_below (nx := s.nx) (ι := ι) (rows := s.rows) hf.h (w' := { w with drawn := w.drawn + 1 }) rfl hb
    have hi : (σ 0).nx = s.nx + ds.length := by rw [hR.init]
    have hrw : (σ 0).rows = s.rows := by rw [hR.init]
    refine ⟨fun i _ h => absurd h (none i), fun c dc _ _ => ⟨fun h => absurd h (none c), fun h => by omega⟩, by omega, fun b r => ?_, ?_, by omega, fun i _ _ => hf.fr _ (by omega), hf.tm, fun j _ _ _ h => absurd h (none j), fun _ _ _ => rfl, hf.sz, rfl, fun i h => absurd h (none i), fun j r h => absurd h.1 (none j)⟩
    · rw [hrw]
      exact ⟨.inl, fun h => h.resolve_right fun ⟨j, h, _⟩ => none j h.1⟩
    · rw [hi]
      exact ⟨hp.ext, fun _ _ _ => rfl, hp.old, by omega, hp.hrel, hp.frame, hp.size, hp.own⟩
end
end Ev
end
