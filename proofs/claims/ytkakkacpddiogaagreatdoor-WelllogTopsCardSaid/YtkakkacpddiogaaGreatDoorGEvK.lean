/- From the loaded Code to the evaluator's code. -/
import Derived.Test.YtkakkacpddiogaaGreatDoorGEvA
import GoSem.ClaimKeys
import Derived.Lib.FrozenHead
import Derived.Laws.Strings
import Derived.Laws.StructEq
import Derived.DeepKeys3
import Derived.Lib.Strings

set_option linter.unusedSimpArgs false
set_option linter.unusedVariables false
section
namespace Ev
open Go

mutual
/-- A constant that holds no address. -/
def cv : Nat → Value → Option AV
  | 0, _ => none
  | n+1, v => match v with
    | .bool b => some (.bool b)
    | .int k i => some (.int k i)
    | .string s => some (.str s.data.toList)
    | .pointer a => match a with | none => some (.nil .ptr) | some _ => none
    | .slice a l c => match a with | none => gd (Nat.beq l 0 && Nat.beq c 0) (some (.nil .slice)) | some _ => none
    | .map a => match a with | none => some (.nil .map) | some _ => none
    | .nilFunc => some (.nil .fn)
    | .nilIface => some (.nil .iface)
    | .agg cs => bo (cvL n cs.toList) fun l => gd (cs.toList.all (fun v => match v with | .agg _ => false | .tuple _ => false | _ => true)) (some (.agg l))
    | .tuple vs => bo (cvL n vs.toList) fun l => some (match l with | [] => .undef | l => .tup l)
    | .func fn fs cs => match fn with
      | .func f => gd (fs.isEmpty && cs.isEmpty) (some (.fn f []))
      | _ => none
    | _ => none
def cvL : Nat → List Value → Option (List AV)
  | 0, _ => none
  | n+1, l => match l with
    | [] => some []
    | v :: vs => bo (cv n v) fun a => bo (cvL n vs) fun r => some (a :: r)
end

/-- A list out of a list of answers. -/
def allSome {α} : List (Option α) → Option (List α)
  | [] => some []
  | a :: l => bo a fun a => bo (allSome l) fun r => some (a :: r)

def cOpd (n : Nat) (x : Operand) : Option Opd := match x with
  | .tmp t => gd (Nat.blt t n) (some (.t t))
  | .const v => bo (cv 5000 v) fun a => some (.c a)
  | .global _ => none
  | .func f => some (.c (.fn f []))

/-- How a value of a type lies. -/
def kdOf (P : Program) (t : TypeId) : Option Kd := match P.underlying t with
  | some d => match d with
    | .struct _ => some (.many (P.cellsOf t))
    | .array _ _ => some (.many (P.cellsOf t))
    | _ => some .one
  | none => none

/-- .. and is as wide as its type. -/
def kdW (P : Program) (t : TypeId) : Option Kd := bo (kdOf P t) fun k => gd (Nat.beq k.width (P.cellsOf t)) (some k)

def zeroV (P : Program) (t : TypeId) : Option Value := bo (P.info? t) fun i => i.zero
def zeroA (P : Program) (t : TypeId) : Option AV := bo (zeroV P t) fun v => cv 5000 v

/-- The zero value is as wide as its type, and of cells. -/
def zeroFits (P : Program) (t : TypeId) : Bool := match zeroV P t with
  | some z => Nat.beq z.cells.size (P.cellsOf t) && z.cells.toList.all (fun v => match v with | .agg _ => false | .tuple _ => false | _ => true)
  | none => false

def skOf (P : Program) (t : TypeId) : Option SK := match P.underlying t with
  | some d => match d with
    | .bool => some .bool
    | .int q => some (.int q)
    | .string => some .str
    | _ => none
  | none => none

/-- The cells of a type of integers, bools and strings alone, in structs and arrays. -/
def shapeOf (P : Program) : Nat → TypeId → Option (List SK)
  | 0, _ => none
  | n+1, t => match P.underlying t with
    | some d => match d with
      | .bool => some [.bool]
      | .int q => some [.int q]
      | .string => some [.str]
      | .struct fs => bo (allSome (fs.toList.map fun f => shapeOf P n f.type)) fun l => some l.flatten
      | .array m e => bo (shapeOf P n e) fun s => some (List.replicate m s).flatten
      | _ => none
    | none => none

def runsB (P : Program) : Nat → List Field → Option Nat
  | off, [] => some off
  | off, f :: r => gd (Nat.beq f.offset off) (runsB P (off + P.cellsOf f.type) r)
def tiledB (P : Program) : Nat → TypeId → Bool
  | 0, _ => false
  | m+1, t => match P.underlying t with
    | some d => match d with
      | .bool => Nat.beq (P.cellsOf t) 1
      | .int _ => Nat.beq (P.cellsOf t) 1
      | .string => Nat.beq (P.cellsOf t) 1
      | .array n e => Nat.beq (P.cellsOf t) (n * P.cellsOf e) && tiledB P m e
      | .struct fs => (match runsB P 0 fs.toList with | some k => Nat.beq k (P.cellsOf t) | none => false) && fs.toList.all fun f => tiledB P m f.type
      | _ => false
    | none => false

/-- A struct or an array that may be compared cell by cell. -/
def eqShape (P : Program) (t : TypeId) : Option (List SK) :=
  gd (P.keyTypeAt 20 t && (tiledB P 20 t && !P.eqGuardType P.depth t)) (shapeOf P 20 t)
def isAggT (P : Program) (t : TypeId) : Bool := match P.underlying t with
  | some d => match d with
    | .struct _ => true
    | .array _ _ => true
    | _ => false
  | none => false
def keyShape (P : Program) (t : TypeId) : Option Sh := match isAggT P t with
  | true => bo (eqShape P t) fun l => some ⟨true, l⟩
  | false => bo (skOf P t) fun k => some ⟨false, [k]⟩

def isNilC (x : Operand) : Bool := match x with
  | .const _ => true
  | _ => false

def compNil (op : BinOp) (k : NK) (x y : Operand) : Option (K × List Operand) := match op with
  | .eql => gd (isNilC y) (some (.rare (.binN false k), [x, y]))
  | .neq => gd (isNilC y) (some (.rare (.binN true k), [x, y]))
  | _ => none

def compBin (P : Program) (op : BinOp) (t : TypeId) (x y : Operand) : Option (K × List Operand) := match P.underlying t with
  | some d => match d with
    | .int _ => some (.binI op, [x, y])
    | .string => some (.binS op, [x, y])
    | .bool => match op with
      | .eql => some (.rare (.binB false), [x, y])
      | .neq => some (.rare (.binB true), [x, y])
      | _ => none
    | .struct _ => match op with
      | .eql => bo (eqShape P t) fun sh => some (.rare (.binA false sh), [x, y])
      | .neq => bo (eqShape P t) fun sh => some (.rare (.binA true sh), [x, y])
      | _ => none
    | .array _ _ => match op with
      | .eql => bo (eqShape P t) fun sh => some (.rare (.binA false sh), [x, y])
      | .neq => bo (eqShape P t) fun sh => some (.rare (.binA true sh), [x, y])
      | _ => none
    | .slice _ => compNil op .slice x y
    | .map _ _ => compNil op .map x y
    | .func _ _ _ => compNil op .fn x y
    | .interface _ => compNil op .iface x y
    | .pointer e => match isNilC y with
      | true => compNil op .ptr x y
      | false => match op with
        | .eql => bo (kdOf P e) fun _ => some (.rare (.binP false), [x, y])
        | .neq => bo (kdOf P e) fun _ => some (.rare (.binP true), [x, y])
        | _ => none
    | _ => none
  | none => none

def compSlice (P : Program) (t : TypeId) (x : Operand) (lo hi mx : Option Operand) : Option (K × List Operand) :=
  match P.underlying t with
  | some d => match d with
    | .string => gd mx.isNone (some (.rare (.sliceStr lo.isSome hi.isSome), x :: (lo.toList ++ hi.toList ++ mx.toList)))
    | .slice e => gd ((mx.isNone || hi.isSome) && Nat.blt 0 (P.cellsOf e)) (some (.rare (.sliceSl (P.cellsOf e) lo.isSome hi.isSome mx.isSome), x :: (lo.toList ++ hi.toList ++ mx.toList)))
    | .array n e => gd ((mx.isNone || hi.isSome) && Nat.blt 0 (P.cellsOf e)) (some (.rare (.sliceArr n (P.cellsOf e) lo.isSome hi.isSome mx.isSome), x :: (lo.toList ++ hi.toList ++ mx.toList)))
    | _ => none
  | none => none

def compBuild (P : Program) (t : TypeId) (ps : Array (Nat × Operand)) : Option (K × List Operand) :=
  bo (zeroA P t) fun z => gd (zeroFits P t) (match P.underlying t with
    | some d => match d with
      | .struct fs => gd (fs.toList.all fun f => (P.info? f.type).isSome) (bo (allSome (ps.toList.map fun p => bo fs.toList[p.1]? fun f => bo (kdW P f.type) fun k => some (f.offset, k))) fun offs => some (.build z.cells offs, ps.toList.map (·.2)))
      | .array _ e => bo (kdW P e) fun k => some (.build z.cells (ps.toList.map fun p => (p.1 * P.cellsOf e, k)), ps.toList.map (·.2))
      | _ => none
    | none => none)

def compBuildSlice (P : Program) (t : TypeId) (len : Nat) (ps : Array (Nat × Operand)) : Option (K × List Operand) :=
  match P.underlying t with
    | some d => match d with
      | .slice e => bo (zeroA P e) fun z => bo (kdW P e) fun k => gd (Nat.ble (len * P.cellsOf e) 100000 && (Nat.blt 0 (P.cellsOf e) && zeroFits P e)) (some (.rare (.buildSlice ((List.replicate len z.cells).flatten) len (ps.toList.map fun p => (p.1 * P.cellsOf e, k))), ps.toList.map (·.2)))
      | _ => none
    | none => none

/-- A type that lies in a row of its own like itself. -/
def layB (P : Program) (u : TypeId) : Bool := Nat.blt 0 (P.cellsOf u)

def compBuiltin (P : Program) (b : Builtin) (ts : List TypeId) (args : List Operand) : Option (K × List Operand) := match b with
  | .len => match ts with
    | t :: _ => match P.underlying t with
      | some d => match d with
        | .string => some (.len .str, args)
        | .slice _ => some (.len .sl, args)
        | .map _ _ => some (.len .map, args)
        | .array n _ => gd (Nat.beq args.length 1) (some (.mv, [.const (goInt n)]))
        | .pointer a => match P.underlying a with
          | some e => match e with
            | .array n _ => gd (Nat.beq args.length 1) (some (.mv, [.const (goInt n)]))
            | _ => none
          | none => none
        | _ => none
      | none => none
    | [] => none
  | .cap => match ts with
    | t :: _ => match P.underlying t with
      | some d => match d with
        | .slice _ => some (.rare .cap, args)
        | _ => none
      | none => none
    | [] => none
  | .append => match ts with
    | t :: u :: [] => match P.underlying t with
      | some d => match d with
        | .slice e => match P.underlying u with
          | some k => match k with
            | .slice _ => gd (Nat.blt 0 (P.cellsOf e) && (Nat.blt 0 (P.bytesOf e) && zeroFits P e)) (some (.rare (.append (P.cellsOf e) (P.bytesOf e) (Nat.succ e)), args))
            | .string => gd (Nat.blt 0 (P.cellsOf e) && (Nat.blt 0 (P.bytesOf e) && zeroFits P e)) (some (.rare (.append (P.cellsOf e) (P.bytesOf e) (Nat.succ e)), args))
            | .int _ => bo (zeroA P e) fun z => gd (Nat.blt 0 (P.cellsOf e) && (Nat.blt 0 (P.bytesOf e) && zeroFits P e)) (some (.rare (.appendZ (P.cellsOf e) (P.bytesOf e) (Nat.succ e) z.cells), args))
            | _ => none
          | none => none
        | _ => none
      | none => none
    | _ => none
  | .clear => match ts with
    | t :: _ => match P.underlying t with
      | some d => match d with
        | .slice e => bo (zeroA P e) fun z => gd (Nat.blt 0 (P.cellsOf e) && zeroFits P e) (some (.rare (.clear z.cells), args))
        | _ => none
      | none => none
    | [] => none
  | .unsafeSliceData => gd (Nat.beq args.length 1) (some (.rare .sliceData, args))
  | .unsafeString => match ts with
    | t :: _ :: [] => match P.underlying t with
      | some d => match d with
        | .pointer u => gd (Nat.beq (P.cellsOf u) 1 && Nat.beq args.length 2) (some (.rare (.unString (Nat.succ u)), args))
        | _ => none
      | none => none
    | _ => none
  | .max => gd (Nat.beq args.length 2) (some (.rare .max, args))
  | .min => gd (Nat.beq args.length 2) (some (.rare .min, args))
  | _ => none

def compK (P : Program) (op : Op) : Option (K × List Operand) := match op with
  | .move x => some (.mv, [x])
  | .assign x => some (.mv, [x])
  | .pick c a b => some (.pick, [c, a, b])
  | .alloc t => bo (zeroV P t) fun z => gd (zeroFits P t) (some (.box (Nat.succ t), [.const z]))
  | .box _ x => some (.box 0, [x])
  | .build t ps => compBuild P t ps
  | .buildSlice t len ps => compBuildSlice P t len ps
  | .load t a => bo (kdOf P t) fun k => (match a with
    | .global g => some (.rare (.globLoad g k), [])
    | a => some (.load k, [a]))
  | .store t a x => bo (kdW P t) fun k => some (.store k, [a, x])
  | .nilCheck x => some (.rare .nilCheck, [x])
  | .binOp op t x y _ => compBin P op t x y
  | .unOp op _ x => match op with
    | .neg => some (.rare .neg, [x])
    | .not => some (.not, [x])
    | _ => none
  | .convert src dst x => match P.underlying src with
    | some s => match P.underlying dst with
      | some d => match d with
        | .int k => match s with | .int _ => some (.rare (.conv k), [x]) | _ => none
        | .string => match s with
          | .string => some (.rare .str, [x])
          | .slice e => match P.underlying e with
            | some (.int .u8) => some (.rare .toStr, [x])
            | _ => none
          | _ => none
        | .unsafePointer => match s with
          | .pointer t => bo (kdOf P t) fun _ => gd (Nat.blt 0 (P.cellsOf t)) (some (.rare .unPtr, [x]))
          | _ => none
        | .pointer u => match s with
          | .unsafePointer => bo (kdOf P u) fun _ => gd (layB P u) (some (.rare (.toPtr (Nat.succ u) (P.cellsOf u)), [x]))
          | _ => none
        | .slice e => match s with
          | .string => match P.underlying e with
            | some (.int .u8) => some (.rare .toBytes, [x])
            | _ => none
          | _ => none
        | _ => none
      | none => none
    | none => none
  | .makeInterface t x => match P.underlying t with
    | some d => match d with
      | .interface _ => none
      | _ => some (.rare .iface, [x])
    | none => none
  | .makeFunc fn first caps => match fn with
    | .func f => gd first.isEmpty (some (.rare (.makeFunc f), caps.toList))
    | _ => none
  | .makeMap _ r => match r with
    | none => some (.rare .makeMap, [])
    | some _ => none
  | .makeSlice t l c => match P.underlying t with
    | some d => match d with
      | .slice e => bo (zeroA P e) fun z => gd (Nat.blt 0 (P.cellsOf e) && (Nat.blt 0 (P.bytesOf e) && zeroFits P e)) (some (.rare (.makeSlice z.cells (P.bytesOf e)), [l, c]))
      | _ => none
    | none => none
  | .slice t x lo hi mx => compSlice P t x lo hi mx
  | .fieldAddr t x f => match P.underlying t with
    | some d => match d with
      | .struct fs => bo fs.toList[f]? fun f => gd (Nat.blt 0 (P.cellsOf f.type)) (some (.fieldAddr f.offset, [x]))
      | _ => none
    | none => none
  | .field t x f => match P.underlying t with
    | some d => match d with
      | .struct fs => bo fs.toList[f]? fun f => bo (kdOf P f.type) fun k => some (.rare (.field k f.offset), [x])
      | _ => none
    | none => none
  | .indexAddr t x i => match P.underlying t with
    | some d => match d with
      | .slice e => gd (Nat.blt 0 (P.cellsOf e)) (some (.indexSl (P.cellsOf e), [x, i]))
      | .array n e => gd (Nat.blt 0 (P.cellsOf e)) (match x with
        | .global g => some (.rare (.globAt g n (P.cellsOf e)), [i])
        | x => some (.indexAr n (P.cellsOf e), [x, i]))
      | _ => none
    | none => none
  | .index t x i => match P.underlying t with
    | some d => match d with
      | .string => some (.indexStr, [x, i])
      | .array n e => bo (kdOf P e) fun k => some (.rare (.indexArr n (P.cellsOf e) k), [x, i])
      | _ => none
    | none => none
  | .lookup t m k ok => match P.underlying t with
    | some d => match d with
      | .map kt e => bo (zeroA P e) fun z => bo (keyShape P kt) fun sh => some (.rare (.lookup sh z ok), [m, k])
      | _ => none
    | none => none
  | .mapUpdate t m k x => match P.underlying t with
    | some d => match d with
      | .map kt _ => bo (keyShape P kt) fun sh => some (.rare (.mapUpdate sh), [m, k, x])
      | _ => none
    | none => none
  | .mapEntry t m k => match P.underlying t with
    | some d => match d with
      | .map kt e => bo (zeroA P e) fun z => bo (keyShape P kt) fun sh => some (.rare (.mapEntry sh z), [m, k])
      | _ => none
    | none => none
  | .entryStore t m s x => match P.underlying t with
    | some d => match d with
      | .map _ _ => some (.rare .entryStore, [m, s, x])
      | _ => none
    | none => none
  | .insert t m k x => match P.underlying t with
    | some d => match d with
      | .map kt _ => bo (keyShape P kt) fun sh => some (.rare (.mapUpdate sh), [m, k, x])
      | _ => none
    | none => none
  | .extract x i => some (.extract i, [x])
  | .call c => match c.callee with
    | .value f => match f with
      | .func f => some (.call f, c.args.toList)
      | f => some (.callv, f :: c.args.toList)
    | .builtin b => compBuiltin P b c.argTypes.toList c.args.toList
    | _ => none
  | _ => none

def compGuard (n : Nat) (ops : List Oper) (o : Oper) : Option (Option (Nat × Bool)) := match o.guard with
  | none => some none
  | some q => bo ops[q.1]? fun p => bo p.dst fun t => gd (Nat.blt t n) (some (some (t, q.2)))

def compG? (P : Program) (n : Nat) (ops : List Oper) (o : Oper) : Option GOp :=
  bo (compGuard n ops o) fun g => bo (compK P o.op) fun p => bo (allSome (p.2.map (cOpd n))) fun xs => some ⟨g, o.dst.getD n, p.1, xs⟩
def compBad (n : Nat) (ops : List Oper) (o : Oper) : Option GOp := bo (compGuard n ops o) fun g => some ⟨g, o.dst.getD n, .bad, []⟩
/-- An operation of a function of 'n' temporaries; one that is not taken becomes 'bad' (it must not come up). -/
def compG (P : Program) (n : Nat) (ops : List Oper) (o : Oper) : GOp := match compG? P n ops o with
  | some g => g
  | none => match compBad n ops o with
    | some g => g
    | none => ⟨none, n, .bad, []⟩

end Ev
end

/- What each operation of the evaluator's code comes to in the machine: reads, numbers, texts. -/
section
namespace Ev
open Go Go.RowKit

mutual
theorem cv_rel (ι : Io) : ∀ (n : Nat) {v : Value} {a : AV}, cv n v = some a → VRel ι a v
  | 0, v, a, h => by simp [cv] at h
  | n+1, v, a, h => by
    cases v with
    | bool b => simp [cv] at h; subst h; exact .bool b
    | int k i => simp [cv] at h; subst h; exact .int k i
    | string s => simp [cv] at h; subst h; exact .str s.data.toList
    | pointer p => cases p <;> simp [cv] at h; subst h; exact .nilPtr
    | slice p l c =>
      cases p with
      | some p => simp [cv] at h
      | none =>
        simp only [cv] at h
        obtain ⟨h1, h2⟩ := gd_some.1 h
        simp [beq_nat] at h1 h2
        obtain ⟨rfl, rfl⟩ := h1
        subst h2
        exact .nilSlice
    | map r => cases r <;> simp [cv] at h; subst h; exact .nilMap
    | nilFunc => simp [cv] at h; subst h; exact .nilFn
    | nilIface => simp [cv] at h; subst h; exact .nilIface
    | agg cs =>
      simp only [cv] at h
      obtain ⟨l, hl, h⟩ := bo_some.1 h
      obtain ⟨h1, h2⟩ := gd_some.1 h
      simp at h2
      subst h2
      refine .agg (cvL_rel ι n hl) fun v hv => ?_
      have := List.all_eq_true.1 h1 v hv
      cases v <;> simp_all [Value.oneCell']
    | tuple vs =>
      simp only [cv] at h
      obtain ⟨l, hl, h⟩ := bo_some.1 h
      have hr := cvL_rel ι n hl
      simp at h
      subst h
      cases l with
      | nil =>
        have hlen := hr.length
        obtain ⟨vs⟩ := vs
        cases vs with
        | nil => exact .undef
        | cons v vs => simp at hlen
      | cons a l => exact .tup hr
    | func fn fs cs =>
      cases fn <;> simp only [cv] at h <;> first
        | (obtain ⟨h1, h2⟩ := gd_some.1 h
           simp at h1 h2
           obtain ⟨rfl, rfl⟩ := h1
           subst h2
           exact .fn .nil)
        | cases h
    | _ => simp [cv] at h
theorem cvL_rel (ι : Io) : ∀ (n : Nat) {vs : List Value} {l : List AV}, cvL n vs = some l → VRelL ι l vs
  | 0, vs, l, h => by simp [cvL] at h
  | n+1, [], l, h => by simp [cvL] at h; subst h; exact .nil
  | n+1, v :: vs, l, h => by
    simp only [cvL] at h
    obtain ⟨a, ha, h⟩ := bo_some.1 h
    obtain ⟨r, hr, h⟩ := bo_some.1 h
    simp at h
    subst h
    exact .cons (cv_rel ι n ha) (cvL_rel ι n hr)
end

section
variable {P : Program}
theorem info_of {t : TypeId} {d : TypeDesc} (h : P.underlying t = some d) : ∃ i, P.info? t = some i := by
  unfold Program.underlying at h
  cases e : P.info? t with
  | none => simp [e] at h
  | some i => exact ⟨i, rfl⟩
theorem run_typeInfo {t : TypeId} {i : TypeInfo} (h : P.info? t = some i) (w : World) : (typeInfo t).run P w = .ok i w := by
  unfold typeInfo; simp [Sem.run_bind, h]
theorem run_sizeOf {t : TypeId} {d : TypeDesc} (h : P.underlying t = some d) (w : World) : (Go.sizeOf t).run P w = .ok (P.cellsOf t) w := by
  obtain ⟨i, hi⟩ := info_of h
  unfold Go.sizeOf Program.cellsOf; simp [run_typeInfo hi, hi]
theorem run_zeroValue {t : TypeId} {z : Value} (h : zeroV P t = some z) (w : World) : (zeroValue t).run P w = .ok z w := by
  obtain ⟨i, hi, hz⟩ := bo_some.1 h
  unfold zeroValue; simp [Sem.run_bind, run_typeInfo hi, hz]
def isAggD : TypeDesc → Bool | .struct _ => true | .array _ _ => true | _ => false
theorem run_isAgg {t : TypeId} {d : TypeDesc} (h : P.underlying t = some d) (w : World) : (isAgg t).run P w = .ok (isAggD d) w := by
  unfold isAgg; simp only [Sem.run_bind, run_underlying h, Result.andThen_ok]; cases d <;> rfl
theorem kdOf_some {t : TypeId} {k : Kd} (h : kdOf P t = some k) : ∃ d, P.underlying t = some d ∧ k = (if isAggD d then .many (P.cellsOf t) else .one) := by
  unfold kdOf at h
  cases e : P.underlying t with
  | none => simp [e] at h
  | some d => refine ⟨d, rfl, ?_⟩; cases d <;> simp [e] at h <;> simp [isAggD, h]

/-! ### what comes out -/
variable {IR : Nat → IC → Code → Prop} {B : Base}

def OutOK (IR : Nat → IC → Code → Prop) (B : Base) (P : Program) (ι : Io) (rows : T ARow) (w : World) (nx : Nat) (r : R) : Result Next → Prop
  | .ok (.value v) w' => ∃ ι', VRel ι' r.v v ∧ Post IR B ι ι' rows w nx r.rows r.nx w'
  | .ok .skip w' => ∃ ι', VRel ι' r.v undef ∧ Post IR B ι ι' rows w nx r.rows r.nx w'
  | .ok (.enter f args) w' => w' = w ∧ Calls P f args w fun e w'' => ∃ v ι', e = .returned v ∧ VRel ι' r.v v ∧ Post IR B ι ι' rows w nx r.rows r.nx w''
  | .ok (.round l f tmps a b) w' => w' = w ∧ RoundIn Fence.wide 0 P l f tmps a b w fun e w'' => ∃ v ι', e = .returned v ∧ VRel ι' r.v v ∧ Post IR B ι ι' rows w nx r.rows r.nx w''
  | _ => False

/-- A value, and nothing else. -/
theorem OutOK.val {ι : Io} {rows : T ARow} {w : World} {nx : Nat} {v : AV} {u : Value} (h : HRel IR B ι rows w) (hv : VRel ι v u) {res : Result Next} (hr : res = .ok (.value u) w) :
    OutOK IR B P ι rows w nx ⟨v, rows, nx⟩ res := by
  subst hr; exact ⟨ι, hv, .refl nx h⟩

/-- Reading a row's cells. -/
theorem cell_at {ι : Io} {rows : T ARow} {w : World} (h : HRel IR B ι rows w) {b : Nat} {q : ARow} {l : List AV} (hb : rows.get b = some q) (hq : rdRow q = some l) :
    ∃ L, ι b = some L ∧ ∀ i a, l[i]? = some a → ∃ v, w.cell? ⟨L.blk, L.sh + i, none⟩ = some v ∧ VRel ι a v ∧ v.oneCell' = true := by
  obtain ⟨L, o, h1, h2, h3⟩ := h.row b _ hb
  refine ⟨L, h1, fun i a e => ?_⟩
  cases h3 with
  | cells hz hc hl hf ht =>
    cases hq
    obtain ⟨v, hv, hr, ho⟩ := hc i a e
    exact ⟨v, by simp [World.cell?, h2, hv], hr, ho⟩
  | ro hc hk =>
    cases hq
    obtain ⟨v, hv, hr, ho⟩ := hc i a e
    exact ⟨v, by simp [World.cell?, h2, hv], hr, ho⟩
  | _ => cases hq
theorem addr_add (L : Loc) (o j : Nat) : (L.at o).add j = ⟨L.blk, L.sh + (o + j), none⟩ := by
  unfold Addr.add Loc.at; split
  · simp_all
  · simp [Nat.add_assoc]

/-- A list of cells that reads. -/
theorem run_loadRow {ι : Io} {w : World} {L : Loc} {l : List AV} (hl : ∀ i a, l[i]? = some a → ∃ v, w.cell? ⟨L.blk, L.sh + i, none⟩ = some v ∧ VRel ι a v ∧ v.oneCell' = true) (o n : Nat) (hn : o + n ≤ l.length) :
    ∃ vs : List Value, (loadCells (L.at o) n).run P w = .ok vs.toArray w ∧ VRelL ι ((l.drop o).take n) vs ∧ (∀ v ∈ vs, v.oneCell' = true) ∧ vs.length = n := by
  have key : ∀ (n o : Nat), o + n ≤ l.length → ∃ vs : List Value, (∀ j v, vs[j]? = some v → w.cell? ((L.at o).add j) = some v) ∧ VRelL ι ((l.drop o).take n) vs ∧ (∀ v ∈ vs, v.oneCell' = true) ∧ vs.length = n := by
    intro n
    induction n with
    | zero => intro o _; exact ⟨[], by simp, by simp; exact .nil, by simp, rfl⟩
    | succ n ih =>
      intro o ho
      obtain ⟨v, hv, hr, h1⟩ := hl o l[o] (by simp [List.getElem?_eq_getElem (show o < l.length by omega)])
      obtain ⟨vs, h2, h3, h4, h5⟩ := ih (o+1) (by omega)
      refine ⟨v :: vs, fun j u e => ?_, ?_, fun u hu => ?_, by simp [h5]⟩
      · cases j with
        | zero => simp at e; subst e; rw [addr_add]; exact hv
        | succ j =>
          have := h2 j u (by simpa using e)
          rw [addr_add] at this ⊢
          rw [← this]; congr 2; omega
      · rw [List.drop_eq_getElem_cons (show o < l.length by omega), List.take_succ_cons]
        exact .cons hr h3
      · rcases List.mem_cons.1 hu with rfl | hu
        · exact h1
        · exact h4 u hu
  obtain ⟨vs, h1, h2, h3, h4⟩ := key n o hn
  refine ⟨vs, ?_, h2, h3, h4⟩
  have := run_loadCells_list (P := P) w (L.at o) vs h1
  rwa [h4] at this

theorem kd_load {ι : Io} {rows : T ARow} {w : World} (h : HRel IR B ι rows w) {t : TypeId} {k : Kd} (hk : kdOf P t = some k) {a v : AV} {u : Value} (hl : loadAt rows k a = some v) (ha : VRel ι a u) :
    ∃ x, (Instr.loadAt t u).run P w = .ok x w ∧ VRel ι v x := by
  obtain ⟨b, o, rfl, hl⟩ := asPtr_some.1 hl
  obtain ⟨_, l, hb, hq, hl⟩ := asRead_some.1 hl
  obtain ⟨L, hi, hc⟩ := cell_at h hb hq
  cases ha with
  | ptr hi' =>
    rw [hi] at hi'
    cases hi'
    obtain ⟨d, hd, rfl⟩ := kdOf_some hk
    rw [dropN_eq] at hl
    unfold Instr.loadAt Instr.sureAddr loadVar
    cases hg : isAggD d with
    | false =>
      simp only [hg, Bool.false_eq_true, if_false, kd, getN_eq] at hl
      rw [List.getElem?_drop, Nat.add_zero] at hl
      obtain ⟨x, hx, hr, _⟩ := hc o v hl
      refine ⟨x, ?_, hr⟩
      simp only [Sem.run_bind, Sem.run_pure, Result.andThen_ok, run_isAgg hd, hg, Bool.false_eq_true, if_false]
      show (load _).run P w = _
      simp [Loc.at, hx]
    | true =>
      simp only [hg, if_true, kd] at hl
      obtain ⟨r, hr, e⟩ := bo_some.1 hl
      simp at e
      subst e
      obtain ⟨hn, rfl⟩ := takeN_some.1 hr
      simp only [List.length_drop] at hn
      by_cases hz : P.cellsOf t = 0
      · refine ⟨.agg ⟨[]⟩, ?_, ?_⟩
        · simp only [Sem.run_bind, Sem.run_pure, Result.andThen_ok, run_isAgg hd, hg, if_true, run_sizeOf hd, hz]
          simp [loadCells, loadCellsFrom]
        · rw [hz]; simp; exact .agg .nil (by simp)
      · obtain ⟨vs, h1, h2, h3, _⟩ := run_loadRow (P := P) hc o (P.cellsOf t) (by omega)
        refine ⟨.agg ⟨vs⟩, ?_, .agg h2 h3⟩
        simp only [Sem.run_bind, Sem.run_pure, Result.andThen_ok, run_isAgg hd, hg, if_true, run_sizeOf hd]
        rw [h1]; rfl
end
end Ev
end

/- What each operation of the evaluator's code comes to in the machine: stores, new rows. -/
section
namespace Ev
open Go Go.RowKit

theorem below_setRow {n g : Nat} (w : World) (c : Array Value) (h : n ≤ g) : Below n w (w.setRow g c) :=
  ⟨rfl, rfl, rfl, by simp [World.setRow], fun k hk => setRow_other w g k c (by omega)⟩

section
variable {P : Program}

theorem run_storeRow (g o : Nat) (t : TypeId) (lo hi : Nat) : ∀ (vs : List Value) (i : Nat) (cur : Array Value) (w : World), w.heap[g]? = some (.cells cur t (lo, hi)) → (∀ x, x < cur.size → ¬ (lo ≤ x ∧ x < hi)) →
    o + i + vs.length ≤ cur.size → (∀ v ∈ vs, v.oneCell' = true) →
    (storeCells ⟨g, o, none⟩ vs i).run P w = .ok () (w.setRow g (cur.toList.take (o + i) ++ vs ++ cur.toList.drop (o + i + vs.length)).toArray)
  | [], i, cur, w, hg, _, _, _ => by
    simp only [storeCells, List.append_nil, List.length_nil, Nat.add_zero, List.take_append_drop, Array.toArray_toList]
    rw [setRow_self w g cur t _ hg]
    rfl
  | v :: rest, i, cur, w, hg, hfz, hl, h1 => by
    have hi' : o + i < cur.size := by simp at hl; omega
    have hadd : (⟨g, o, none⟩ : Addr).add i = ⟨g, o + i, none⟩ := by unfold Addr.add; split <;> simp_all
    have hcell : w.cell? ⟨g, o + i, none⟩ = some cur[o + i] := by simp [World.cell?, hg, hi']
    have hfro : w.frozen? ⟨g, o + i, none⟩ = false := by
      have := hfz (o + i) hi'
      simp only [World.frozen?, hg, Bool.and_eq_false_iff, decide_eq_false_iff_not]
      omega
    have hst : (store ((⟨g, o, none⟩ : Addr).add i) v).run P w = .ok () (w.setRow g (cur.setIfInBounds (o + i) v)) := by
      rw [hadd, run_store P w _ v _ (h1 v (by simp)), hcell]
      simp [hfro, setCell_eq_setRow w g (o + i) cur t _ v hg]
    have ih := run_storeRow g o t lo hi rest (i + 1) (cur.setIfInBounds (o + i) v) (w.setRow g (cur.setIfInBounds (o + i) v)) (setRow_heap w g cur _ t _ hg) (by simpa using hfz) (by simp at hl ⊢; omega) (fun x hx => h1 x (by simp [hx]))
    simp only [storeCells, Sem.run_bind, hst, Result.andThen_ok, ih, setRow_setRow]
    congr 3
    have e := list_seg_step cur.toList (o + i) v rest (by simp at hl ⊢; omega)
    simpa [Array.toList_setIfInBounds, Nat.add_assoc] using e

theorem CellsAt.put {ι : Io} {c : Array Value} {sh o : Nat} {l cs : List AV} {vs : List Value} (h : CellsAt ι c sh l) (hv : VRelL ι cs vs) (h1 : ∀ v ∈ vs, v.oneCell' = true) (ho : o + cs.length ≤ l.length) :
    CellsAt ι (c.toList.take (sh + o) ++ vs ++ c.toList.drop (sh + o + vs.length)).toArray sh (l.take o ++ cs ++ l.drop (o + cs.length)) := by
  have hlen := hv.length
  have hsz : ∀ i, i < l.length → sh + i < c.size := fun i hi => by
    obtain ⟨v, hv, _⟩ := h i l[i] (by simp [hi])
    exact (Array.getElem?_eq_some_iff.1 hv).1
  intro i a e
  have hlt : (c.toList.take (sh + o)).length = sh + o ∨ cs = [] := by
    by_cases hz : cs = []
    · exact .inr hz
    · have : 0 < cs.length := List.length_pos_iff.2 hz
      have := hsz o (by omega)
      exact .inl (by simp; omega)
  by_cases hz : cs = []
  · subst hz
    cases hv
    simp at e
    obtain ⟨v, hv, hr⟩ := h i a e
    refine ⟨v, ?_, hr⟩
    simpa using hv
  · have hlt := hlt.resolve_right hz
    by_cases h1' : i < o
    · rw [List.append_assoc, List.getElem?_append_left (by simp; omega), List.getElem?_take_of_lt h1'] at e
      obtain ⟨v, hv, hr⟩ := h i a e
      refine ⟨v, ?_, hr⟩
      have : i < l.length := by omega
      have := hsz i this
      simp only [List.getElem?_toArray, List.append_assoc]
      rw [List.getElem?_append_left (by omega), List.getElem?_take_of_lt (by omega)]
      simpa using hv
    · by_cases h2 : i < o + cs.length
      · rw [List.append_assoc, List.getElem?_append_right (by simp; omega), List.getElem?_append_left (by simp; omega)] at e
        have e' : cs[i - o]? = some a := by
          rw [← e]; congr 1; simp; omega
        obtain ⟨v, hv', hr⟩ := hv.get e'
        refine ⟨v, ?_, hr, h1 v (List.mem_of_getElem? hv')⟩
        simp only [List.getElem?_toArray, List.append_assoc]
        rw [List.getElem?_append_right (by omega), List.getElem?_append_left (by rw [hlt]; omega), hlt]
        rw [← hv']; congr 1; omega
      · rw [List.getElem?_append_right (by simp; omega)] at e
        simp only [List.length_append, List.length_take] at e
        rw [List.getElem?_drop] at e
        have e' : l[i]? = some a := by rw [← e]; congr 1; omega
        obtain ⟨v, hv', hr⟩ := h i a e'
        refine ⟨v, ?_, hr⟩
        simp only [List.getElem?_toArray]
        rw [List.getElem?_append_right (by rw [List.length_append, hlt]; omega), List.length_append, hlt, List.getElem?_drop]
        rw [← hv', ← Array.getElem?_toList]; congr 1; omega

variable {IR : Nat → IC → Code → Prop} {B : Base}

theorem one_some {v : AV} {c : List AV} (h : one v = some c) : c = [v] ∧ v.stored = true ∧ (∀ l, v ≠ .agg l) := by
  cases v <;> simp [one] at h <;> subst h <;> simp [AV.stored]
theorem cellsK_some {k : Kd} {v : AV} {c : List AV} (h : cellsK k v = some c) : c = v.cells ∧ v.stored = true ∧ c.length = k.width := by
  cases k with
  | one =>
    obtain ⟨rfl, h2, h3⟩ := one_some h
    refine ⟨?_, h2, rfl⟩
    cases v <;> first | rfl | exact absurd rfl (h3 _)
  | many n =>
    obtain ⟨l, rfl, h⟩ := asAgg_some.1 h
    obtain ⟨h1, h2⟩ := gd_some.1 h
    simp at h2
    subst h2
    rw [beq_nat, lenN_eq] at h1
    exact ⟨rfl, rfl, by simpa [Kd.width] using h1⟩

theorem store_ok {ι : Io} {rows : T ARow} {w : World} {nx : Nat} (h : HRel IR B ι rows w) {t : TypeId} {k : Kd} (hk : kdOf P t = some k) (hk1 : P.cellsOf t = 1 ∨ ∃ n, k = .many n) {a x : AV} {ua ux : Value} {tl : List AV} {r : R}
    (he : kStore (a :: x :: tl) rows nx k = some r) (ha : VRel ι a ua) (hx : VRel ι x ux) :
    ∃ w', (Instr.storeAt t ua ux).run P w = .ok () w' ∧ r.v = .undef ∧ Post IR B ι ι rows w nx r.rows r.nx w' := by
  unfold kStore at he
  simp only [u2] at he
  obtain ⟨c, hc, he⟩ := bo_some.1 he
  obtain ⟨b, o, rfl, he⟩ := asPtr_some.1 he
  obtain ⟨g, l, hb, he⟩ := asCells_some.1 he
  obtain ⟨l', hl', he⟩ := bo_some.1 he
  simp [rset] at he
  subst he
  obtain ⟨rfl, hst, hlen⟩ := cellsK_some hc
  obtain ⟨hp1, rfl⟩ := putN_some.1 hl'
  obtain ⟨hv1, hv2⟩ := hx.cells hst
  obtain ⟨L, ob, hi, hw, hr⟩ := h.row b _ hb
  cases ha with
  | ptr hi' =>
    rw [hi] at hi'
    cases hi'
    cases hr with
    | @cells _ _ cur e lo hi2 hz hcs hll hf hg =>
      obtain ⟨d, hd, hkd⟩ := kdOf_some hk
      have hsize : ux.cells.size = P.cellsOf t := by
        have hl := hv1.length
        simp only [Array.length_toList] at hl
        rw [← hl]
        cases hg : isAggD d with
        | true => rw [hg] at hkd; simp at hkd; subst hkd; exact hlen
        | false =>
          rw [hg] at hkd; simp at hkd; subst hkd
          rcases hk1 with hk1 | ⟨n, hn⟩
          · rw [hk1]; exact hlen
          · cases hn
      have hroom : L.sh + o + ux.cells.toList.length ≤ cur.size := by
        rw [← hv1.length]; omega
      have hrun := run_storeRow (P := P) L.blk (L.sh + o) e lo hi2 ux.cells.toList 0 cur w hw hf (by simpa using hroom) hv2
      refine ⟨_, ?_, rfl, Post.set_row rfl h hb hi (setRow_heap w L.blk cur _ e _ hw) (.cells ?_ (hcs.put hv1 hv2 hp1) ?_ ?_ hg) (fun k hk => setRow_other w L.blk k _ hk) (by simp [World.setRow]) (below_setRow w _ (h.low b _ L hb hi rfl))⟩
      · unfold Instr.storeAt Instr.sureAddr storeVar
        simp only [Sem.run_bind, Sem.run_pure, Result.andThen_ok, run_sizeOf hd, hsize]
        simpa [Loc.at] using hrun
      · simp only [List.size_toArray, List.length_append, List.length_take, List.length_drop, Array.length_toList]
        simp only [Array.length_toList] at hroom
        omega
      · simp only [List.size_toArray, List.length_append, List.length_take, List.length_drop, Array.length_toList]
        simp only [Array.length_toList] at hroom
        omega
      · intro x hx
        refine hf x ?_
        simp only [List.size_toArray, List.length_append, List.length_take, List.length_drop, Array.length_toList] at hx
        simp only [Array.length_toList] at hroom
        omega
end
end Ev
end

/- What each operation of the evaluator's code comes to in the machine: numbers, texts, tests. -/
section
namespace Ev
open Go Go.RowKit

section
variable {P : Program} {w : World} {ι : Io}

theorem beq_dec {α : Type} [BEq α] [LawfulBEq α] [DecidableEq α] (a b : α) : (a == b) = decide (a = b) := by
  by_cases h : a = b <;> simp [h]

theorem wrapV {s : Sem Value} {x : Value} {w' : World} (h : s.run P w = .ok x w') : (do pure (Next.value (← s)) : Sem Next).run P w = .ok (.value x) w' := by
  simp [h]
theorem wrapU {s : Sem Unit} {w' : World} (h : s.run P w = .ok () w') : (do s; pure Next.skip : Sem Next).run P w = .ok .skip w' := by
  simp [h]

theorem wrap_id (k : IntKind) (n : Int) (h : -(limN k : Int) ≤ n) (h' : n < (limP k : Int)) : k.wrap n = n := by
  have e8 : (2:Int)^8 = 256 := rfl
  have e7 : (2:Int)^7 = 128 := rfl
  have e16 : (2:Int)^16 = 65536 := rfl
  have e15 : (2:Int)^15 = 32768 := rfl
  have e32 : (2:Int)^32 = 4294967296 := rfl
  have e31 : (2:Int)^31 = 2147483648 := rfl
  have e64 : (2:Int)^64 = 18446744073709551616 := rfl
  have e63 : (2:Int)^63 = 9223372036854775808 := rfl
  cases k <;> simp only [limN, limP, Int.cast_ofNat_Int] at h h' <;>
    simp only [IntKind.wrap, IntKind.bits, IntKind.signed, Nat.add_one_sub_one, e8, e7, e16, e15, e32, e31, e64, e63, Bool.true_and, Bool.false_and, decide_eq_true_eq, if_false, Bool.false_eq_true] <;> (try split) <;> omega
theorem wrapI_eq (k : IntKind) (n : Int) : wrapI k n = k.wrap n := by
  cases n with
  | ofNat m =>
    show (match Nat.blt m (limP k) with | true => Int.ofNat m | false => k.wrap (Int.ofNat m)) = _
    rw [blt_nat]
    by_cases h : m < limP k
    · simp only [h, decide_true]
      exact (wrap_id k _ (by simp only [Int.ofNat_eq_natCast]; omega) (by simp only [Int.ofNat_eq_natCast]; omega)).symm
    · simp [h]
  | negSucc m =>
    show (match Nat.blt m (limN k) with | true => Int.negSucc m | false => k.wrap (Int.negSucc m)) = _
    rw [blt_nat]
    by_cases h : m < limN k
    · simp only [h, decide_true]
      exact (wrap_id k _ (by rw [Int.negSucc_eq]; omega) (by rw [Int.negSucc_eq]; omega)).symm
    · simp [h]

theorem eqGuard_int (op : BinOp) (t : TypeId) (x y : Operand) (k j : IntKind) (a b : Int) : (eqGuard op t x y (.int k a) (.int j b)).run P w = .ok () w := by
  unfold eqGuard; cases op <;> simp
theorem eqGuard_str (op : BinOp) (t : TypeId) (x y : Operand) (a b : ByteArray) : (eqGuard op t x y (.string a) (.string b)).run P w = .ok () w := by
  unfold eqGuard; cases op <;> simp
theorem eqGuard_bool (op : BinOp) (t : TypeId) (x y : Operand) (a b : Bool) : (eqGuard op t x y (.bool a) (.bool b)).run P w = .ok () w := by
  unfold eqGuard; cases op <;> simp

theorem binI1_ok {op : BinOp} {k : IntKind} {x y : Int} {v : AV} (t : TypeId) (h : binI1 op k x y = some v) (h1 : op ≠ .shl) (h2 : op ≠ .shr) :
    ∃ u, (binOp op t (.int k x) (.int k y)).run P w = .ok u w ∧ VRel ι v u := by
  cases op <;> simp only [binI1, tdivI, tmodI, bitI, eqI_eq, ltI_eq, wrapI_eq] at h
  case add => cases h; exact ⟨.int k (k.wrap (x + y)), by simp [binOp, Op.intArith], .int _ _⟩
  case sub => cases h; exact ⟨.int k (k.wrap (x - y)), by simp [binOp, Op.intArith], .int _ _⟩
  case mul => cases h; exact ⟨.int k (k.wrap (x * y)), by simp [binOp, Op.intArith], .int _ _⟩
  case quo =>
    by_cases hy : y = 0
    · simp [hy] at h
    · simp [hy] at h; subst h
      exact ⟨.int k (k.wrap (x.tdiv y)), by simp [binOp, Op.intDiv, hy], .int _ _⟩
  case rem =>
    by_cases hy : y = 0
    · simp [hy] at h
    · simp [hy] at h; subst h
      exact ⟨.int k (x.tmod y), by simp [binOp, Op.intDiv, hy], .int _ _⟩
  case and => cases h; exact ⟨.int k (k.wrap ((BitVec.ofInt k.bits x &&& BitVec.ofInt k.bits y).toNat)), by simp [binOp, Op.intBits], .int _ _⟩
  case or => cases h; exact ⟨.int k (k.wrap ((BitVec.ofInt k.bits x ||| BitVec.ofInt k.bits y).toNat)), by simp [binOp, Op.intBits], .int _ _⟩
  case xor => cases h; exact ⟨.int k (k.wrap ((BitVec.ofInt k.bits x ^^^ BitVec.ofInt k.bits y).toNat)), by simp [binOp, Op.intBits], .int _ _⟩
  case shl => exact absurd rfl h1
  case shr => exact absurd rfl h2
  case andNot => cases h
  case eql => cases h; exact ⟨.bool (decide (x = y)), by simp [binOp, Op.intCmp, beq_dec], .bool _⟩
  case neq => cases h; exact ⟨.bool (!decide (x = y)), by simp [binOp, Op.intCmp, bne, beq_dec], .bool _⟩
  case lss => cases h; exact ⟨.bool (decide (x < y)), by simp [binOp, Op.intCmp], .bool _⟩
  case leq => cases h; exact ⟨.bool (!decide (y < x)), by simp [binOp, Op.intCmp, ← decide_not, Int.not_lt], .bool _⟩
  case gtr => cases h; exact ⟨.bool (decide (y < x)), by simp [binOp, Op.intCmp], .bool _⟩
  case geq => cases h; exact ⟨.bool (!decide (x < y)), by simp [binOp, Op.intCmp, ← decide_not, Int.not_lt], .bool _⟩
theorem binI2_ok {op : BinOp} {k j : IntKind} {x y : Int} {v : AV} (t : TypeId) (h : binI2 op k j x y = some v) :
    ∃ u, (binOp op t (.int k x) (.int j y)).run P w = .ok u w ∧ VRel ι v u := by
  by_cases h1 : op = .shl
  · subst h1
    simp only [binI2, shlI] at h
    cases y with
    | negSucc n => cases h
    | ofNat n =>
      cases h
      refine ⟨.int k (k.wrap (x * 2 ^ (min n k.bits))), ?_, by rw [wrapI_eq]; exact .int _ _⟩
      have : ¬ ((n : Int) < 0) := by omega
      simp [binOp, Op.shift, this]
  · by_cases h2 : op = .shr
    · subst h2
      simp only [binI2, shrI] at h
      cases y with
      | negSucc n => cases h
      | ofNat n =>
        cases h
        refine ⟨.int k (x.fdiv (2 ^ (min n k.bits))), ?_, .int _ _⟩
        have : ¬ ((n : Int) < 0) := by omega
        simp [binOp, Op.shift, this]
    · have h' : gd (k == j) (binI1 op k x y) = some v := by cases op <;> first | exact h | exact absurd rfl h1 | exact absurd rfl h2
      obtain ⟨e, h3⟩ := gd_some.1 h'
      have : k = j := by simpa using e
      subst this
      exact binI1_ok t h3 h1 h2

theorem bytes_eq (a b : List UInt8) : ((⟨⟨a⟩⟩ : ByteArray) == ⟨⟨b⟩⟩) = decide (a = b) := by
  rw [beq_toListBytes, ByteArray.toList_eq, ByteArray.toList_eq, beq_dec]
theorem binS1_ok {op : BinOp} {x y : List UInt8} {v : AV} (t : TypeId) (h : binS1 op x y = some v) :
    ∃ u, (binOp op t (.string ⟨⟨x⟩⟩) (.string ⟨⟨y⟩⟩)).run P w = .ok u w ∧ VRel ι v u := by
  have hl : ∀ l : List UInt8, (⟨⟨l⟩⟩ : ByteArray).toList = l := fun l => by rw [ByteArray.toList_eq]
  cases op <;> simp only [binS1, beqB_eq, ltB_eq] at h
  case add =>
    obtain ⟨h1, h2⟩ := gd_some.1 h
    cases h2
    rw [ble_nat, lenN_eq, lenN_eq] at h1
    refine ⟨.string (⟨⟨x⟩⟩ ++ ⟨⟨y⟩⟩), ?_, ?_⟩
    · have h3 : x.length + y.length ≤ 9223372036854775807 := by simpa using h1
      have : ¬ (((⟨⟨x⟩⟩ : ByteArray).size + (⟨⟨y⟩⟩ : ByteArray).size : Nat) : Int) > IntKind.i64.max := by
        have e63 : (2:Int)^63 = 9223372036854775808 := rfl
        simp [IntKind.max, IntKind.signed, IntKind.bits, ByteArray.size, e63]; omega
      simp only [binOp, Op.stringOp, if_neg this]; rfl
    · have e : (⟨⟨x⟩⟩ ++ ⟨⟨y⟩⟩ : ByteArray) = ⟨⟨x ++ y⟩⟩ := by
        ext1; simp
      rw [e, appN_eq]; exact .str _
  all_goals first
    | cases h
    | skip
  case eql => exact ⟨.bool (decide (x = y)), by simp [binOp, Op.stringOp, hl, beq_dec], .bool _⟩
  case neq => exact ⟨.bool (!decide (x = y)), by simp [binOp, Op.stringOp, hl, beq_dec], .bool _⟩
  case lss => exact ⟨.bool (Op.bytesLess x y), by simp [binOp, Op.stringOp, hl], .bool _⟩
  case leq => exact ⟨.bool (Op.bytesLess x y || decide (x = y)), by simp [binOp, Op.stringOp, hl, beq_dec], .bool _⟩
  case gtr => exact ⟨.bool (!(Op.bytesLess x y || decide (x = y))), by simp [binOp, Op.stringOp, hl, beq_dec], .bool _⟩
  case geq => exact ⟨.bool (!Op.bytesLess x y), by simp [binOp, Op.stringOp, hl], .bool _⟩
end
end Ev
end

/- What each operation of the evaluator's code comes to in the machine: the same cells. -/
section
namespace Ev
open Go Go.RowKit

def litOf (a : AV) : Lit := match a with
  | .bool b => .bool b
  | .int k n => .int k n
  | .str s => .string s
  | _ => .bool false

/-- Cells that fit a shape. -/
inductive ShRel (ι : Io) : List SK → List AV → List Value → Prop
  | nil : ShRel ι [] [] []
  | bool (b : Bool) {sh l vs} (t : ShRel ι sh l vs) : ShRel ι (.bool :: sh) (.bool b :: l) (.bool b :: vs)
  | int {q : IntKind} {n : Int} {sh l vs} (h : (Lit.int q n).wf = true) (t : ShRel ι sh l vs) : ShRel ι (.int q :: sh) (.int q n :: l) (.int q n :: vs)
  | str {s : List UInt8} {sh l vs} (h : s.length ≤ maxLen) (t : ShRel ι sh l vs) : ShRel ι (.str :: sh) (.str s :: l) (.string ⟨⟨s⟩⟩ :: vs)

theorem inR_wf {q : IntKind} {n : Int} (h : inR q n = true) : (Lit.int q n).wf = true := by
  have e8 : (2:Int)^8 = 256 := rfl
  have e7 : (2:Int)^7 = 128 := rfl
  have e16 : (2:Int)^16 = 65536 := rfl
  have e15 : (2:Int)^15 = 32768 := rfl
  have e32 : (2:Int)^32 = 4294967296 := rfl
  have e31 : (2:Int)^31 = 2147483648 := rfl
  have e64 : (2:Int)^64 = 18446744073709551616 := rfl
  have e63 : (2:Int)^63 = 9223372036854775808 := rfl
  simp only [Lit.wf, Bool.and_eq_true, decide_eq_true_eq]
  cases n with
  | ofNat m =>
    simp only [inR, blt_nat, decide_eq_true_eq] at h
    cases q <;> simp only [limP] at h <;> simp only [IntKind.min, IntKind.max, IntKind.signed, IntKind.bits, Nat.add_one_sub_one, e8, e7, e16, e15, e32, e31, e64, e63, if_true, if_false, Bool.false_eq_true, Int.ofNat_eq_natCast] <;> omega
  | negSucc m =>
    simp only [inR, blt_nat, decide_eq_true_eq] at h
    cases q <;> simp only [limN] at h <;> simp only [IntKind.min, IntKind.max, IntKind.signed, IntKind.bits, Nat.add_one_sub_one, e8, e7, e16, e15, e32, e31, e64, e63, if_true, if_false, Bool.false_eq_true, Int.negSucc_eq] <;> omega

theorem eq1_some {ι : Io} {k : SK} {a b : AV} {u v : Value} {e : Bool} (h : eq1 k a b = some e) (ha : VRel ι a u) (hb : VRel ι b v) :
    ShRel ι [k] [a] [u] ∧ ShRel ι [k] [b] [v] ∧ (e = true ↔ litOf a = litOf b) := by
  cases k with
  | bool =>
    obtain ⟨x, rfl, h1⟩ := asBool_some.1 h
    obtain ⟨y, rfl, h2⟩ := asBool_some.1 h1
    cases ha; cases hb
    refine ⟨.bool x .nil, .bool y .nil, ?_⟩
    simp only [Option.some.injEq] at h2
    rw [← h2]
    cases x <;> cases y <;> simp [litOf]
  | int q =>
    obtain ⟨j, x, rfl, h⟩ := asInt_some.1 h
    obtain ⟨k, y, rfl, h⟩ := asInt_some.1 h
    obtain ⟨h1, h2⟩ := gd_some.1 h
    simp only [Bool.and_eq_true] at h1
    obtain ⟨e1, e2, r1, r2⟩ := h1
    have e1 : q = j := by simpa using e1
    have e2 : q = k := by simpa using e2
    subst e1; subst e2
    cases ha; cases hb
    refine ⟨.int (inR_wf r1) .nil, .int (inR_wf r2) .nil, ?_⟩
    simp only [Option.some.injEq] at h2
    rw [← h2, eqI_eq]; simp [litOf]
  | str =>
    obtain ⟨x, rfl, h⟩ := asStr_some.1 h
    obtain ⟨y, rfl, h⟩ := asStr_some.1 h
    obtain ⟨h1, h2⟩ := gd_some.1 h
    rw [ble_nat, ble_nat, lenN_eq, lenN_eq] at h1
    simp at h1
    cases ha; cases hb
    refine ⟨.str (by unfold maxLen; omega) .nil, .str (by unfold maxLen; omega) .nil, ?_⟩
    simp only [Option.some.injEq] at h2
    rw [← h2, beqB_eq]; simp [litOf]

theorem ShRel.cons1 {ι : Io} {k : SK} {a : AV} {u : Value} {sh : List SK} {l : List AV} {vs : List Value} (h : ShRel ι [k] [a] [u]) (t : ShRel ι sh l vs) : ShRel ι (k :: sh) (a :: l) (u :: vs) := by
  cases h with
  | bool b _ => exact .bool b t
  | int h _ => exact .int h t
  | str h _ => exact .str h t
theorem eqL_some {ι : Io} : ∀ {sh : List SK} {l m : List AV} {us vs : List Value} {e : Bool}, eqL sh l m = some e → VRelL ι l us → VRelL ι m vs →
    ShRel ι sh l us ∧ ShRel ι sh m vs ∧ (e = true ↔ l.map litOf = m.map litOf)
  | [], l, m, us, vs, e, h, hl, hm => by
    cases l with
    | nil => cases m with
      | nil => cases hl; cases hm; have : e = true := by simpa [eqL, eq_comm] using h
               subst this; exact ⟨.nil, .nil, by simp⟩
      | cons b m => cases h
    | cons a l => cases h
  | k :: sh, l, m, us, vs, e, h, hl, hm => by
    cases l with
    | nil => cases h
    | cons a l => cases m with
      | nil => cases h
      | cons b m =>
        cases hl with
        | cons ha hl =>
          cases hm with
          | cons hb hm =>
            have h : bo (eq1 k a b) (fun e => bo (eqL sh l m) fun r => some (match e with | true => r | false => false)) = some e := h
            obtain ⟨e1, h1, h⟩ := bo_some.1 h
            obtain ⟨e2, h2, h⟩ := bo_some.1 h
            obtain ⟨s1, s2, q1⟩ := eq1_some h1 ha hb
            obtain ⟨t1, t2, q2⟩ := eqL_some h2 hl hm
            refine ⟨s1.cons1 t1, s2.cons1 t2, ?_⟩
            simp only [Option.some.injEq] at h
            rw [← h, List.map_cons, List.map_cons, List.cons.injEq, ← q1, ← q2]
            cases e1 <;> simp

theorem ShRel.split {ι : Io} : ∀ {s1 s2 : List SK} {l : List AV} {vs : List Value}, ShRel ι (s1 ++ s2) l vs → ShRel ι s1 (l.take s1.length) (vs.take s1.length) ∧ ShRel ι s2 (l.drop s1.length) (vs.drop s1.length)
  | [], s2, l, vs, h => by simpa using ⟨.nil, h⟩
  | k :: s1, s2, l, vs, h => by
    cases h with
    | bool b t => obtain ⟨h1, h2⟩ := t.split; exact ⟨.bool b h1, by simpa using h2⟩
    | int hh t => obtain ⟨h1, h2⟩ := t.split; exact ⟨.int hh h1, by simpa using h2⟩
    | str hh t => obtain ⟨h1, h2⟩ := t.split; exact ⟨.str hh h1, by simpa using h2⟩
theorem ShRel.length {ι : Io} : ∀ {sh : List SK} {l : List AV} {vs : List Value}, ShRel ι sh l vs → l.length = sh.length ∧ vs.length = sh.length
  | _, _, _, .nil => ⟨rfl, rfl⟩
  | _, _, _, .bool _ t => by obtain ⟨a, b⟩ := t.length; simp [a, b]
  | _, _, _, .int _ t => by obtain ⟨a, b⟩ := t.length; simp [a, b]
  | _, _, _, .str _ t => by obtain ⟨a, b⟩ := t.length; simp [a, b]

theorem allSome_some {α : Type} : ∀ {l : List (Option α)} {r : List α}, allSome l = some r ↔ l = r.map some
  | [], r => by cases r <;> simp [allSome]
  | a :: l, r => by
    simp only [allSome, bo_some]
    constructor
    · rintro ⟨x, rfl, q, hq, e⟩
      simp at e
      subst e
      simp [allSome_some.1 hq]
    · intro h
      cases r with
      | nil => cases h
      | cons x r =>
        simp at h
        exact ⟨x, h.1, r, allSome_some.2 h.2, rfl⟩

section
variable {P : Program}
theorem runsB_some : ∀ {off : Nat} {fs : List Field} {k : Nat}, runsB P off fs = some k ↔ P.runs off fs = some k
  | off, [], k => by simp [runsB, Program.runs]
  | off, f :: fs, k => by
    simp only [runsB, Program.runs, gd_some, beq_nat, decide_eq_true_eq]
    rw [runsB_some]
    by_cases h : f.offset = off <;> simp [h]

/-- Fields that lie one behind the other: their chunks. -/
theorem fields_mapM {ι : Io} {n : Nat} {cs : List Value} {p : TypeId → Prop} (ih : ∀ (t : TypeId) (s : List SK) (l : List AV) (vs : List Value), shapeOf P n t = some s → p t → ShRel ι s l vs → P.keyLits n t vs = some (l.map litOf) ∧ s.length = P.cellsOf t) :
    ∀ (fs : List Field) (ss : List (List SK)) (off tot : Nat) (l : List AV), fs.map (fun f => shapeOf P n f.type) = ss.map some → (∀ f ∈ fs, p f.type) → P.runs off fs = some tot → ShRel ι ss.flatten l (cs.drop off) →
      ∃ ls : List (List Lit), fs.mapM (fun f => P.keyLits n f.type ((cs.drop f.offset).take (P.cellsOf f.type))) = some ls ∧ ls.flatten = l.map litOf ∧ off + ss.flatten.length = tot
  | [], ss, off, tot, l, h, _, hr, hs => by
    cases ss with
    | cons s ss => cases h
    | nil =>
      simp at hs
      generalize hz : cs.drop off = zs at hs
      cases hs
      simp [Program.runs] at hr
      exact ⟨[], by simp, by simp, by simpa using hr⟩
  | f :: fs, ss, off, tot, l, h, ht, hr, hs => by
    cases ss with
    | nil => cases h
    | cons s ss =>
      simp only [List.map_cons, List.cons.injEq] at h
      have ht1 := ht f (by simp)
      have ht2 : ∀ g ∈ fs, p g.type := fun g hg => ht g (by simp [hg])
      simp only [Program.runs] at hr
      split at hr
      · rename_i ho
        simp only [List.flatten_cons] at hs
        obtain ⟨h1, h2⟩ := hs.split
        have hlen : s.length = P.cellsOf f.type := (ih f.type s _ _ h.1 ht1 h1).2
        have k1 := (ih f.type s _ _ h.1 ht1 h1).1
        rw [List.drop_drop] at h2
        obtain ⟨ls, q1, q2, q3⟩ := fields_mapM ih fs ss (off + P.cellsOf f.type) tot (l.drop s.length) h.2 ht2 hr (by rw [← hlen]; exact h2)
        refine ⟨(l.take s.length).map litOf :: ls, ?_, ?_, ?_⟩
        · simp only [List.mapM_cons]
          rw [ho, ← hlen, k1, q1]; rfl
        · simp only [List.flatten_cons, q2]
          rw [← List.map_append, List.take_append_drop]
        · simp only [List.flatten_cons, List.length_append, hlen]; omega
      · cases hr

theorem items_mapM {ι : Io} {n : Nat} {e : TypeId} {s : List SK} {cs : List Value} (ih : ∀ (l : List AV) (vs : List Value), ShRel ι s l vs → P.keyLits n e vs = some (l.map litOf) ∧ s.length = P.cellsOf e) :
    ∀ (m i : Nat) (l : List AV), ShRel ι (List.replicate m s).flatten l (cs.drop (i * P.cellsOf e)) →
      ∃ ls : List (List Lit), (List.range' i m).mapM (fun i => P.keyLits n e ((cs.drop (i * P.cellsOf e)).take (P.cellsOf e))) = some ls ∧ ls.flatten = l.map litOf
  | 0, i, l, hs => by
    simp at hs
    generalize hz : cs.drop (i * P.cellsOf e) = zs at hs
    cases hs
    exact ⟨[], by simp, by simp⟩
  | m+1, i, l, hs => by
    simp only [List.replicate_succ, List.flatten_cons] at hs
    obtain ⟨h1, h2⟩ := hs.split
    have hlen : s.length = P.cellsOf e := (ih _ _ h1).2
    have k1 := (ih _ _ h1).1
    rw [List.drop_drop] at h2
    obtain ⟨ls, q1, q2⟩ := items_mapM ih m (i+1) (l.drop s.length) (by rw [Nat.succ_mul, ← hlen]; rw [hlen] at h2 ⊢; exact h2)
    refine ⟨(l.take s.length).map litOf :: ls, ?_, ?_⟩
    · simp only [List.range'_succ, List.mapM_cons]
      rw [← hlen] at q1 ⊢
      rw [← hlen] at k1
      rw [k1, q1]; rfl
    · simp only [List.flatten_cons, q2]
      rw [← List.map_append, List.take_append_drop]
theorem keyLits_shape {ι : Io} : ∀ (n : Nat) (t : TypeId) (s : List SK) (l : List AV) (vs : List Value), shapeOf P n t = some s → (tiledB P n t = true ∧ P.keyTypeAt n t = true) → ShRel ι s l vs →
    P.keyLits n t vs = some (l.map litOf) ∧ s.length = P.cellsOf t
  | 0, t, s, l, vs, h, _, _ => by cases h
  | n+1, t, s, l, vs, h, ⟨ht, hk⟩, hs => by
    simp only [shapeOf] at h
    simp only [tiledB] at ht
    simp only [Program.keyTypeAt] at hk
    cases hu : P.underlying t with
    | none => simp [hu] at h
    | some d =>
      simp only [hu] at h ht hk
      cases d <;> simp only at h <;> try (cases h; done)
      case bool =>
        cases h
        cases hs with
        | bool b tt => cases tt; exact ⟨by simp [Program.keyLits, hu, litOf], by simpa [beq_nat, eq_comm] using ht⟩
      case int q =>
        cases h
        cases hs with
        | int hh tt => cases tt; exact ⟨by simp [Program.keyLits, hu, litOf, hh], by simpa [beq_nat, eq_comm] using ht⟩
      case string =>
        cases h
        cases hs with
        | str hh tt => cases tt; exact ⟨by simp [Program.keyLits, hu, litOf, ByteArray.size, hh], by simpa [beq_nat, eq_comm] using ht⟩
      case array m e =>
        obtain ⟨s1, h1, h2⟩ := bo_some.1 h
        simp only [Option.some.injEq] at h2
        subst h2
        simp only [Bool.and_eq_true, beq_nat, decide_eq_true_eq] at ht
        have ih := fun (l : List AV) (vs : List Value) (x : ShRel ι s1 l vs) => keyLits_shape n e s1 l vs h1 ⟨ht.2, hk⟩ x
        obtain ⟨ls, q1, q2⟩ := items_mapM ih m 0 l (cs := vs) (by simpa using hs)
        have hlen := hs.length
        have hl : (List.replicate m s1).flatten.length = m * s1.length := by simp
        by_cases hm : m = 0
        · subst hm
          simp at hs
          cases hs
          simp at ht
          exact ⟨by simp [Program.keyLits, hu, ht.1], by simp [ht.1]⟩
        · -- the shape of one element is as wide as the element
          have hse : s1.length = P.cellsOf e := by
            obtain ⟨m', rfl⟩ : ∃ m', m = m' + 1 := ⟨m - 1, by omega⟩
            simp only [List.replicate_succ, List.flatten_cons] at hs
            exact (ih _ _ hs.split.1).2
          refine ⟨?_, by rw [hl, hse, ht.1]⟩
          have hvl : vs.length = P.cellsOf t := by rw [hlen.2, hl, hse, ht.1]
          simp only [Program.keyLits, hu, hvl, if_true]
          rw [List.range_eq_range', q1]
          simp [q2]
      case struct fs =>
        obtain ⟨ss, h1, h2⟩ := bo_some.1 h
        simp only [Option.some.injEq] at h2
        subst h2
        simp only [Bool.and_eq_true] at ht
        cases hr : runsB P 0 fs.toList with
        | none => simp [hr] at ht
        | some k =>
          simp only [hr, beq_nat, decide_eq_true_eq] at ht
          obtain ⟨ht1, ht2⟩ := ht
          subst ht1
          simp only [Bool.and_eq_true] at hk
          have hk1 : ∀ f ∈ fs.toList, (f.name != "_") = true ∧ P.keyTypeAt n f.type = true := fun f hf => by
            have := hk.1.1
            rw [← Array.all_toList] at this
            simpa using List.all_eq_true.1 this f hf
          obtain ⟨ls, q1, q2, q3⟩ := fields_mapM (P := P) (p := fun t => tiledB P n t = true ∧ P.keyTypeAt n t = true) (cs := vs) (fun t s l vs a b c => keyLits_shape n t s l vs a b c) fs.toList ss 0 (P.cellsOf t) l (allSome_some.1 h1)
            (fun f hf => ⟨List.all_eq_true.1 ht2 f hf, (hk1 f hf).2⟩) (runsB_some.1 hr) (by simpa using hs)
          have hlen := hs.length
          have hvl : vs.length = P.cellsOf t := by rw [hlen.2]; omega
          refine ⟨?_, by omega⟩
          have hall : (fs.all (·.name != "_")) = true := by
            rw [← Array.all_toList]; exact List.all_eq_true.2 fun f hf => (hk1 f hf).1
          simp only [Program.keyLits, hu, hvl, hall, and_self, if_true]
          rw [q1]
          simp [q2]

theorem litOf_inj {ι : Io} : ∀ {sh : List SK} {l m : List AV} {us vs : List Value}, ShRel ι sh l us → ShRel ι sh m vs → l.map litOf = m.map litOf → us = vs
  | _, _, _, _, _, .nil, h, _ => by cases h; rfl
  | _, _, _, _, _, .bool b t, h, e => by
    cases h with
    | bool b' t' => simp [litOf] at e; rw [e.1, litOf_inj t t' (by simpa using e.2)]
  | _, _, _, _, _, .int hh t, h, e => by
    cases h with
    | int hh' t' => simp [litOf] at e; rw [e.1, litOf_inj t t' (by simpa using e.2)]
  | _, _, _, _, _, .str hh t, h, e => by
    cases h with
    | str hh' t' => simp [litOf] at e; rw [e.1, litOf_inj t t' (by simpa using e.2)]

/-- Two structs (arrays), compared. -/
theorem equal_agg {ι : Io} {t : TypeId} {sh : List SK} {l m : List AV} {us vs : List Value} {e : Bool} (h : eqShape P t = some sh) (ha : isAggT P t = true) (he : eqL sh l m = some e) (hl : VRelL ι l us) (hm : VRelL ι m vs) (w : World) :
    (Op.equal t (.agg ⟨us⟩) (.agg ⟨vs⟩)).run P w = .ok e w := by
  obtain ⟨h1, h2⟩ := gd_some.1 h
  simp only [Bool.and_eq_true] at h1
  obtain ⟨hk, ht, _⟩ := h1
  obtain ⟨s1, s2, hiff⟩ := eqL_some he hl hm
  have k1 := keyLits_shape 20 t sh l us h2 ⟨ht, hk⟩ s1
  have k2 := keyLits_shape 20 t sh m vs h2 ⟨ht, hk⟩ s2
  have hf : ∀ xs : List Value, xs.length = sh.length → (Value.agg ⟨xs⟩).formed P t = true := fun xs hx => by
    unfold isAggT at ha
    unfold Value.formed
    have : xs.length = P.cellsOf t := by rw [hx, k1.2]
    cases hu : P.underlying t with
    | none => simp [hu] at ha
    | some d => cases d <;> simp [hu] at ha <;> simp [this]
  obtain ⟨r, hr, hi⟩ := run_equalIn_deep (P := P) 9980 20 t hk w 20 20 (.agg ⟨us⟩) (.agg ⟨vs⟩) _ _ (hf us s1.length.2) (hf vs s2.length.2) (by simpa [Value.cells] using k1.1) (by simpa [Value.cells] using k2.1)
  have : r = e := by
    rcases r with _ | _ <;> rcases e with _ | _ <;> simp_all
  subst this
  exact hr

/-- Two bools. -/
theorem equal_one {ι : Io} {t : TypeId} {k : SK} {a b : AV} {u v : Value} {e : Bool} (h : skOf P t = some k) (he : eq1 k a b = some e) (ha : VRel ι a u) (hb : VRel ι b v) (w : World) :
    (Op.equal t u v).run P w = .ok e w := by
  obtain ⟨s1, s2, hi⟩ := eq1_some he ha hb
  unfold skOf at h
  cases hu : P.underlying t with
  | none => simp [hu] at h
  | some d =>
    unfold Op.equal Op.maxDepth
    cases d <;> simp only [hu] at h <;> try (cases h; done)
    case bool =>
      cases h
      cases s1 with
      | bool x _ => cases s2 with
        | bool y _ =>
          rw [run_equalIn_bool' w 9999 t x y hu]
          congr 1
          rw [Bool.eq_iff_iff]; rw [hi]; simp [litOf]
    case int q =>
      cases h
      cases s1 with
      | int _ _ => cases s2 with
        | int _ _ =>
          rw [run_equalIn_int w 9999 t q q _ _ hu]
          congr 1
          rw [Bool.eq_iff_iff]; rw [hi]; simp [litOf]
    case string =>
      cases h
      cases s1 with
      | str _ _ => cases s2 with
        | str _ _ =>
          rw [run_equalIn_string w 9999 t _ _ hu]
          congr 1
          rw [Bool.eq_iff_iff]; rw [hi]; simp [litOf, ByteArray.toList_eq]
end
end Ev
end

/- What each operation of the evaluator's code comes to in the machine: what only computes. -/
section
namespace Ev
open Go Go.RowKit

section
variable {P : Program} {ι : Io} {rows : T ARow} {w : World} {nx : Nat} {r : R}

/-- It only computes. -/
def PureOK (P : Program) (ι : Io) (rows : T ARow) (w : World) (nx : Nat) (r : R) (s : Sem Value) : Prop :=
  ∃ v u, s.run P w = .ok u w ∧ VRel ι v u ∧ r = ⟨v, rows, nx⟩

theorem rv_some {v : AV} (h : rv rows nx v = some r) : r = ⟨v, rows, nx⟩ := by simp [rv] at h; exact h.symm
theorem rvo_some {v : Option AV} (h : rvo rows nx v = some r) : ∃ x, v = some x ∧ r = ⟨x, rows, nx⟩ := by
  obtain ⟨x, hx, h⟩ := bo_some.1 h
  simp at h
  exact ⟨x, hx, h.symm⟩
theorem VRelL.nil_inv {us : List Value} (h : VRelL ι [] us) : us = [] := by cases h; rfl
theorem VRelL.cons_inv {a : AV} {l : List AV} {us : List Value} (h : VRelL ι (a :: l) us) : ∃ u t, us = u :: t ∧ VRel ι a u ∧ VRelL ι l t := by cases h with | cons h t => exact ⟨_, _, rfl, h, t⟩

theorem part_ok {t : TypeId} {k : Kd} {l : List AV} {us : List Value} {off : Nat} {v : AV} (hk : kdOf P t = some k) (hl : VRelL ι l us) (h1 : ∀ u ∈ us, u.oneCell' = true) (h : kd k (dropN off l) = some v) :
    ∃ u, (part t ⟨us⟩ off).run P w = .ok u w ∧ VRel ι v u := by
  obtain ⟨d, hd, rfl⟩ := kdOf_some hk
  rw [dropN_eq] at h
  unfold part
  cases hg : isAggD d with
  | false =>
    simp only [hg, Bool.false_eq_true, if_false, kd, getN_eq, List.getElem?_drop, Nat.add_zero] at h
    obtain ⟨u, hu, hr⟩ := hl.get h
    refine ⟨u, ?_, hr⟩
    simp only [Sem.run_bind, Result.andThen_ok, run_isAgg hd, hg, Bool.false_eq_true, if_false]
    simp [hu]
  | true =>
    simp only [hg, if_true, kd] at h
    obtain ⟨q, hq, h⟩ := bo_some.1 h
    obtain ⟨hn, rfl⟩ := takeN_some.1 hq
    simp only [Option.some.injEq] at h
    subst h
    refine ⟨.agg ⟨(us.drop off).take (P.cellsOf t)⟩, ?_, .agg ((hl.drop off).take _) (fun u hu => h1 u (List.mem_of_mem_drop (List.mem_of_mem_take hu)))⟩
    simp only [Sem.run_bind, Result.andThen_ok, run_isAgg hd, hg, if_true, run_sizeOf hd, Sem.run_pure]
    congr 2
    simp [List.extract_eq_take_drop]

theorem index_ok {t e : TypeId} {n : Nat} {k : Kd} {x i : AV} {ux ui : Value} (hu : P.underlying t = some (.array n e)) (hk : kdOf P e = some k) (hx : VRel ι x ux) (hi : VRel ι i ui) {tl : List AV}
    (he : (u2 (x :: i :: tl) fun x i => asAgg x fun l => asNat i fun i => gd (Nat.blt i n) (rvo rows nx (kd k (dropN (Nat.mul i (P.cellsOf e)) l)))) = some r) : PureOK P ι rows w nx r (Instr.index t ux ui) := by
  simp only [u2] at he
  obtain ⟨l, rfl, he⟩ := asAgg_some.1 he
  obtain ⟨q, m, rfl, he⟩ := asNat_some.1 he
  obtain ⟨hlt, he⟩ := gd_some.1 he
  obtain ⟨v, hv, rfl⟩ := rvo_some he
  cases hx with
  | agg hl h1 =>
    cases hi
    obtain ⟨d, hd, _⟩ := kdOf_some hk
    obtain ⟨u, hr, hvr⟩ := part_ok (w := w) hk hl h1 hv
    refine ⟨v, u, ?_, hvr, rfl⟩
    rw [blt_nat] at hlt
    simp only [decide_eq_true_eq] at hlt
    unfold Instr.index
    simp only [asIntOf, Sem.run_bind, Sem.run_pure, Result.andThen_ok, run_underlying hu, run_sizeOf hd, Sem.run_ite]
    rw [if_pos ⟨by simp, by simpa using hlt⟩]
    simpa using hr

theorem indexStr_ok {t : TypeId} {x i : AV} {ux ui : Value} (hu : P.underlying t = some .string) (hx : VRel ι x ux) (hi : VRel ι i ui) {tl : List AV}
    (he : kIndexStr (x :: i :: tl) rows nx = some r) : PureOK P ι rows w nx r (Instr.index t ux ui) := by
  simp only [kIndexStr, u2] at he
  obtain ⟨l, rfl, he⟩ := asStr_some.1 he
  obtain ⟨q, m, rfl, he⟩ := asNat_some.1 he
  obtain ⟨c, hc, he⟩ := bo_some.1 he
  obtain rfl := rv_some he
  rw [getN_eq] at hc
  cases hx; cases hi
  refine ⟨_, .int .u8 c.toNat, ?_, .int _ _, rfl⟩
  unfold Instr.index
  simp only [asIntOf, Sem.run_bind, Sem.run_pure, Result.andThen_ok, run_underlying hu]
  have : (if 0 ≤ Int.ofNat m then (⟨⟨l⟩⟩ : ByteArray)[(Int.ofNat m).toNat]? else none) = some c := by
    rw [if_pos (by simp)]
    have hm : m < l.length := (List.getElem?_eq_some_iff.1 hc).1
    have hs : (⟨⟨l⟩⟩ : ByteArray).size = l.length := rfl
    rw [getElem?_pos (h := by rw [hs]; simpa using hm)]
    have := (List.getElem?_eq_some_iff.1 hc).2
    simpa [ByteArray.getElem_eq_getElem_data] using this
  rw [this]
  rfl

theorem extract_ok {x : AV} {ux : Value} {i : Nat} (hx : VRel ι x ux) {tl : List AV} (he : kExtract (x :: tl) rows nx i = some r) : PureOK P ι rows w nx r (Instr.extract ux i) := by
  simp only [kExtract, u1] at he
  obtain ⟨l, rfl, he⟩ := asTup_some.1 he
  obtain ⟨v, hv, rfl⟩ := rvo_some he
  rw [getN_eq] at hv
  cases hx with
  | tup hl =>
    obtain ⟨u, hu, hr⟩ := hl.get hv
    exact ⟨v, u, by simp [Instr.extract, hu], hr, rfl⟩

theorem fieldAddr_ok {t : TypeId} {fs : Array Field} {f : Field} {n : Nat} {x : AV} {ux : Value} (hu : P.underlying t = some (.struct fs)) (hf : fs.toList[n]? = some f) (hz : 0 < P.cellsOf f.type) (hx : VRel ι x ux) {tl : List AV}
    (he : kFieldAddr (x :: tl) rows nx f.offset = some r) : PureOK P ι rows w nx r (Instr.fieldAt t ux n) := by
  simp only [kFieldAddr, u1] at he
  obtain ⟨b, o, rfl, he⟩ := asPtr_some.1 he
  obtain rfl := rv_some he
  cases hx with
  | @ptr _ _ L hi =>
    refine ⟨_, .pointer (some (L.at (o + f.offset))), ?_, .ptr hi, rfl⟩
    have hf' : fs[n]? = some f := by simpa using hf
    have hs : (Go.sizeOf f.type).run P w = .ok (P.cellsOf f.type) w := by
      unfold Program.cellsOf at hz
      cases hi : P.info? f.type with
      | none => simp [hi] at hz
      | some i => unfold Go.sizeOf Program.cellsOf; simp [run_typeInfo hi, hi]
    unfold Instr.fieldAt Instr.sureAddr fieldPlace
    simp only [Sem.run_bind, Sem.run_pure, Result.andThen_ok, run_underlying hu, hf', hs, Sem.run_ite]
    rw [if_neg (by omega)]
    simp only [Result.andThen_ok]
    rw [addr_add]
    rfl

theorem field_ok {t : TypeId} {fs : Array Field} {f : Field} {n : Nat} {k : Kd} {x : AV} {ux : Value} (hu : P.underlying t = some (.struct fs)) (hf : fs.toList[n]? = some f) (hk : kdOf P f.type = some k) (hx : VRel ι x ux) {tl : List AV}
    (he : (u1 (x :: tl) fun x => asAgg x fun l => rvo rows nx (kd k (dropN f.offset l))) = some r) : PureOK P ι rows w nx r (Instr.field t ux n) := by
  simp only [u1] at he
  obtain ⟨l, rfl, he⟩ := asAgg_some.1 he
  obtain ⟨v, hv, rfl⟩ := rvo_some he
  cases hx with
  | agg hl h1 =>
    obtain ⟨u, hr, hvr⟩ := part_ok (w := w) hk hl h1 hv
    refine ⟨v, u, ?_, hvr, rfl⟩
    have hf' : fs[n]? = some f := by simpa using hf
    unfold Instr.field
    simp only [Go.asAgg, Sem.run_bind, Sem.run_pure, Result.andThen_ok, run_underlying hu, hf']
    simpa using hr

theorem indexSl_ok {t e : TypeId} {x i : AV} {ux ui : Value} (hu : P.underlying t = some (.slice e)) (hz : 0 < P.cellsOf e) (hx : VRel ι x ux) (hi : VRel ι i ui) {tl : List AV}
    (he : kIndexSl (x :: i :: tl) rows nx (P.cellsOf e) = some r) : PureOK P ι rows w nx r (Instr.indexAt t ux ui) := by
  simp only [kIndexSl, u2] at he
  obtain ⟨b, o, len, c, rfl, he⟩ := asSl_some.1 he
  obtain ⟨q, m, rfl, he⟩ := asNat_some.1 he
  obtain ⟨hlt, he⟩ := gd_some.1 he
  obtain rfl := rv_some he
  rw [blt_nat] at hlt
  simp only [decide_eq_true_eq] at hlt
  have hs : (Go.sizeOf e).run P w = .ok (P.cellsOf e) w := by
    unfold Program.cellsOf at hz
    cases hi : P.info? e with
    | none => simp [hi] at hz
    | some i => unfold Go.sizeOf Program.cellsOf; simp [run_typeInfo hi, hi]
  have main : ∀ (L : Loc) (cap : Nat), ι b = some L → (Instr.indexAt t (.slice (some (L.at o)) len cap) (.int q (Int.ofNat m))).run P w = .ok (.pointer (some (L.at (o + m * P.cellsOf e)))) w := fun L cap _ => by
    unfold Instr.indexAt
    simp only [asIntOf, Sem.run_bind, Sem.run_pure, Result.andThen_ok, run_underlying hu, hs, Sem.run_ite]
    rw [if_pos ⟨by simp, by simpa using hlt⟩]
    simp only [Int.ofNat_eq_natCast, Int.toNat_natCast]
    rw [addr_add]; rfl
  cases hi
  cases hx with
  | sliceEx hL _ => exact ⟨_, _, main _ _ hL, .ptr hL, rfl⟩
  | sliceOp hL _ _ => exact ⟨_, _, main _ _ hL, .ptr hL, rfl⟩

theorem indexAr_ok {t e : TypeId} {n : Nat} {x i : AV} {ux ui : Value} (hu : P.underlying t = some (.array n e)) (hz : 0 < P.cellsOf e) (hx : VRel ι x ux) (hi : VRel ι i ui) {tl : List AV}
    (he : kIndexAr (x :: i :: tl) rows nx n (P.cellsOf e) = some r) : PureOK P ι rows w nx r (Instr.indexAt t ux ui) := by
  simp only [kIndexAr, u2] at he
  obtain ⟨b, o, rfl, he⟩ := asPtr_some.1 he
  obtain ⟨q, m, rfl, he⟩ := asNat_some.1 he
  obtain ⟨hlt, he⟩ := gd_some.1 he
  obtain rfl := rv_some he
  rw [blt_nat] at hlt
  simp only [decide_eq_true_eq] at hlt
  have hs : (Go.sizeOf e).run P w = .ok (P.cellsOf e) w := by
    unfold Program.cellsOf at hz
    cases hi : P.info? e with
    | none => simp [hi] at hz
    | some i => unfold Go.sizeOf Program.cellsOf; simp [run_typeInfo hi, hi]
  cases hi
  cases hx with
  | @ptr _ _ L hL =>
    refine ⟨_, .pointer (some (L.at (o + m * P.cellsOf e))), ?_, .ptr hL, rfl⟩
    unfold Instr.indexAt Instr.sureAddr
    simp only [asIntOf, Sem.run_bind, Sem.run_pure, Result.andThen_ok, run_underlying hu, hs, Sem.run_ite]
    rw [if_pos ⟨by simp, by simpa using hlt⟩]
    simp only [Int.ofNat_eq_natCast, Int.toNat_natCast]
    rw [addr_add]; rfl

theorem pick_ok {c a b : AV} {uc ua ub : Value} (hc : VRel ι c uc) (ha : VRel ι a ua) (hb : VRel ι b ub) {tl : List AV} (he : kPick (c :: a :: b :: tl) rows nx = some r) :
    ∃ v u, (do pure (Next.value (if ← Go.asBool uc then ua else ub)) : Sem Next).run P w = .ok (.value u) w ∧ VRel ι v u ∧ r = ⟨v, rows, nx⟩ := by
  simp only [kPick, u3] at he
  obtain ⟨x, rfl, he⟩ := asBool_some.1 he
  cases hc
  cases x with
  | true => obtain rfl := rv_some he; exact ⟨a, ua, by simp [Go.asBool], ha, rfl⟩
  | false => obtain rfl := rv_some he; exact ⟨b, ub, by simp [Go.asBool], hb, rfl⟩

theorem not_ok {x : AV} {ux : Value} (hx : VRel ι x ux) {tl : List AV} (he : kNot (x :: tl) rows nx = some r) : PureOK P ι rows w nx r (Op.unary .not ux) := by
  simp only [kNot, u1] at he
  obtain ⟨b, rfl, he⟩ := asBool_some.1 he
  obtain rfl := rv_some he
  cases hx
  exact ⟨_, .bool (!b), by simp [Op.unary], .bool _, rfl⟩

theorem neg_ok {x : AV} {ux : Value} (hx : VRel ι x ux) {tl : List AV} (he : (u1 (x :: tl) fun x => asInt x fun k n => rv rows nx (.int k (wrapI k (Int.sub 0 n)))) = some r) : PureOK P ι rows w nx r (Op.unary .neg ux) := by
  simp only [u1] at he
  obtain ⟨k, n, rfl, he⟩ := asInt_some.1 he
  obtain rfl := rv_some he
  cases hx
  exact ⟨_, .int k (k.wrap (0 - n)), by simp [Op.unary, Op.intArith], by rw [wrapI_eq]; exact .int _ _, rfl⟩

theorem conv_ok {s t : TypeId} {k j : IntKind} {x : AV} {ux : Value} (hs : P.underlying s = some (.int j)) (ht : P.underlying t = some (.int k)) (hx : VRel ι x ux) {tl : List AV}
    (he : (u1 (x :: tl) fun x => asInt x fun _ n => rv rows nx (.int k (wrapI k n))) = some r) : PureOK P ι rows w nx r (convert s t ux) := by
  simp only [u1] at he
  obtain ⟨q, n, rfl, he⟩ := asInt_some.1 he
  obtain rfl := rv_some he
  cases hx
  refine ⟨_, .int k (k.wrap n), ?_, by rw [wrapI_eq]; exact .int _ _, rfl⟩
  unfold convert
  simp [run_underlying hs, run_underlying ht, Conv.intToInt]
theorem convStr_ok {s t : TypeId} {x : AV} {l : List UInt8} {ux : Value} (hs : P.underlying s = some .string) (ht : P.underlying t = some .string) (hx : VRel ι x ux) (hxs : x = .str l) : (convert s t ux).run P w = .ok ux w := by
  subst hxs
  cases hx
  unfold convert
  simp [run_underlying hs, run_underlying ht]
end
end Ev
end

/- What each operation of the evaluator's code comes to in the machine: slices of slices, lengths, tests. -/
section
namespace Ev
open Go Go.RowKit

section
variable {P : Program} {ι : Io} {rows : T ARow} {w : World} {nx : Nat} {r : R}

theorem run_size_pos {e : TypeId} (hz : 0 < P.cellsOf e) (w : World) : (Go.sizeOf e).run P w = .ok (P.cellsOf e) w := by
  unfold Program.cellsOf at hz
  cases hi : P.info? e with
  | none => simp [hi] at hz
  | some i => unfold Go.sizeOf Program.cellsOf; simp [run_typeInfo hi, hi]

theorem take1_some {β : Type} {has : Bool} {d : Nat} {vs : List AV} {f : Nat → List AV → Option β} {x : β} (h : take1 has d vs f = some x) :
    (has = false ∧ f d vs = some x) ∨ (has = true ∧ ∃ k n t, vs = .int k (.ofNat n) :: t ∧ f n t = some x) := by
  cases has with
  | false => exact .inl ⟨rfl, h⟩
  | true =>
    simp only [take1] at h
    obtain ⟨v, t, rfl, h⟩ := u1_some.1 h
    obtain ⟨k, n, rfl, h⟩ := asNat_some.1 h
    exact .inr ⟨rfl, k, n, t, rfl, h⟩
def Bnd (o : Option Value) (d n : Nat) : Prop := match o with | none => n = d | some v => ∃ k, v = .int k n
/-- One bound, there or not. -/
theorem bound_ok {β : Type} {o : Option Value} {d : Nat} {vs : List AV} {us : List Value} {f : Nat → List AV → Option β} {x : β} (h : take1 o.isSome d vs f = some x) (hv : VRelL ι vs (o.toList ++ us)) :
    ∃ n t, f n t = some x ∧ VRelL ι t us ∧ Bnd o d n := by
  cases o with
  | none =>
    rcases take1_some h with ⟨_, h⟩ | ⟨h, _⟩
    · exact ⟨d, vs, h, hv, rfl⟩
    · cases h
  | some v =>
    rcases take1_some h with ⟨h, _⟩ | ⟨_, k, n, t, rfl, h⟩
    · cases h
    · obtain ⟨u, t', e, h1, h2⟩ := hv.cons_inv
      simp at e
      obtain ⟨rfl, rfl⟩ := e
      cases h1
      exact ⟨n, t, h, h2, k, rfl⟩

theorem run_sliceBound {k : IntKind} {n y : Nat} (h : n ≤ y) (c : BoundsCode) : (Instr.sliceBound (.int k n) y c).run P w = .ok n w := by
  unfold Instr.sliceBound
  simp only [asIntOf, Sem.run_bind, Sem.run_pure, Result.andThen_ok, Sem.run_ite]
  rw [if_pos ⟨by omega, by omega⟩]
  simp
theorem run_sliceBounds {isSlice : Bool} {len cap l h m : Nat} {lo hi mx : Option Value} (hm : Bnd mx cap m) (hs : mx.isSome = true → hi.isSome = true) (hh : Bnd hi len h) (hl : Bnd lo 0 l)
    (h1 : l ≤ h) (h2 : h ≤ m) (h3 : m ≤ cap) : (Instr.sliceBounds isSlice len cap lo hi mx).run P w = .ok (l, h, m) w := by
  unfold Instr.sliceBounds
  cases mx with
  | none =>
    have hm : m = cap := hm
    subst hm
    cases hi with
    | none =>
      have hh : h = len := hh
      subst hh
      cases lo with
      | none => have hl : l = 0 := hl; subst hl; simp
      | some v => obtain ⟨k, rfl⟩ := hl; simp [run_sliceBound h1]
    | some u =>
      obtain ⟨j, rfl⟩ := hh
      cases lo with
      | none => have hl : l = 0 := hl; subst hl; simp [run_sliceBound h2]
      | some v => obtain ⟨k, rfl⟩ := hl; simp [run_sliceBound h1, run_sliceBound h2]
  | some x =>
    obtain ⟨q, rfl⟩ := hm
    cases hi with
    | none => cases hs rfl
    | some u =>
      obtain ⟨j, rfl⟩ := hh
      cases lo with
      | none => have hl : l = 0 := hl; subst hl; simp [run_sliceBound h2, run_sliceBound h3]
      | some v => obtain ⟨k, rfl⟩ := hl; simp [run_sliceBound h1, run_sliceBound h2, run_sliceBound h3]

theorem sliceStr_ok {t : TypeId} {x : AV} {ux : Value} {lo hi : Option Value} {tl : List AV} (hu : P.underlying t = some .string) (hx : VRel ι x ux) (hv : VRelL ι tl (lo.toList ++ (hi.toList ++ [])))
    (he : kSliceStr (x :: tl) rows nx lo.isSome hi.isSome = some r) : PureOK P ι rows w nx r (Instr.sliceAt t ux lo hi none) := by
  simp only [kSliceStr, u1] at he
  obtain ⟨s, rfl, he⟩ := asStr_some.1 he
  simp only [List.tail_cons] at he
  obtain ⟨a, t1, he, hv, ha⟩ := bound_ok he hv
  obtain ⟨b, t2, he, hv, hb⟩ := bound_ok he hv
  obtain ⟨hab, he⟩ := gd_some.1 he
  obtain ⟨q, hq, he⟩ := bo_some.1 he
  obtain rfl := rv_some he
  rw [ble_nat, ble_nat, lenN_eq] at hab
  simp only [Bool.and_eq_true, decide_eq_true_eq] at hab
  obtain ⟨hab, hbl⟩ := hab
  obtain ⟨hn, rfl⟩ := takeN_some.1 hq
  rw [dropN_eq]
  rw [lenN_eq] at hb
  cases hx
  refine ⟨_, .string ⟨⟨((s.drop a).take (b - a))⟩⟩, ?_, .str _, rfl⟩
  have hsz : (⟨⟨s⟩⟩ : ByteArray).size = s.length := rfl
  unfold Instr.sliceAt Instr.slice
  simp only [Sem.run_bind, run_underlying hu, Result.andThen_ok, Option.isSome_none, Bool.false_eq_true, if_false, Sem.run_pure, hsz]
  rw [run_sliceBounds (m := s.length) (show Bnd none s.length s.length from rfl) (fun h => by cases h) hb ha hab hbl (Nat.le_refl _)]
  simp only [Result.andThen_ok]
  congr 2
  have := Lib.extract_data ⟨⟨s⟩⟩ a b
  generalize (⟨⟨s⟩⟩ : ByteArray).extract a b = z at this ⊢
  obtain ⟨⟨z⟩⟩ := z
  simpa using this
end
end Ev
end

/- What each operation of the evaluator's code comes to in the machine: slices of slices, lengths, tests, maps that are read. -/
section
namespace Ev
open Go Go.RowKit

section
variable {P : Program} {ι : Io} {rows : T ARow} {w : World} {nx : Nat} {r : R}

theorem slEx_rel {b o l h c sz : Nat} {L : Loc} (hL : ι b = some L) (h1 : l ≤ h) (h2 : h ≤ c) :
    VRel ι (slEx b o l h c sz) (.slice (if c = l then some (L.at o) else (some (L.at o)).map (·.add (l * sz))) (h - l) (c - l)) := by
  unfold slEx
  rw [beq_nat]
  by_cases e : c = l
  · simp only [e, decide_true, if_true]; exact .sliceEx hL (by simp only [Nat.sub_eq]; omega)
  · simp only [e, decide_false, if_false, Option.map_some]
    rw [addr_add]
    exact .sliceEx (L := L) (o := o + l * sz) hL (by simp only [Nat.sub_eq]; omega)

theorem sliceSl_ok {t e : TypeId} {x : AV} {ux : Value} {lo hi mx : Option Value} {tl : List AV} (hu : P.underlying t = some (.slice e)) (hz : 0 < P.cellsOf e) (hmh : mx.isSome = true → hi.isSome = true) (hx : VRel ι x ux) (hv : VRelL ι tl (lo.toList ++ (hi.toList ++ (mx.toList ++ []))))
    (he : kSliceSl (x :: tl) rows nx (P.cellsOf e) lo.isSome hi.isSome mx.isSome = some r) : PureOK P ι rows w nx r (Instr.sliceAt t ux lo hi mx) := by
  simp only [kSliceSl, u1] at he
  have hop : ∀ (p : Option Addr) (len cap l h m : Nat), Bnd mx cap m → Bnd hi len h → Bnd lo 0 l → l ≤ h → h ≤ m → m ≤ cap →
      (Instr.sliceAt t (.slice p len cap) lo hi mx).run P w = .ok (.slice (if m = l then p else p.map (·.add (l * P.cellsOf e))) (h - l) (m - l)) w := by
    intro p len cap l h m hm hh hl h1 h2 h3
    unfold Instr.sliceAt Instr.slice
    simp only [Sem.run_bind, run_underlying hu, Result.andThen_ok]
    rw [run_sliceBounds hm hmh hh hl h1 h2 h3]
    simp only [Result.andThen_ok, run_size_pos hz, Sem.run_pure]
  cases x with
  | slice b o len cap =>
    simp only [List.tail_cons] at he
    obtain ⟨l, t1, he, hv, hl⟩ := bound_ok he hv
    obtain ⟨h, t2, he, hv, hh⟩ := bound_ok he hv
    obtain ⟨hb, he⟩ := gd_some.1 he
    rw [ble_nat, ble_nat] at hb
    simp only [Bool.and_eq_true, decide_eq_true_eq] at hb
    obtain ⟨hlh, hhl⟩ := hb
    cases mx with
    | some vm =>
      simp only [Option.isSome_some] at he
      obtain ⟨m, t3, he, hv, hm⟩ := bound_ok (o := some vm) he hv
      obtain ⟨hb, he⟩ := gd_some.1 he
      rw [ble_nat, ble_nat] at hb
      simp only [Bool.and_eq_true, decide_eq_true_eq] at hb
      obtain rfl := rv_some he
      cases hx with
      | sliceEx hL hc => exact ⟨_, _, hop _ _ _ l h m hm hh hl hlh hb.1 (by omega), slEx_rel hL hlh hb.1, rfl⟩
      | sliceOp hL hc _ => exact ⟨_, _, hop _ _ _ l h m hm hh hl hlh hb.1 (by omega), slEx_rel hL hlh hb.1, rfl⟩
    | none =>
      simp only [Option.isSome_none] at he
      cases cap with
      | ex c =>
        obtain rfl := rv_some he
        cases hx with
        | sliceEx hL hc => exact ⟨_, _, hop _ _ _ l h c rfl hh hl hlh (by omega) (by omega), slEx_rel hL hlh (by omega), rfl⟩
      | op s =>
        simp only at he
        cases hx with
        | @sliceOp _ _ _ c _ L hL hc hroom =>
          have hrun := hop (some (L.at o)) len c l h c rfl hh hl hlh (by omega) (by omega)
          rw [blt_nat, beq_nat] at he
          by_cases hd : l < len ∨ l = 0
          · have : (decide (l < len) || decide (l = 0)) = true := by simpa using hd
            rw [this] at he
            simp only at he
            obtain ⟨hs, he⟩ := gd_some.1 he
            rw [beq_nat] at hs
            simp only [decide_eq_true_eq] at hs
            subst hs
            obtain rfl := rv_some he
            refine ⟨_, _, hrun, ?_, rfl⟩
            have ee : (if c = l then some (L.at o) else (some (L.at o)).map (·.add (l * P.cellsOf e))) = some (L.at (o + l * P.cellsOf e)) := by
              by_cases ec : c = l
              · have : l = 0 := by omega
                subst this
                simp [ec]
              · rw [if_neg ec, Option.map_some, addr_add]; rfl
            rw [ee]
            have h4 : (c - l) * P.cellsOf e + l * P.cellsOf e = c * P.cellsOf e := by rw [← Nat.add_mul]; congr 1; omega
            exact .sliceOp (L := L) hL (by simp only [Nat.sub_eq]; omega) (by simp only [Nat.add_eq, Nat.mul_eq]; omega)
          · have : (decide (l < len) || decide (l = 0)) = false := by simpa using hd
            rw [this] at he
            simp only at he
            obtain rfl := rv_some he
            refine ⟨_, _, hrun, ?_, rfl⟩
            have : h - l = 0 := by omega
            rw [this]
            exact .empty _ _
  | nil k =>
    cases k <;> simp only at he <;> try (cases he; done)
    case slice =>
      simp only [List.tail_cons] at he
      obtain ⟨l, t1, he, hv, hl⟩ := bound_ok he hv
      obtain ⟨h, t2, he, hv, hh⟩ := bound_ok he hv
      obtain ⟨hb, he1⟩ := gd_some.1 he
      rw [beq_nat, beq_nat] at hb
      simp only [Bool.and_eq_true, decide_eq_true_eq, Bool.not_eq_true'] at hb
      obtain ⟨hl0, hh0, hm⟩ := hb
      have hr := rv_some he1
      cases mx with
      | some _ => cases hm
      | none =>
        cases hx with
        | nilSlice =>
          subst hl0; subst hh0
          exact ⟨_, _, hop none 0 0 0 0 0 rfl hh hl (Nat.le_refl _) (Nat.le_refl _) (Nat.le_refl _), by simpa using .nilSlice, hr⟩
  | _ => cases he

theorem sliceArr_ok {t e : TypeId} {n : Nat} {x : AV} {ux : Value} {lo hi mx : Option Value} {tl : List AV} (hu : P.underlying t = some (.array n e)) (hz : 0 < P.cellsOf e) (hmh : mx.isSome = true → hi.isSome = true) (hx : VRel ι x ux) (hv : VRelL ι tl (lo.toList ++ (hi.toList ++ (mx.toList ++ []))))
    (he : kSliceArr (x :: tl) rows nx n (P.cellsOf e) lo.isSome hi.isSome mx.isSome = some r) : PureOK P ι rows w nx r (Instr.sliceAt t ux lo hi mx) := by
  simp only [kSliceArr, u1] at he
  obtain ⟨b, o, rfl, he⟩ := asPtr_some.1 he
  simp only [List.tail_cons] at he
  obtain ⟨l, t1, he, hv, hl⟩ := bound_ok he hv
  obtain ⟨h, t2, he, hv, hh⟩ := bound_ok he hv
  obtain ⟨m, t3, he, hv, hm⟩ := bound_ok he hv
  obtain ⟨hb, he⟩ := gd_some.1 he
  rw [ble_nat, ble_nat, ble_nat] at hb
  simp only [Bool.and_eq_true, decide_eq_true_eq] at hb
  obtain ⟨h1, h2, h3⟩ := hb
  obtain rfl := rv_some he
  cases hx with
  | @ptr _ _ L hL =>
    refine ⟨_, _, ?_, slEx_rel (sz := P.cellsOf e) hL h1 h2, rfl⟩
    unfold Instr.sliceAt Instr.sureAddr
    simp only [Sem.run_bind, run_underlying hu, Result.andThen_ok, Sem.run_pure]
    rw [run_sliceBounds hm hmh hh hl h1 h2 h3]
    simp only [Result.andThen_ok, run_size_pos hz]
    by_cases q : m = l <;> simp [q]

theorem MapRel.length : ∀ {l : List (AV × AV)} {es : List MapEntry}, MapRel ι l es → l.length = es.length
  | _, _, .nil => rfl
  | _, _, .cons _ _ t => congrArg (· + 1) t.length
theorem map_row {IR : Nat → IC → Code → Prop} {B : Base} (h : HRel IR B ι rows w) {b : Nat} {es : List (AV × AV)} (hb : rows.get b = some (.map es) ∨ rows.get b = some (.roM es)) :
    ∃ L m clock, ι b = some L ∧ w.heap[L.blk]? = some (.map m clock) ∧ MapRel ι es m.toList := by
  rcases hb with hb | hb
  · obtain ⟨L, o, h1, h2, h3⟩ := h.row b _ hb
    cases h3 with
    | map hm _ => exact ⟨L, _, _, h1, h2, hm⟩
  · obtain ⟨L, o, h1, h2, h3⟩ := h.row b _ hb
    cases h3 with
    | roM hm _ => exact ⟨L, _, _, h1, h2, hm⟩

theorem len_ok {IR : Nat → IC → Code → Prop} {B : Base} (h : HRel IR B ι rows w) {t ty : TypeId} {d : TypeDesc} {lk : LK} {x : AV} {ux : Value} (hu : P.underlying t = some d)
    (hd : match lk with | .str => d = .string | .sl => ∃ e, d = .slice e | .map => ∃ k e, d = .map k e) (hx : VRel ι x ux) {tl : List AV} {ts : Array TypeId} (hat : ts[0]? = some t) {args : Array Value} (ha : args[0]? = some ux)
    (he : kLen (x :: tl) rows nx lk = some r) : PureOK P ι rows w nx r (Builtin.len_ ts ty args) := by
  simp only [kLen, u1] at he
  obtain ⟨n, hn, he⟩ := bo_some.1 he
  obtain rfl := rv_some he
  refine ⟨_, .int .i64 (.ofNat n), ?_, .int _ _, rfl⟩
  unfold Builtin.len_
  simp only [hat, ha, Sem.run_bind, run_underlying hu, Result.andThen_ok]
  cases lk with
  | str =>
    simp only at hd
    subst hd
    obtain ⟨s, rfl, hn2⟩ := asStr_some.1 hn
    cases hx
    rw [lenN_eq] at hn2
    simp only [Option.some.injEq] at hn2
    subst hn2
    simp [goInt, ByteArray.size]
  | sl =>
    obtain ⟨e, rfl⟩ := hd
    simp only [lenV] at hn
    cases x with
    | slice b o len c => cases hx <;> (cases hn; simp [goInt])
    | nil k => cases k <;> simp only at hn <;> try (cases hn; done)
               case slice => cases hx; cases hn; simp [goInt]
    | empty => cases hx; cases hn; simp [goInt]
    | _ => cases hn
  | map =>
    obtain ⟨k, e, rfl⟩ := hd
    simp only [lenV] at hn
    cases x with
    | nil k => cases k <;> simp only at hn <;> try (cases hn; done)
               case map => cases hx; cases hn; simp [goInt]
    | map b =>
      simp only at hn
      have hn' : ∃ es, (rows.get b = some (.map es) ∨ rows.get b = some (.roM es)) ∧ some (lenN es) = some n := by
        split at hn
        · exact ⟨_, .inl (by assumption), hn⟩
        · exact ⟨_, .inr (by assumption), hn⟩
        · cases hn
      clear hn
      obtain ⟨es, hb, hn⟩ := hn'
      · obtain ⟨L, m, clock, hL, hw, hm⟩ := map_row h hb
        cases hx with
        | map hL' =>
          rw [hL] at hL'
          cases hL'
          rw [lenN_eq] at hn
          simp only [Option.some.injEq] at hn
          subst hn
          have := hm.length
          simp only [Sem.run_bind, getObj, Sem.run, hw, Result.andThen_ok]
          simp [goInt, this]
    | _ => cases hn

theorem cap_ok {t e ty : TypeId} {x : AV} {ux : Value} (hu : P.underlying t = some (.slice e)) (hx : VRel ι x ux) {tl : List AV} {ts : Array TypeId} (hat : ts[0]? = some t) {args : Array Value} (ha : args[0]? = some ux)
    (he : evRare (x :: tl) rows nx .cap = some r) : PureOK P ι rows w nx r (Builtin.cap_ ts ty args) := by
  simp only [evRare, u1] at he
  unfold PureOK Builtin.cap_
  simp only [hat, ha, Sem.run_bind, run_underlying hu, Result.andThen_ok]
  cases x with
  | slice b o len c =>
    simp only at he
    cases c with
    | ex n => obtain rfl := rv_some he; cases hx; exact ⟨_, _, by simp; rfl, .int _ _, rfl⟩
    | op s => cases he
  | nil k =>
    cases k <;> simp only at he <;> try (cases he; done)
    case slice => obtain rfl := rv_some he; cases hx; exact ⟨_, _, by simp; rfl, .int _ _, rfl⟩
  | _ => cases he

theorem max2_ok {x y v : AV} {ux uy : Value} (h : max2 x y = some v) (hx : VRel ι x ux) (hy : VRel ι y uy) : ∃ u, (Builtin.max2 ux uy).run P w = .ok u w ∧ VRel ι v u := by
  cases x <;> simp only [max2] at h <;> try (cases h; done)
  case int k a =>
    obtain ⟨j, b, rfl, h⟩ := asInt_some.1 h
    cases hx; cases hy
    cases h
    refine ⟨.int k (if b > a then b else a), by simp [Builtin.max2], ?_⟩
    rw [ltI_eq]
    by_cases q : a < b
    · simp only [q, decide_true, if_true]; exact .int _ _
    · simp only [q, decide_false, if_false]; exact .int _ _
  case str a =>
    obtain ⟨b, rfl, h⟩ := asStr_some.1 h
    cases hx; cases hy
    cases h
    rw [ltB_eq]
    by_cases q : Op.bytesLess a b = true
    · exact ⟨.string ⟨⟨b⟩⟩, by simp [Builtin.max2, Op.stringOp, Go.asBool, ByteArray.toList_eq, q], by rw [q]; exact .str _⟩
    · have q : Op.bytesLess a b = false := by simpa using q
      exact ⟨.string ⟨⟨a⟩⟩, by simp [Builtin.max2, Op.stringOp, Go.asBool, ByteArray.toList_eq, q], by rw [q]; exact .str _⟩
theorem min2_ok {x y v : AV} {ux uy : Value} (h : min2 x y = some v) (hx : VRel ι x ux) (hy : VRel ι y uy) : ∃ u, (Builtin.min2 ux uy).run P w = .ok u w ∧ VRel ι v u := by
  cases x <;> simp only [min2] at h <;> try (cases h; done)
  case int k a =>
    obtain ⟨j, b, rfl, h⟩ := asInt_some.1 h
    cases hx; cases hy
    cases h
    refine ⟨.int k (if b < a then b else a), by simp [Builtin.min2], ?_⟩
    rw [ltI_eq]
    by_cases q : b < a
    · simp only [q, decide_true, if_true]; exact .int _ _
    · simp only [q, decide_false, if_false]; exact .int _ _
  case str a =>
    obtain ⟨b, rfl, h⟩ := asStr_some.1 h
    cases hx; cases hy
    cases h
    rw [ltB_eq, beqB_eq]
    by_cases q : (Op.bytesLess a b || decide (a = b)) = true
    · refine ⟨.string ⟨⟨a⟩⟩, ?_, by rw [q]; exact .str _⟩
      simp only [Bool.or_eq_true, decide_eq_true_eq] at q
      simp [Builtin.min2, Op.stringOp, Go.asBool, ByteArray.toList_eq, q]
    · have q' : (Op.bytesLess a b || decide (a = b)) = false := by simpa using q
      refine ⟨.string ⟨⟨b⟩⟩, ?_, by rw [q']; exact .str _⟩
      simp only [Bool.or_eq_true, decide_eq_true_eq] at q
      simp [Builtin.min2, Op.stringOp, Go.asBool, ByteArray.toList_eq, q]
end
end Ev
end
