/- An evaluator for the loaded Code, over a heap of its own: definitions alone. -/
import GoSem.ClaimFollow
import Derived.Laws.CopyRow
import Derived.Laws.Cells
import Derived.Laws.Entries
import Derived.RangeFuncIn
import Derived.Below

set_option linter.unusedSimpArgs false
set_option linter.unusedVariables false
section
namespace Ev
open Go

inductive T (α : Type) where
  | nil
  | node (v : Option α) (l r : T α)
  deriving Inhabited

noncomputable def T.get {α} (t : T α) : Nat → Option α :=
  T.rec (motive := fun _ => Nat → Option α) (fun _ => none)
    (fun v _ _ il ir n => Nat.rec (motive := fun _ => Option α) v
      (fun k _ => Bool.rec (motive := fun _ => Option α) (ir (Nat.div k 2)) (il (Nat.div k 2)) (Nat.beq (Nat.mod k 2) 0)) n) t

noncomputable def T.setF {α} (x : Option α) : Nat → T α → Nat → T α :=
  Nat.rec (motive := fun _ => T α → Nat → T α) (fun t _ => t)
    (fun _ ih t n => T.rec (motive := fun _ => T α)
      (Nat.rec (motive := fun _ => T α) (.node x .nil .nil)
        (fun k _ => Bool.rec (motive := fun _ => T α) (.node none .nil (ih .nil (Nat.div k 2))) (.node none (ih .nil (Nat.div k 2)) .nil) (Nat.beq (Nat.mod k 2) 0)) n)
      (fun v l r _ _ => Nat.rec (motive := fun _ => T α) (.node x l r)
        (fun k _ => Bool.rec (motive := fun _ => T α) (.node v l (ih r (Nat.div k 2))) (.node v (ih l (Nat.div k 2)) r) (Nat.beq (Nat.mod k 2) 0)) n) t)

noncomputable def T.set {α} (t : T α) (n : Nat) (x : Option α) : T α := T.setF x (Nat.succ n) t n

/-- What is known of a slice's capacity: just so much; or at least the length, with room of its own behind it (elements of so many cells). -/
inductive Cap where
  | ex (n : Nat)
  | op (sz : Nat)
  deriving Inhabited, DecidableEq

inductive NK where
  | ptr | slice | map | fn | iface
  deriving Inhabited, DecidableEq

inductive AV where
  | undef
  | bool (b : Bool)
  | int (k : IntKind) (n : Int)
  | str (s : List UInt8)
  | ptr (b o : Nat)
  | slice (b o len : Nat) (c : Cap)
  | agg (l : List AV)
  | tup (l : List AV)
  | fn (f : Nat) (cap : List AV)
  | nil (k : NK)
  | map (b : Nat)
  | yld (l : Nat)
  | iface
  | empty
  deriving Inhabited

inductive Opd where
  | t (n : Nat)
  | c (v : AV)
  deriving Inhabited

inductive Kd where
  | one
  | many (n : Nat)
  deriving Inhabited

def Kd.width (k : Kd) : Nat := match k with | .one => 1 | .many n => n

/-- Where a part of what is built lies, and how wide it is. -/
abbrev Offs := List (Nat × Kd)

/-- A cell of a struct or an array that is compared. -/
inductive SK where
  | bool
  | int (k : IntKind)
  | str
  deriving Inhabited

/-- The cells of a type that is compared; is it a struct or an array? -/
structure Sh where
  ag : Bool
  l : List SK
  deriving Inhabited

inductive Rare where
  | makeFunc (f : Nat)
  | makeSlice (zero : List AV) (bytes : Nat)
  | makeMap
  | lookup (sh : Sh) (zero : AV) (ok : Bool)
  | mapUpdate (sh : Sh)
  | cap
  | max
  | min
  | toBytes
  | clear (zero : List AV)
  | iface
  | str
  | appendZ (sz bytes t : Nat) (zero : List AV)
  | sliceStr (lo hi : Bool)
  | sliceSl (sz : Nat) (lo hi mx : Bool)
  | sliceArr (n sz : Nat) (lo hi mx : Bool)
  | buildSlice (zero : List AV) (len : Nat) (offs : Offs)
  | append (sz bytes t : Nat)
  | indexArr (n sz : Nat) (k : Kd)
  | field (k : Kd) (off : Nat)
  | conv (k : IntKind)
  | neg
  | nilCheck
  | binB (neg : Bool)
  | binN (neg : Bool) (k : NK)
  | binA (neg : Bool) (sh : List SK)
  | unPtr
  | toPtr (t sz : Nat)
  | binP (neg : Bool)
  | sliceData
  | unString (t : Nat)
  | toStr
  | mapEntry (sh : Sh) (zero : AV)
  | entryStore
  | globAt (g n sz : Nat)
  | globLoad (g : Nat) (k : Kd)
  deriving Inhabited

inductive LK where
  | str | sl | map
  deriving Inhabited

inductive K where
  | mv
  | pick
  | box (g : Nat)
  | build (zero : List AV) (offs : Offs)
  | load (k : Kd)
  | store (k : Kd)
  | binI (op : BinOp)
  | binS (op : BinOp)
  | not
  | fieldAddr (off : Nat)
  | indexSl (sz : Nat)
  | indexAr (n sz : Nat)
  | indexStr
  | extract (i : Nat)
  | call (f : Nat)
  | callv
  | len (k : LK)
  | rare (r : Rare)
  | bad
  deriving Inhabited

structure GOp where
  g : Option (Nat × Bool)
  d : Nat
  k : K
  xs : List Opd
  deriving Inhabited

/-- What an operation has to do with memory: nothing; it reads; it lays a new row; anything. -/
inductive Cls where
  | p | l | a | c
  deriving Inhabited, DecidableEq

/-- An operation of a region whose order is open: its number there; the new rows that it takes up (of one that may do anything); from when to when it may be run (of one that reads: at which of the others), whether that is looked at. -/
structure DOp where
  i : Nat
  cls : Cls
  acc : List Nat
  lo : Nat
  hi : Nat
  chk : Bool
  g : GOp
  deriving Inhabited

inductive IC where
  | skip
  | ops (l : List GOp)
  | draw (n : Nat) (l : List DOp) (rest : List Nat)
  | seq (a b : IC)
  | cond (c : Opd) (a b : IC)
  | block (id : Nat) (b : IC)
  | loop (b : IC)
  | range (f : Opd) (params : List Nat) (assign body : IC)
  | exit (id : Nat)
  | ret
  | bad
  deriving Inhabited

inductive Ex where
  | normal
  | exit (id : Nat)
  | ret
  deriving Inhabited

inductive ARow where
  | cells (g : Nat) (l : List AV)
  | map (es : List (AV × AV))
  | loop (tm : T AV) (params : List Nat) (assign body : IC) (pend : Option Ex)
  | ro (k : Nat) (l : List AV)
  | roM (es : List (AV × AV))
  deriving Inhabited

/-- A row that is but read. -/
def ARow.isRo (r : ARow) : Bool := match r with | .ro _ _ => true | .roM _ => true | _ => false
/-- The cells of a row. -/
def rdRow (r : ARow) : Option (List AV) := match r with | .cells _ l => some l | .ro _ l => some l | _ => none

structure St where
  tm : T AV
  rows : T ARow
  nx : Nat
  deriving Inhabited

structure IFn where
  n : Nat
  body : IC
  results : List (Nat × Option Kd)
  deriving Inhabited

/-- What is called: a function; the same, of code that is at hand; a round of a loop. -/
inductive Tg where
  | f (n : Nat)
  | r (n : Nat)
  | y (l : Nat)

structure R where
  v : AV
  rows : T ARow
  nx : Nat

abbrev CallF := Tg → List AV → T ARow → Nat → Option R

def bo {α β} (x : Option α) (f : α → Option β) : Option β := match x with | some a => f a | none => none
def gd {β} (b : Bool) (x : Option β) : Option β := match b with | true => x | false => none

noncomputable def Opd.ev (tm : T AV) (x : Opd) : AV := match x with
  | .t n => match tm.get n with | some v => v | none => .undef
  | .c v => v

def asPtr {β} (v : AV) (f : Nat → Nat → Option β) : Option β := match v with | .ptr b o => f b o | _ => none
def asSl {β} (v : AV) (f : Nat → Nat → Nat → Cap → Option β) : Option β := match v with | .slice b o l c => f b o l c | _ => none
def asNat {β} (v : AV) (f : Nat → Option β) : Option β := match v with | .int _ n => (match n with | .ofNat n => f n | _ => none) | _ => none
def asInt {β} (v : AV) (f : IntKind → Int → Option β) : Option β := match v with | .int k n => f k n | _ => none
def asStr {β} (v : AV) (f : List UInt8 → Option β) : Option β := match v with | .str s => f s | _ => none
def asBool {β} (v : AV) (f : Bool → Option β) : Option β := match v with | .bool b => f b | _ => none
def asAgg {β} (v : AV) (f : List AV → Option β) : Option β := match v with | .agg l => f l | _ => none
def asTup {β} (v : AV) (f : List AV → Option β) : Option β := match v with | .tup l => f l | _ => none
def asCells {β} (v : Option ARow) (f : Nat → List AV → Option β) : Option β := match v with | some r => (match r with | .cells g l => f g l | _ => none) | none => none
def asRead {β} (v : Option ARow) (f : List AV → Option β) : Option β := match v with | some r => (match r with | .cells _ l => f l | .ro _ l => f l | _ => none) | none => none
def AV.cells (v : AV) : List AV := match v with | .agg l => l | v => [v]
/-- A value of one cell (or a struct of such). -/
def AV.stored (v : AV) : Bool := match v with | .undef => false | .tup _ => false | _ => true

def one (v : AV) : Option (List AV) := match v with | .undef => none | .tup _ => none | .agg _ => none | v => some [v]
noncomputable def dropN {α} : Nat → List α → List α :=
  Nat.rec (motive := fun _ => List α → List α) (fun l => l) (fun _ ih l => List.casesOn l [] (fun _ l => ih l))
noncomputable def takeN {α} : Nat → List α → Option (List α) :=
  Nat.rec (motive := fun _ => List α → Option (List α)) (fun _ => some []) (fun _ ih l => List.casesOn l none (fun a l => bo (ih l) fun r => some (a :: r)))
noncomputable def getN {α} : Nat → List α → Option α :=
  Nat.rec (motive := fun _ => List α → Option α) (fun l => List.casesOn l none (fun a _ => some a)) (fun _ ih l => List.casesOn l none (fun _ l => ih l))
noncomputable def put0 {α} (vs : List α) : List α → Option (List α) :=
  List.rec (motive := fun _ => List α → Option (List α)) (fun l => some l) (fun v _ ih l => List.casesOn l none (fun _ l => bo (ih l) fun r => some (v :: r))) vs
noncomputable def putN {α} (vs : List α) : Nat → List α → Option (List α) :=
  Nat.rec (motive := fun _ => List α → Option (List α)) (put0 vs) (fun _ ih l => List.casesOn l none (fun a l => bo (ih l) fun r => some (a :: r)))
noncomputable def lenN {α} (l : List α) : Nat := List.rec 0 (fun _ _ n => Nat.succ n) l
noncomputable def appN {α} (l m : List α) : List α := List.rec m (fun a _ r => a :: r) l
noncomputable def mapN {α β} (f : α → β) (l : List α) : List β := List.rec [] (fun a _ r => f a :: r) l
noncomputable def repl {α} (n : Nat) (l : List α) : List α := Nat.rec [] (fun _ r => appN l r) n

noncomputable def beqB (l : List UInt8) : List UInt8 → Bool :=
  List.rec (motive := fun _ => List UInt8 → Bool) (fun m => List.casesOn m true (fun _ _ => false))
    (fun a _ ih m => List.casesOn m false (fun b m => Bool.rec false (ih m) (Nat.beq a.toNat b.toNat))) l
noncomputable def ltB (l : List UInt8) : List UInt8 → Bool :=
  List.rec (motive := fun _ => List UInt8 → Bool) (fun m => List.casesOn m false (fun _ _ => true))
    (fun a _ ih m => List.casesOn m false (fun b m => Bool.rec (Bool.rec false (ih m) (Nat.beq a.toNat b.toNat)) true (Nat.blt a.toNat b.toNat))) l

def eqI (x y : Int) : Bool := match x with
  | .ofNat a => (match y with | .ofNat b => Nat.beq a b | .negSucc _ => false)
  | .negSucc a => (match y with | .ofNat _ => false | .negSucc b => Nat.beq a b)
def ltI (x y : Int) : Bool := match x with
  | .ofNat a => (match y with | .ofNat b => Nat.blt a b | .negSucc _ => false)
  | .negSucc a => (match y with | .ofNat _ => true | .negSucc b => Nat.blt b a)
def limP (k : IntKind) : Nat := match k with
  | .i8 => 128 | .i16 => 32768 | .i32 => 2147483648 | .i64 => 9223372036854775808
  | .u8 => 256 | .u16 => 65536 | .u32 => 4294967296 | .u64 => 18446744073709551616
def limN (k : IntKind) : Nat := match k with
  | .i8 => 128 | .i16 => 32768 | .i32 => 2147483648 | .i64 => 9223372036854775808
  | _ => 0
def wrapI (k : IntKind) (n : Int) : Int := match n with
  | .ofNat m => match Nat.blt m (limP k) with | true => n | false => k.wrap n
  | .negSucc m => match Nat.blt m (limN k) with | true => n | false => k.wrap n

def inR (k : IntKind) (n : Int) : Bool := match n with
  | .ofNat m => Nat.blt m (limP k)
  | .negSucc m => Nat.blt m (limN k)
/-- Two bools, numbers, texts: the same? -/
noncomputable def eq1 (sk : SK) (x y : AV) : Option Bool := match sk with
  | .bool => asBool x fun a => asBool y fun b => some (match a with | true => b | false => !b)
  | .int q => asInt x fun j a => asInt y fun k b => gd ((q == j) && ((q == k) && (inR q a && inR q b))) (some (eqI a b))
  | .str => asStr x fun a => asStr y fun b => gd (Nat.ble (lenN a) 1000000 && Nat.ble (lenN b) 1000000) (some (beqB a b))
noncomputable def eqL (sh : List SK) : List AV → List AV → Option Bool :=
  List.rec (motive := fun _ => List AV → List AV → Option Bool) (fun l m => List.casesOn l (List.casesOn m (some true) (fun _ _ => none)) (fun _ _ => none))
    (fun k _ ih l m => List.casesOn l none (fun a l => List.casesOn m none (fun b m => bo (eq1 k a b) fun e => bo (ih l m) fun r => some (match e with | true => r | false => false)))) sh
/-- Two values of a type of such cells. -/
noncomputable def eqA (sh : Sh) (x y : AV) : Option Bool := match sh.ag with
  | true => asAgg x fun l => asAgg y fun m => eqL sh.l l m
  | false => (match sh.l with
    | [k] => eq1 k x y
    | _ => none)
def flipB (n b : Bool) : Bool := match n with | true => !b | false => b
/-- Against nil, at a type of a kind. -/
def isNil (k : NK) (v : AV) : Option Bool := match k with
  | .slice => (match v with | .nil j => gd (decide (j = .slice)) (some true) | .slice .. => some false | _ => none)
  | .ptr => (match v with | .nil j => gd (decide (j = .ptr)) (some true) | .ptr .. => some false | _ => none)
  | .map => (match v with | .nil j => gd (decide (j = .map)) (some true) | .map _ => some false | _ => none)
  | .fn => (match v with | .nil j => gd (decide (j = .fn)) (some true) | .fn .. => some false | _ => none)
  | .iface => (match v with | .nil j => gd (decide (j = .iface)) (some true) | .iface => some false | _ => none)

def tdivI (k : IntKind) (x y : Int) : Option AV := match eqI y 0 with | true => none | false => some (.int k (wrapI k (x.tdiv y)))
def tmodI (k : IntKind) (x y : Int) : Option AV := match eqI y 0 with | true => none | false => some (.int k (x.tmod y))
def shlI (k : IntKind) (x y : Int) : Option AV := match y with | .ofNat n => some (.int k (wrapI k (x * 2 ^ (min n k.bits)))) | _ => none
def shrI (k : IntKind) (x y : Int) : Option AV := match y with | .ofNat n => some (.int k (x.fdiv (2 ^ (min n k.bits)))) | _ => none
def bitI (op : BinOp) (k : IntKind) (x y : Int) : Option AV := match op with
  | .and => some (.int k (wrapI k ((BitVec.ofInt k.bits x &&& BitVec.ofInt k.bits y).toNat)))
  | .or => some (.int k (wrapI k ((BitVec.ofInt k.bits x ||| BitVec.ofInt k.bits y).toNat)))
  | .xor => some (.int k (wrapI k ((BitVec.ofInt k.bits x ^^^ BitVec.ofInt k.bits y).toNat)))
  | _ => none
def binI1 (op : BinOp) (k : IntKind) (x y : Int) : Option AV :=
  match op with
  | .add => some (.int k (wrapI k (Int.add x y)))
  | .sub => some (.int k (wrapI k (Int.sub x y)))
  | .mul => some (.int k (wrapI k (Int.mul x y)))
  | .quo => tdivI k x y
  | .rem => tmodI k x y
  | .eql => some (.bool (eqI x y)) | .neq => some (.bool (!eqI x y))
  | .lss => some (.bool (ltI x y)) | .leq => some (.bool (!ltI y x))
  | .gtr => some (.bool (ltI y x)) | .geq => some (.bool (!ltI x y))
  | op => bitI op k x y
def binI2 (op : BinOp) (k j : IntKind) (x y : Int) : Option AV :=
  match op with
  | .shl => shlI k x y
  | .shr => shrI k x y
  | op => gd (k == j) (binI1 op k x y)
noncomputable def binS1 (op : BinOp) (x y : List UInt8) : Option AV :=
  match op with
  | .add => gd (Nat.ble (Nat.add (lenN x) (lenN y)) 9223372036854775807) (some (.str (appN x y)))
  | .eql => some (.bool (beqB x y))
  | .neq => some (.bool (!beqB x y))
  | .lss => some (.bool (ltB x y))
  | .leq => some (.bool (ltB x y || beqB x y))
  | .gtr => some (.bool (!(ltB x y || beqB x y)))
  | .geq => some (.bool (!ltB x y))
  | _ => none

noncomputable def kd (k : Kd) (l : List AV) : Option AV := match k with
  | .one => getN 0 l
  | .many n => bo (takeN n l) fun r => some (.agg r)

/-- The cells of a value of just that width. -/
noncomputable def cellsK (k : Kd) (v : AV) : Option (List AV) := match k with
  | .one => one v
  | .many n => asAgg v fun l => gd (Nat.beq (lenN l) n) (some l)
noncomputable def evList (tm : T AV) (l : List Opd) : List AV := List.rec [] (fun x _ r => x.ev tm :: r) l
/-- The parts laid into zero cells. -/
noncomputable def evParts (offs : Offs) : List AV → List AV → Option (List AV) :=
  List.rec (motive := fun _ => List AV → List AV → Option (List AV)) (fun vs z => List.casesOn vs (some z) (fun _ _ => none))
    (fun o _ ih vs z => List.casesOn vs none (fun v vs => bo (cellsK o.2 v) fun c => bo (putN c o.1 z) fun z => ih vs z)) offs

noncomputable def loadAt (rows : T ARow) (k : Kd) (a : AV) : Option AV :=
  asPtr a fun b o => asRead (rows.get b) fun l => kd k (dropN o l)

def u1 {β} (vs : List AV) (f : AV → Option β) : Option β := match vs with | x :: _ => f x | [] => none
def u2 {β} (vs : List AV) (f : AV → AV → Option β) : Option β := match vs with | x :: y :: _ => f x y | _ => none
def u3 {β} (vs : List AV) (f : AV → AV → AV → Option β) : Option β := match vs with | x :: y :: z :: _ => f x y z | _ => none

section
variable (vs : List AV) (rows : T ARow) (nx : Nat)
def rv (v : AV) : Option R := some ⟨v, rows, nx⟩
def rvo (v : Option AV) : Option R := bo v fun v => some ⟨v, rows, nx⟩
noncomputable def rnew (v : AV) (r : ARow) : Option R := some ⟨v, rows.set nx (some r), Nat.succ nx⟩
noncomputable def rset (v : AV) (b : Nat) (r : ARow) : Option R := some ⟨v, rows.set b (some r), nx⟩

noncomputable def kPick : Option R := u3 vs fun c a b => asBool c fun c => Bool.rec (rv rows nx b) (rv rows nx a) c
noncomputable def kBox (g : Nat) : Option R := u1 vs fun x => gd x.stored (rnew rows nx (.ptr nx 0) (.cells g x.cells))
noncomputable def kBuild (z : List AV) (offs : Offs) : Option R := bo (evParts offs vs z) fun l => rv rows nx (.agg l)
noncomputable def kLoad (k : Kd) : Option R := u1 vs fun a => bo (loadAt rows k a) fun v => rv rows nx v
noncomputable def kStore (k : Kd) : Option R := u2 vs fun a x => bo (cellsK k x) fun c => asPtr a fun b o => asCells (rows.get b) fun g l => bo (putN c o l) fun l => rset rows nx .undef b (.cells g l)
def kBinI (op : BinOp) : Option R := u2 vs fun x y => asInt x fun k a => asInt y fun j b => rvo rows nx (binI2 op k j a b)
noncomputable def kBinS (op : BinOp) : Option R := u2 vs fun x y => asStr x fun a => asStr y fun b => rvo rows nx (binS1 op a b)
def kNot : Option R := u1 vs fun x => asBool x fun b => rv rows nx (.bool (!b))
def kFieldAddr (off : Nat) : Option R := u1 vs fun x => asPtr x fun b o => rv rows nx (.ptr b (Nat.add o off))
def kIndexSl (sz : Nat) : Option R := u2 vs fun x i => asSl x fun b o len _ => asNat i fun i => gd (Nat.blt i len) (rv rows nx (.ptr b (Nat.add o (Nat.mul i sz))))
def kIndexAr (n sz : Nat) : Option R := u2 vs fun x i => asPtr x fun b o => asNat i fun i => gd (Nat.blt i n) (rv rows nx (.ptr b (Nat.add o (Nat.mul i sz))))
noncomputable def kIndexStr : Option R := u2 vs fun x i => asStr x fun l => asNat i fun i => bo (getN i l) fun c => rv rows nx (.int .u8 (.ofNat c.toNat))
noncomputable def kExtract (i : Nat) : Option R := u1 vs fun x => asTup x fun l => rvo rows nx (getN i l)
noncomputable def kCallv (C : CallF) : Option R := match vs with
  | x :: args => (match x with
    | .fn f cap => C (.f f) (appN args cap) rows nx
    | .yld l => C (.y l) args rows nx
    | _ => none)
  | [] => none
noncomputable def lenV (k : LK) (v : AV) : Option Nat := match k with
  | .str => asStr v fun l => some (lenN l)
  | .sl => (match v with
    | .slice _ _ n _ => some n
    | .nil k => (match k with | .slice => some 0 | _ => none)
    | .empty => some 0
    | _ => none)
  | .map => (match v with
    | .nil k => (match k with | .map => some 0 | _ => none)
    | .map r => (match rows.get r with | some (.map es) => some (lenN es) | some (.roM es) => some (lenN es) | _ => none)
    | _ => none)
noncomputable def kLen (k : LK) : Option R := u1 vs fun x => bo (lenV rows k x) fun n => rv rows nx (.int .i64 (.ofNat n))

noncomputable def findM (sh : Sh) (k : AV) (es : List (AV × AV)) : Option (Option AV) :=
  List.rec (some none) (fun e _ ih => bo (eqA sh k e.1) fun b => Bool.rec ih (some (some e.2)) b) es
noncomputable def updM (sh : Sh) (k x : AV) (es : List (AV × AV)) : List (AV × AV) :=
  List.rec [] (fun e t ih => match eqA sh k e.1 with | some true => (k, x) :: t | _ => e :: ih) es
noncomputable def mapRow (m : AV) : Option (List (AV × AV)) := match m with
  | .nil k => (match k with | .map => some [] | _ => none)
  | .map r => (match rows.get r with | some (.map es) => some es | some (.roM es) => some es | _ => none)
  | _ => none
noncomputable def kLookup (sh : Sh) (z : AV) (ok : Bool) : Option R := u2 vs fun m k => bo (eqA sh k k) fun _ => bo (mapRow rows m) fun es => bo (findM sh k es) fun q => match q with
  | some v => rv rows nx (match ok with | true => .tup [v, .bool true] | false => v)
  | none => rv rows nx (match ok with | true => .tup [z, .bool false] | false => z)
noncomputable def kMapUpdate (sh : Sh) : Option R := u3 vs fun m k x => bo (eqA sh k k) fun _ => match m with
  | .map r => (match rows.get r with
    | some (.map es) => bo (findM sh k es) fun q => (match q with
      | some _ => rset rows nx .undef r (.map (updM sh k x es))
      | none => rset rows nx .undef r (.map (appN es [(k, x)])))
    | _ => none)
  | _ => none

/-- Where a key stands, and what it has. -/
noncomputable def findJ (sh : Sh) (k : AV) (es : List (AV × AV)) : Nat → Option (Option (Nat × AV)) :=
  List.rec (motive := fun _ => Nat → Option (Option (Nat × AV))) (fun _ => some none) (fun e _ ih i => bo (eqA sh k e.1) fun b => Bool.rec (ih (Nat.succ i)) (some (some (i, e.2))) b) es
noncomputable def setJ (x : AV) (es : List (AV × AV)) : Nat → Option (List (AV × AV)) :=
  List.rec (motive := fun _ => Nat → Option (List (AV × AV))) (fun _ => none) (fun e t ih i => Nat.rec (some ((e.1, x) :: t)) (fun j _ => bo (ih j) fun r => some (e :: r)) i) es
noncomputable def kMapEntry (sh : Sh) (z : AV) : Option R := u2 vs fun m k => bo (eqA sh k k) fun _ => match m with
  | .map r => (match rows.get r with
    | some (.map es) => gd (Nat.ble (lenN es) 1000000) (bo (findJ sh k es 0) fun q => (match q with
      | some p => rset rows nx (.tup [p.2, .int .i64 (.ofNat p.1)]) r (.map es)
      | none => rset rows nx (.tup [z, .int .i64 (.ofNat (lenN es))]) r (.map (appN es [(k, z)]))))
    | _ => none)
  | _ => none
noncomputable def kEntryStore : Option R := u3 vs fun m s x => asInt s fun k n => gd (k == .i64) (match n with
  | .ofNat j => (match m with
    | .map r => (match rows.get r with
      | some (.map es) => gd (Nat.ble (lenN es) 1000000) (bo (setJ x es j) fun es => rset rows nx .undef r (.map es))
      | _ => none)
    | _ => none)
  | _ => none)

/-- 2^40: what an append, a make comes to in bytes stays below. -/
def small (n bytes : Nat) : Bool := Nat.ble (Nat.mul n bytes) 1099511627776

/-- The tag of a row that goes on from another one, or lies anew. -/
def tagR (g t o : Nat) : Nat := match Nat.beq o 0 with
  | true => (match Nat.beq g t with | true => t | false => 0)
  | false => 0
noncomputable def appOp (sz bytes t g b o len : Nat) (src l : List AV) : Option R :=
  gd (small (Nat.add len (Nat.div (lenN src) sz)) bytes) (bo (takeN (Nat.mul len sz) (dropN o l)) fun old =>
    some ⟨.slice nx 0 (Nat.add len (Nat.div (lenN src) sz)) (.op sz), (rows.set b none).set nx (some (.cells (tagR g t o) (appN old src))), Nat.succ nx⟩)
noncomputable def appEx (sz bytes t g b o len c : Nat) (src l : List AV) : Option R :=
  match Nat.ble (Nat.add len (Nat.div (lenN src) sz)) c with
  | true => bo (putN src (Nat.add o (Nat.mul len sz)) l) fun l => rset rows nx (.slice b o (Nat.add len (Nat.div (lenN src) sz)) (.ex c)) b (.cells g l)
  | false => gd (small (Nat.add len (Nat.div (lenN src) sz)) bytes) (bo (takeN (Nat.mul len sz) (dropN o l)) fun old =>
      rnew rows nx (.slice nx 0 (Nat.add len (Nat.div (lenN src) sz)) (.op sz)) (.cells t (appN old src)))
noncomputable def appNil (sz bytes t : Nat) (src : List AV) : Option R := match src with
  | [] => rv rows nx (.nil .slice)
  | src => gd (small (Nat.div (lenN src) sz) bytes) (rnew rows nx (.slice nx 0 (Nat.div (lenN src) sz) (.op sz)) (.cells t src))
noncomputable def appTo (sz bytes t : Nat) (a : AV) (src : List AV) : Option R := match a with
  | .nil k => (match k with | .slice => appNil rows nx sz bytes t src | _ => none)
  | .slice b o len cap => asCells (rows.get b) fun g l => (match cap with
    | .ex c => appEx rows nx sz bytes t g b o len c src l
    | .op s => (match src with
      | [] => rv rows nx (.slice b o len (.op s))
      | src => gd (Nat.beq s sz) (appOp rows nx sz bytes t g b o len src l)))
  | _ => none
noncomputable def srcCells (sz : Nat) (x : AV) : Option (List AV) := match x with
  | .slice b o len _ => asRead (rows.get b) fun l => takeN (Nat.mul len sz) (dropN o l)
  | .nil k => (match k with | .slice => some [] | _ => none)
  | .empty => some []
  | .str l => gd (Nat.beq sz 1) (some (mapN (fun c => .int .u8 (.ofNat c.toNat)) l))
  | _ => none
noncomputable def kAppend (sz bytes t : Nat) : Option R := u2 vs fun a x => bo (srcCells rows sz x) fun src => appTo rows nx sz bytes t a src

/-- The bounds that are given, taken off the list. -/
def take1 {β} (has : Bool) (dflt : Nat) (vs : List AV) (f : Nat → List AV → Option β) : Option β := match has with
  | false => f dflt vs
  | true => u1 vs fun x => asNat x fun n => f n vs.tail

noncomputable def kSliceStr (lo hi : Bool) : Option R := u1 vs fun x => asStr x fun l => take1 lo 0 vs.tail fun a vs => take1 hi (lenN l) vs fun b _ =>
  gd (Nat.ble a b && Nat.ble b (lenN l)) (bo (takeN (Nat.sub b a) (dropN a l)) fun r => rv rows nx (.str r))
def slEx (b o l h c sz : Nat) : AV := .slice b (match Nat.beq c l with | true => o | false => Nat.add o (Nat.mul l sz)) (Nat.sub h l) (.ex (Nat.sub c l))
def kSliceSl (sz : Nat) (lo hi mx : Bool) : Option R := u1 vs fun x => match x with
  | .slice b o len cap => take1 lo 0 vs.tail fun l vs => take1 hi len vs fun h vs => gd (Nat.ble l h && Nat.ble h len) (match mx with
    | true => take1 true 0 vs fun m _ => gd (Nat.ble h m && Nat.ble m len) (rv rows nx (slEx b o l h m sz))
    | false => (match cap with
      | .ex c => rv rows nx (slEx b o l h c sz)
      | .op s => (match Nat.blt l len || Nat.beq l 0 with
        | true => gd (Nat.beq s sz) (rv rows nx (.slice b (Nat.add o (Nat.mul l sz)) (Nat.sub h l) (.op s)))
        | false => rv rows nx .empty)))
  | .nil k => (match k with
    | .slice => take1 lo 0 vs.tail fun l vs => take1 hi 0 vs fun h _ => gd (Nat.beq l 0 && (Nat.beq h 0 && !mx)) (rv rows nx (.nil .slice))
    | _ => none)
  | _ => none
def kSliceArr (n sz : Nat) (lo hi mx : Bool) : Option R := u1 vs fun x => asPtr x fun b o => take1 lo 0 vs.tail fun l vs => take1 hi n vs fun h vs => take1 mx n vs fun m _ =>
  gd (Nat.ble l h && (Nat.ble h m && Nat.ble m n)) (rv rows nx (slEx b o l h m sz))

noncomputable def max2 (x y : AV) : Option AV := match x with
  | .int k a => asInt y fun _ b => some (.int k (match ltI a b with | true => b | false => a))
  | .str a => asStr y fun b => some (.str (match ltB a b with | true => b | false => a))
  | _ => none
noncomputable def min2 (x y : AV) : Option AV := match x with
  | .int k a => asInt y fun _ b => some (.int k (match ltI b a with | true => b | false => a))
  | .str a => asStr y fun b => some (.str (match ltB a b || beqB a b with | true => a | false => b))
  | _ => none

/-- A pointer into a row, seen as one without a type. -/
noncomputable def kUnPtr : Option R := u1 vs fun x => match x with
  | .ptr b o => asCells (rows.get b) fun _ l => gd (Nat.blt o (lenN l)) (rv rows nx (.ptr b o))
  | .nil k => (match k with | .ptr => rv rows nx (.nil .ptr) | _ => none)
  | _ => none
/-- .. and back, to the begin of a row of such variables. -/
noncomputable def kToPtr (t sz : Nat) : Option R := u1 vs fun x => match x with
  | .ptr b o => asCells (rows.get b) fun g l => gd (Nat.beq o 0 && (Nat.beq g t && Nat.ble sz (lenN l))) (rv rows nx (.ptr b 0))
  | .nil k => (match k with | .ptr => rv rows nx (.nil .ptr) | _ => none)
  | _ => none
/-- A pointer, twice. -/
def kBinP (neg : Bool) : Option R := u2 vs fun x y => match x with
  | .ptr b o => (match y with
    | .ptr c p => gd (Nat.beq b c && Nat.beq o p) (rv rows nx (.bool (flipB neg true)))
    | _ => none)
  | _ => none
def kSliceData : Option R := u1 vs fun x => match x with
  | .slice b o len c => (match c with
    | .ex c => gd (Nat.blt 0 c) (rv rows nx (.ptr b o))
    | .op _ => gd (Nat.blt 0 len) (rv rows nx (.ptr b o)))
  | .nil k => (match k with | .slice => rv rows nx (.nil .ptr) | _ => none)
  | _ => none
/-- Bytes. -/
noncomputable def bytesOf (l : List AV) : Option (List UInt8) :=
  List.rec (some []) (fun x _ ih => asInt x fun k n => (match k with
    | .u8 => (match n with
      | .ofNat m => gd (Nat.blt m 256) (bo ih fun r => some (UInt8.ofNat m :: r))
      | _ => none)
    | _ => none)) l
noncomputable def kUnString (t : Nat) : Option R := u2 vs fun x n => asInt n fun k n => gd (k == .i64) (match n with
  | .ofNat n => (match n with
    | 0 => (match x with
      | .ptr _ _ => rv rows nx (.str [])
      | .nil k => (match k with | .ptr => rv rows nx (.str []) | _ => none)
      | _ => none)
    | Nat.succ m => asPtr x fun b o => asCells (rows.get b) fun g l => gd (Nat.beq o 0 && (Nat.beq g t && Nat.ble (Nat.succ m) 1000000)) (bo (takeN (Nat.succ m) l) fun l => bo (bytesOf l) fun s => some ⟨.str s, rows.set b none, nx⟩))
  | _ => none)
def asRo {β} (v : Option ARow) (f : Nat → List AV → Option β) : Option β := match v with | some r => (match r with | .ro k l => f k l | _ => none) | none => none
noncomputable def kToStr : Option R := u1 vs fun x => match x with
  | .slice b o len _ => asRead (rows.get b) fun l => bo (takeN len (dropN o l)) fun l => bo (bytesOf l) fun s => rv rows nx (.str s)
  | .nil k => (match k with | .slice => rv rows nx (.str []) | _ => none)
  | .empty => rv rows nx (.str [])
  | _ => none

noncomputable def evRare (r : Rare) : Option R := match r with
  | .unPtr => kUnPtr vs rows nx
  | .toPtr t sz => kToPtr vs rows nx t sz
  | .binP n => kBinP vs rows nx n
  | .sliceData => kSliceData vs rows nx
  | .unString t => kUnString vs rows nx t
  | .toStr => kToStr vs rows nx
  | .mapEntry sh z => kMapEntry vs rows nx sh z
  | .entryStore => kEntryStore vs rows nx
  | .globAt g n sz => u1 vs fun i => asNat i fun i => asRo (rows.get g) fun k _ => gd (Nat.beq k (Nat.succ g) && Nat.blt i n) (rv rows nx (.ptr g (Nat.mul i sz)))
  | .globLoad g q => asRo (rows.get g) fun k l => gd (Nat.beq k (Nat.succ g)) (bo (kd q l) fun v => rv rows nx v)
  | .makeFunc f => rv rows nx (.fn f vs)
  | .makeSlice z bytes => u2 vs fun l c => asNat l fun l => asNat c fun c => gd (Nat.ble l c && small c bytes) (rnew rows nx (.slice nx 0 l (.ex c)) (.cells 0 (repl c z)))
  | .makeMap => rnew rows nx (.map nx) (.map [])
  | .lookup sh z ok => kLookup vs rows nx sh z ok
  | .mapUpdate sh => kMapUpdate vs rows nx sh
  | .cap => u1 vs fun x => (match x with
    | .slice _ _ _ c => (match c with | .ex n => rv rows nx (.int .i64 (.ofNat n)) | .op _ => none)
    | .nil k => (match k with | .slice => rv rows nx (.int .i64 0) | _ => none)
    | _ => none)
  | .max => u2 vs fun x y => rvo rows nx (max2 x y)
  | .min => u2 vs fun x y => rvo rows nx (min2 x y)
  | .toBytes => u1 vs fun x => asStr x fun l => rnew rows nx (.slice nx 0 (lenN l) (.op 1)) (.cells 0 (mapN (fun c => .int .u8 (.ofNat c.toNat)) l))
  | .clear z => u1 vs fun x => (match x with
    | .nil k => (match k with | .slice => rv rows nx (.tup []) | _ => none)
    | .empty => rv rows nx (.tup [])
    | .slice b o n _ => asCells (rows.get b) fun g l => bo (putN (repl n z) o l) fun l => rset rows nx (.tup []) b (.cells g l)
    | _ => none)
  | .iface => u1 vs fun _ => rv rows nx .iface
  | .str => u1 vs fun x => asStr x fun l => rv rows nx (.str l)
  | .appendZ sz bytes t z => u2 vs fun a n => asNat n fun n => gd (small n bytes) (appTo rows nx sz bytes t a (repl n z))
  | .sliceStr lo hi => kSliceStr vs rows nx lo hi
  | .sliceSl sz lo hi mx => kSliceSl vs rows nx sz lo hi mx
  | .sliceArr n sz lo hi mx => kSliceArr vs rows nx n sz lo hi mx
  | .buildSlice z len offs => bo (evParts offs vs z) fun l => rnew rows nx (.slice nx 0 len (.ex len)) (.cells 0 l)
  | .append sz bytes t => kAppend vs rows nx sz bytes t
  | .indexArr n sz k => u2 vs fun x i => asAgg x fun l => asNat i fun i => gd (Nat.blt i n) (rvo rows nx (kd k (dropN (Nat.mul i sz) l)))
  | .field k off => u1 vs fun x => asAgg x fun l => rvo rows nx (kd k (dropN off l))
  | .conv k => u1 vs fun x => asInt x fun _ n => rv rows nx (.int k (wrapI k n))
  | .neg => u1 vs fun x => asInt x fun k n => rv rows nx (.int k (wrapI k (Int.sub 0 n)))
  | .nilCheck => u1 vs fun x => (match x with | .ptr b o => rv rows nx (.ptr b o) | .fn f c => rv rows nx (.fn f c) | .yld l => rv rows nx (.yld l) | _ => none)
  | .binB n => u2 vs fun x y => bo (eq1 .bool x y) fun b => rv rows nx (.bool (flipB n b))
  | .binN n k => u2 vs fun x y => bo (isNil k y) fun c => gd c (bo (isNil k x) fun b => rv rows nx (.bool (flipB n b)))
  | .binA n sh => u2 vs fun x y => asAgg x fun l => asAgg y fun m => bo (eqL sh l m) fun b => rv rows nx (.bool (flipB n b))

noncomputable def evK (C : CallF) (k : K) : Option R := match k with
  | .mv => u1 vs fun x => rv rows nx x
  | .pick => kPick vs rows nx
  | .box g => kBox vs rows nx g
  | .build z offs => kBuild vs rows nx z offs
  | .load k => kLoad vs rows nx k
  | .store k => kStore vs rows nx k
  | .binI op => kBinI vs rows nx op
  | .binS op => kBinS vs rows nx op
  | .not => kNot vs rows nx
  | .fieldAddr off => kFieldAddr vs rows nx off
  | .indexSl sz => kIndexSl vs rows nx sz
  | .indexAr n sz => kIndexAr vs rows nx n sz
  | .indexStr => kIndexStr vs rows nx
  | .extract i => kExtract vs rows nx i
  | .call f => C (.f f) vs rows nx
  | .callv => kCallv vs rows nx C
  | .len k => kLen vs rows nx k
  | .rare r => evRare vs rows nx r
  | .bad => none
end

noncomputable def wanted (tm : T AV) (g : Option (Nat × Bool)) : Bool := match g with
  | none => true
  | some p => match tm.get p.1 with | some v => (match v with | .bool b => (match p.2 with | true => b | false => !b) | _ => false) | none => false

noncomputable def evOp (C : CallF) (g : GOp) (s : St) : Option St :=
  bo (evK (evList s.tm g.xs) s.rows s.nx C g.k) fun r => some ⟨s.tm.set g.d (some r.v), r.rows, r.nx⟩
noncomputable def evG (C : CallF) (g : GOp) (s : St) : Option St :=
  Bool.rec (some ⟨s.tm.set g.d (some .undef), s.rows, s.nx⟩) (evOp C g s) (wanted s.tm g.g)

noncomputable def evOps (C : CallF) (l : List GOp) : St → Option St :=
  List.rec (motive := fun _ => St → Option St) (fun s => some s) (fun g _ ih s => bo (evG C g s) ih) l

mutual
/-- The same value, by sight. -/
def sameV : AV → AV → Bool
  | .bool a, .bool b => a == b
  | .int j a, .int k b => j == k && eqI a b
  | .str a, .str b => a == b
  | .ptr a o, .ptr b p => Nat.beq a b && Nat.beq o p
  | .slice a o l c, .slice b p m d => Nat.beq a b && (Nat.beq o p && (Nat.beq l m && decide (c = d)))
  | .nil j, .nil k => decide (j = k)
  | .agg l, .agg m => sameL l m
  | .fn f l, .fn g m => Nat.beq f g && sameL l m
  | .map a, .map b => Nat.beq a b
  | .yld a, .yld b => Nat.beq a b
  | _, _ => false
def sameL : List AV → List AV → Bool
  | [], [] => true
  | a :: l, b :: m => sameV a b && sameL l m
  | _, _ => false
end

/-- What an operation read, and from when to when it may be run. -/
structure Lg where
  lo : Nat
  hi : Nat
  vs : List AV
  k : K
  v : AV

structure DS where
  tm : T AV
  rows : T ARow
  nx : Nat
  al : List (Nat × ARow)
  eps : List (Nat × T ARow)
  lg : List Lg

noncomputable def findA (i : Nat) (al : List (Nat × ARow)) : Option ARow := List.rec none (fun e _ ih => Bool.rec ih (some e.2) (Nat.beq i e.1)) al
noncomputable def accOne (n0 i : Nat) (r : Option ARow) (rows : T ARow) : T ARow := match r with | some r => rows.set (Nat.add n0 i) (some r) | none => rows
/-- New rows taken up. -/
noncomputable def account (n0 : Nat) (al : List (Nat × ARow)) (rows : T ARow) (l : List Nat) : T ARow := List.rec rows (fun i _ ih => accOne n0 i (findA i al) ih) l

noncomputable def evDK (C : CallF) (n0 : Nat) (d : DOp) (s : DS) : Option DS := match d.cls with
  | .p => bo (evK (evList s.tm d.g.xs) s.rows n0 C d.g.k) fun r => some ⟨s.tm.set d.g.d (some r.v), s.rows, s.nx, s.al, s.eps, s.lg⟩
  | .l => bo (evK (evList s.tm d.g.xs) s.rows n0 C d.g.k) fun r => some ⟨s.tm.set d.g.d (some r.v), s.rows, s.nx, s.al, s.eps, match d.chk with | true => ⟨d.lo, d.hi, evList s.tm d.g.xs, d.g.k, r.v⟩ :: s.lg | false => s.lg⟩
  | .a => bo (evK (evList s.tm d.g.xs) s.rows (Nat.add n0 d.i) C d.g.k) fun r => bo (r.rows.get (Nat.add n0 d.i)) fun row => some ⟨s.tm.set d.g.d (some r.v), s.rows, s.nx, (d.i, row) :: s.al, s.eps, s.lg⟩
  | .c => bo (evK (evList s.tm d.g.xs) (account n0 s.al s.rows d.acc) s.nx C d.g.k) fun r => some ⟨s.tm.set d.g.d (some r.v), r.rows, r.nx, s.al, (d.i, s.rows) :: s.eps, s.lg⟩
noncomputable def evDU (n0 : Nat) (d : DOp) (s : DS) : Option DS := match d.cls with
  | .c => some ⟨s.tm.set d.g.d (some .undef), account n0 s.al s.rows d.acc, s.nx, s.al, (d.i, s.rows) :: s.eps, s.lg⟩
  | _ => some ⟨s.tm.set d.g.d (some .undef), s.rows, s.nx, s.al, s.eps, s.lg⟩
noncomputable def evD (C : CallF) (n0 : Nat) (d : DOp) (s : DS) : Option DS := Bool.rec (evDU n0 d s) (evDK C n0 d s) (wanted s.tm d.g.g)
noncomputable def evDs (C : CallF) (n0 : Nat) (l : List DOp) : DS → Option DS :=
  List.rec (motive := fun _ => DS → Option DS) (fun s => some s) (fun d _ ih s => bo (evD C n0 d s) ih) l
noncomputable def chkOne (C : CallF) (g : Lg) (e : Nat × T ARow) : Bool := match Nat.ble g.lo e.1 && Nat.ble e.1 g.hi with
  | true => (match evK g.vs e.2 0 C g.k with | some r => sameV r.v g.v | none => false)
  | false => true
noncomputable def chkLg (C : CallF) (eps : List (Nat × T ARow)) (lg : List Lg) : Bool :=
  List.rec true (fun g _ ih => match (List.rec true (fun e _ ih => match chkOne C g e with | true => ih | false => false) eps : Bool) with | true => ih | false => false) lg
noncomputable def evDraw (C : CallF) (m : Nat) (l : List DOp) (rest : List Nat) (s : St) : Option St :=
  bo (evDs C s.nx l ⟨s.tm, s.rows, Nat.add s.nx m, [], [], []⟩) fun t => gd (chkLg C ((m, t.rows) :: t.eps) t.lg) (some ⟨t.tm, account s.nx t.al t.rows rest, t.nx⟩)

structure XS where
  e : Ex
  s : St

noncomputable def iter (f : St → Option XS) : Nat → St → Option XS :=
  Nat.rec (motive := fun _ => St → Option XS) (fun _ => none)
    (fun _ ih s => bo (f s) fun x => match x.e with | .normal => ih x.s | e => some ⟨e, x.s⟩)

noncomputable def rangeEnd (tm : T AV) (l : Nat) (r : R) : Option XS := match r.rows.get l with
  | some (.loop _ _ _ _ p) => (match p with
    | none => some ⟨.normal, ⟨tm, r.rows.set l none, r.nx⟩⟩
    | some e => some ⟨e, ⟨tm, r.rows.set l none, r.nx⟩⟩)
  | _ => none
noncomputable def evRange (C : CallF) (f : Opd) (ps : List Nat) (a b : IC) (s : St) : Option XS := match f.ev s.tm with
  | .fn f cap => bo (C (.r f) (.yld s.nx :: cap) (s.rows.set s.nx (some (.loop s.tm ps a b none))) (Nat.succ s.nx)) fun r => rangeEnd s.tm s.nx r
  | _ => none

noncomputable def runIC (C : CallF) (LF : Nat) (c : IC) : St → Option XS :=
  IC.rec (motive := fun _ => St → Option XS)
    (fun s => some ⟨.normal, s⟩)
    (fun l s => bo (evOps C l s) fun s => some ⟨.normal, s⟩)
    (fun m l rest s => bo (evDraw C m l rest s) fun s => some ⟨.normal, s⟩)
    (fun _ _ ia ib s => bo (ia s) fun x => match x.e with | .normal => ib x.s | e => some ⟨e, x.s⟩)
    (fun c _ _ ia ib s => asBool (c.ev s.tm) fun b => Bool.rec (ib s) (ia s) b)
    (fun id _ ib s => bo (ib s) fun x => match x.e with | .exit i => (match Nat.beq i id with | true => some ⟨.normal, x.s⟩ | false => some x) | _ => some x)
    (fun _ ib s => iter ib LF s)
    (fun f ps a b _ _ s => evRange C f ps a b s)
    (fun id s => some ⟨.exit id, s⟩)
    (fun s => some ⟨.ret, s⟩)
    (fun _ => none) c

noncomputable def evRes (s : St) (l : List (Nat × Option Kd)) : Option (List AV) :=
  List.rec (some []) (fun p _ ih => bo (match p.2 with | none => some ((Opd.t p.1).ev s.tm) | some k => loadAt s.rows k ((Opd.t p.1).ev s.tm)) fun v => bo ih fun r => some (v :: r)) l

noncomputable def argsT (l : List AV) : Nat → T AV → T AV :=
  List.rec (motive := fun _ => Nat → T AV → T AV) (fun _ t => t) (fun a _ ih n t => ih (Nat.succ n) (t.set n (some a))) l
noncomputable def argsP (ps : List Nat) : List AV → T AV → Option (T AV) :=
  List.rec (motive := fun _ => List AV → T AV → Option (T AV)) (fun l t => List.casesOn l (some t) (fun _ _ => none))
    (fun n _ ih l t => List.casesOn l none (fun a l => ih l (t.set n (some a)))) ps

noncomputable def retFn (fn : IFn) (x : Option XS) : Option R := bo x fun x => match x.e with
  | .exit _ => none
  | _ => bo (evRes x.s fn.results) fun l => (match l with
    | [v] => some ⟨v, x.s.rows, x.s.nx⟩
    | l => some ⟨.tup l, x.s.rows, x.s.nx⟩)
noncomputable def yldEnd (l : Nat) (tm : T AV) (ps : List Nat) (a b : IC) (x : XS) : Option R := match x.e with
  | .normal => some ⟨.bool true, x.s.rows.set l (some (.loop tm ps a b none)), x.s.nx⟩
  | e => some ⟨.bool false, x.s.rows.set l (some (.loop tm ps a b (some e))), x.s.nx⟩

noncomputable def evFn (C : CallF) (LF : Nat) (fn : IFn) (args : List AV) (rows : T ARow) (nx : Nat) : Option R :=
  gd (Nat.ble (lenN args) fn.n) (retFn fn (runIC C LF fn.body ⟨argsT args 0 .nil, rows, nx⟩))
noncomputable def evCall (orc : Nat → Option (List AV → T ARow → Nat → Option R)) (fns : T IFn) (LF : Nat) : Nat → CallF :=
  Nat.rec (motive := fun _ => CallF) (fun _ _ _ _ => none)
    (fun _ ih t args rows nx => match t with
      | .f f => (match orc f with
        | some g => g args rows nx
        | none => bo (fns.get f) fun fn => evFn ih LF fn args rows nx)
      | .r f => bo (fns.get f) fun fn => evFn ih LF fn args rows nx
      | .y l => (match rows.get l with
        | some (.loop tm ps a b p) => (match p with
          | none => bo (argsP ps args tm) fun t => bo (runIC ih LF a ⟨t, rows.set l none, nx⟩) fun x => (match x.e with
            | .normal => bo (runIC ih LF b x.s) fun x => yldEnd l tm ps a b x
            | _ => none)
          | _ => none)
        | _ => none))
end Ev
end

/- Lists and tries of the evaluator: plain laws. -/
section
namespace Ev
open Go

theorem T.get_nil {α} (n : Nat) : (T.nil : T α).get n = none := rfl
theorem T.get_node {α} (v : Option α) (l r : T α) (n : Nat) : (T.node v l r).get n = match n with
    | 0 => v
    | k+1 => if k % 2 = 0 then l.get (k / 2) else r.get (k / 2) := by
  cases n with
  | zero => rfl
  | succ k =>
    show @Bool.rec (fun _ => Option α) (r.get (k / 2)) (l.get (k / 2)) (Nat.beq (k % 2) 0) = _
    by_cases h : k % 2 = 0
    · simp [h]
    · have : Nat.beq (k % 2) 0 = false := by
        rcases hb : Nat.beq (k % 2) 0 with _ | _
        · rfl
        · exact absurd (Nat.eq_of_beq_eq_true hb) h
      simp [h, this]
theorem T.setF_nil {α} (x : Option α) (f n : Nat) : T.setF x (f+1) .nil n = match n with
    | 0 => .node x .nil .nil
    | k+1 => if k % 2 = 0 then .node none (T.setF x f .nil (k / 2)) .nil else .node none .nil (T.setF x f .nil (k / 2)) := by
  cases n with
  | zero => rfl
  | succ k =>
    show @Bool.rec (fun _ => T α) (T.node none .nil (T.setF x f .nil (k / 2))) (T.node none (T.setF x f .nil (k / 2)) .nil) (Nat.beq (k % 2) 0) = _
    by_cases h : k % 2 = 0
    · simp [h]
    · have : Nat.beq (k % 2) 0 = false := by
        rcases hb : Nat.beq (k % 2) 0 with _ | _
        · rfl
        · exact absurd (Nat.eq_of_beq_eq_true hb) h
      simp [h, this]
theorem T.setF_node {α} (x : Option α) (f n : Nat) (v : Option α) (l r : T α) : T.setF x (f+1) (.node v l r) n = match n with
    | 0 => .node x l r
    | k+1 => if k % 2 = 0 then .node v (T.setF x f l (k / 2)) r else .node v l (T.setF x f r (k / 2)) := by
  cases n with
  | zero => rfl
  | succ k =>
    show @Bool.rec (fun _ => T α) (T.node v l (T.setF x f r (k / 2))) (T.node v (T.setF x f l (k / 2)) r) (Nat.beq (k % 2) 0) = _
    by_cases h : k % 2 = 0
    · simp [h]
    · have : Nat.beq (k % 2) 0 = false := by
        rcases hb : Nat.beq (k % 2) 0 with _ | _
        · rfl
        · exact absurd (Nat.eq_of_beq_eq_true hb) h
      simp [h, this]
theorem T.get_setF {α} (x : Option α) : ∀ (f : Nat) (t : T α) (n m : Nat), n < f → (T.setF x f t n).get m = if m = n then x else t.get m := by
  intro f
  induction f with
  | zero => intro t n m h; omega
  | succ f ih =>
    intro t n m h
    cases t with
    | nil =>
      rw [T.setF_nil]
      cases n with
      | zero =>
        simp only [T.get_node]
        cases m with
        | zero => simp
        | succ k => simp [T.get_nil]
      | succ k =>
        by_cases hk : k % 2 = 0
        · simp only [hk, if_true, T.get_node]
          cases m with
          | zero => simp [T.get_nil]
          | succ j =>
            simp only [T.get_nil]
            by_cases hj : j % 2 = 0
            · simp only [hj, if_true, ih .nil (k/2) (j/2) (by omega), T.get_nil]
              by_cases e : j = k
              · simp [e]
              · rw [if_neg (by omega), if_neg (by omega)]
            · simp only [hj, if_false]
              rw [if_neg (by intro e; have : j = k := by omega
                             subst this; exact hj hk)]
        · simp only [hk, if_false, T.get_node]
          cases m with
          | zero => simp [T.get_nil]
          | succ j =>
            simp only [T.get_nil]
            by_cases hj : j % 2 = 0
            · simp only [hj, if_true]
              rw [if_neg (by intro e; have : j = k := by omega
                             subst this; exact hk hj)]
            · simp only [hj, if_false, ih .nil (k/2) (j/2) (by omega), T.get_nil]
              by_cases e : j = k
              · simp [e]
              · rw [if_neg (by omega), if_neg (by omega)]
    | node v l r =>
      rw [T.setF_node]
      cases n with
      | zero =>
        simp only [T.get_node]
        cases m with
        | zero => simp
        | succ k => simp
      | succ k =>
        by_cases hk : k % 2 = 0
        · simp only [hk, if_true, T.get_node]
          cases m with
          | zero => simp
          | succ j =>
            by_cases hj : j % 2 = 0
            · simp only [hj, if_true, ih l (k/2) (j/2) (by omega)]
              by_cases e : j = k
              · simp [e]
              · rw [if_neg (by omega), if_neg (by omega)]
            · simp only [hj, if_false]
              rw [if_neg (by intro e; have : j = k := by omega
                             subst this; exact hj hk)]
        · simp only [hk, if_false, T.get_node]
          cases m with
          | zero => simp
          | succ j =>
            by_cases hj : j % 2 = 0
            · simp only [hj, if_true]
              rw [if_neg (by intro e; have : j = k := by omega
                             subst this; exact hk hj)]
            · simp only [hj, if_false, ih r (k/2) (j/2) (by omega)]
              by_cases e : j = k
              · simp [e]
              · rw [if_neg (by omega), if_neg (by omega)]
theorem T.get_set {α} (t : T α) (n m : Nat) (x : Option α) : (t.set n x).get m = if m = n then x else t.get m := T.get_setF x (n+1) t n m (Nat.lt_succ_self n)

theorem bo_some {α β} {x : Option α} {f : α → Option β} {b : β} : bo x f = some b ↔ ∃ a, x = some a ∧ f a = some b := by cases x <;> simp [bo]
theorem gd_some {β} {c : Bool} {x : Option β} {b : β} : gd c x = some b ↔ c = true ∧ x = some b := by cases c <;> simp [gd]
theorem asPtr_some {β} {v : AV} {f : Nat → Nat → Option β} {r : β} : asPtr v f = some r ↔ ∃ b o, v = .ptr b o ∧ f b o = some r := by
  cases v <;> first | exact ⟨fun h => ⟨_, _, rfl, h⟩, (fun ⟨_, _, h, h'⟩ => by cases h; exact h')⟩ | exact ⟨(fun h => by cases h), (fun ⟨_, _, h, _⟩ => by cases h)⟩
theorem asSl_some {β} {v : AV} {f : Nat → Nat → Nat → Cap → Option β} {r : β} : asSl v f = some r ↔ ∃ b o l c, v = .slice b o l c ∧ f b o l c = some r := by
  cases v <;> first | exact ⟨fun h => ⟨_, _, _, _, rfl, h⟩, (fun ⟨_, _, _, _, h, h'⟩ => by cases h; exact h')⟩ | exact ⟨(fun h => by cases h), (fun ⟨_, _, _, _, h, _⟩ => by cases h)⟩
theorem asNat_some {β} {v : AV} {f : Nat → Option β} {r : β} : asNat v f = some r ↔ ∃ k n, v = .int k (.ofNat n) ∧ f n = some r := by
  cases v with
  | int k n => cases n with
    | ofNat n => exact ⟨fun h => ⟨_, _, rfl, h⟩, fun ⟨_, _, h, h'⟩ => by cases h; exact h'⟩
    | negSucc n => exact ⟨(fun h => by cases h), (fun ⟨_, _, h, _⟩ => by cases h)⟩
  | _ => exact ⟨(fun h => by cases h), (fun ⟨_, _, h, _⟩ => by cases h)⟩
theorem asInt_some {β} {v : AV} {f : IntKind → Int → Option β} {r : β} : asInt v f = some r ↔ ∃ k n, v = .int k n ∧ f k n = some r := by
  cases v <;> first | exact ⟨fun h => ⟨_, _, rfl, h⟩, (fun ⟨_, _, h, h'⟩ => by cases h; exact h')⟩ | exact ⟨(fun h => by cases h), (fun ⟨_, _, h, _⟩ => by cases h)⟩
theorem asStr_some {β} {v : AV} {f : List UInt8 → Option β} {r : β} : asStr v f = some r ↔ ∃ s, v = .str s ∧ f s = some r := by
  cases v <;> first | exact ⟨fun h => ⟨_, rfl, h⟩, (fun ⟨_, h, h'⟩ => by cases h; exact h')⟩ | exact ⟨(fun h => by cases h), (fun ⟨_, h, _⟩ => by cases h)⟩
theorem asBool_some {β} {v : AV} {f : Bool → Option β} {r : β} : asBool v f = some r ↔ ∃ b, v = .bool b ∧ f b = some r := by
  cases v <;> first | exact ⟨fun h => ⟨_, rfl, h⟩, (fun ⟨_, h, h'⟩ => by cases h; exact h')⟩ | exact ⟨(fun h => by cases h), (fun ⟨_, h, _⟩ => by cases h)⟩
theorem asAgg_some {β} {v : AV} {f : List AV → Option β} {r : β} : asAgg v f = some r ↔ ∃ l, v = .agg l ∧ f l = some r := by
  cases v <;> first | exact ⟨fun h => ⟨_, rfl, h⟩, (fun ⟨_, h, h'⟩ => by cases h; exact h')⟩ | exact ⟨(fun h => by cases h), (fun ⟨_, h, _⟩ => by cases h)⟩
theorem asTup_some {β} {v : AV} {f : List AV → Option β} {r : β} : asTup v f = some r ↔ ∃ l, v = .tup l ∧ f l = some r := by
  cases v <;> first | exact ⟨fun h => ⟨_, rfl, h⟩, (fun ⟨_, h, h'⟩ => by cases h; exact h')⟩ | exact ⟨(fun h => by cases h), (fun ⟨_, h, _⟩ => by cases h)⟩
theorem asCells_some {β} {v : Option ARow} {f : Nat → List AV → Option β} {r : β} : asCells v f = some r ↔ ∃ g l, v = some (.cells g l) ∧ f g l = some r := by
  rcases v with _ | v
  · exact ⟨(fun h => by cases h), (fun ⟨_, _, h, _⟩ => by cases h)⟩
  · cases v <;> first | exact ⟨fun h => ⟨_, _, rfl, h⟩, (fun ⟨_, _, h, h'⟩ => by cases h; exact h')⟩ | exact ⟨(fun h => by cases h), (fun ⟨_, _, h, _⟩ => by cases h)⟩
theorem asRead_some {β} {v : Option ARow} {f : List AV → Option β} {r : β} : asRead v f = some r ↔ ∃ q l, v = some q ∧ rdRow q = some l ∧ f l = some r := by
  rcases v with _ | v
  · exact ⟨(fun h => by cases h), (fun ⟨_, _, h, _⟩ => by cases h)⟩
  · cases v <;> first | exact ⟨fun h => ⟨_, _, rfl, rfl, h⟩, (fun ⟨_, _, h, h', h2⟩ => by cases h; cases h'; exact h2)⟩ | exact ⟨(fun h => by cases h), (fun ⟨_, _, h, h', _⟩ => by cases h; cases h')⟩
theorem asRo_some {β} {v : Option ARow} {f : Nat → List AV → Option β} {r : β} : asRo v f = some r ↔ ∃ g l, v = some (.ro g l) ∧ f g l = some r := by
  rcases v with _ | v
  · exact ⟨(fun h => by cases h), (fun ⟨_, _, h, _⟩ => by cases h)⟩
  · cases v <;> first | exact ⟨fun h => ⟨_, _, rfl, h⟩, (fun ⟨_, _, h, h'⟩ => by cases h; exact h')⟩ | exact ⟨(fun h => by cases h), (fun ⟨_, _, h, _⟩ => by cases h)⟩
theorem u1_some {β} {vs : List AV} {f : AV → Option β} {r : β} : u1 vs f = some r ↔ ∃ x t, vs = x :: t ∧ f x = some r := by
  rcases vs with _ | ⟨x, t⟩
  · exact ⟨(fun h => by cases h), (fun ⟨_, _, h, _⟩ => by cases h)⟩
  · exact ⟨fun h => ⟨_, _, rfl, h⟩, fun ⟨_, _, h, h'⟩ => by cases h; exact h'⟩
theorem u2_some {β} {vs : List AV} {f : AV → AV → Option β} {r : β} : u2 vs f = some r ↔ ∃ x y t, vs = x :: y :: t ∧ f x y = some r := by
  rcases vs with _ | ⟨x, _ | ⟨y, t⟩⟩
  · exact ⟨(fun h => by cases h), (fun ⟨_, _, _, h, _⟩ => by cases h)⟩
  · exact ⟨(fun h => by cases h), (fun ⟨_, _, _, h, _⟩ => by cases h)⟩
  · exact ⟨fun h => ⟨_, _, _, rfl, h⟩, fun ⟨_, _, _, h, h'⟩ => by cases h; exact h'⟩
theorem u3_some {β} {vs : List AV} {f : AV → AV → AV → Option β} {r : β} : u3 vs f = some r ↔ ∃ x y z t, vs = x :: y :: z :: t ∧ f x y z = some r := by
  rcases vs with _ | ⟨x, _ | ⟨y, _ | ⟨z, t⟩⟩⟩
  · exact ⟨(fun h => by cases h), (fun ⟨_, _, _, _, h, _⟩ => by cases h)⟩
  · exact ⟨(fun h => by cases h), (fun ⟨_, _, _, _, h, _⟩ => by cases h)⟩
  · exact ⟨(fun h => by cases h), (fun ⟨_, _, _, _, h, _⟩ => by cases h)⟩
  · exact ⟨fun h => ⟨_, _, _, _, rfl, h⟩, fun ⟨_, _, _, _, h, h'⟩ => by cases h; exact h'⟩

theorem dropN_eq {α} : ∀ (n : Nat) (l : List α), dropN n l = l.drop n
  | 0, _ => rfl
  | _+1, [] => rfl
  | n+1, _ :: l => dropN_eq n l
theorem takeN_some {α} : ∀ {n : Nat} {l r : List α}, takeN n l = some r ↔ n ≤ l.length ∧ r = l.take n
  | 0, l, r => by
    show some [] = some r ↔ _
    simp [eq_comm]
  | n+1, [], r => by simp [takeN]
  | n+1, a :: l, r => by
    show bo (takeN n l) (fun r => some (a :: r)) = some r ↔ _
    rw [bo_some]
    constructor
    · rintro ⟨q, hq, e⟩
      obtain ⟨h1, rfl⟩ := takeN_some.1 hq
      simp at e
      exact ⟨by simp; omega, by simp [e]⟩
    · rintro ⟨h1, rfl⟩
      exact ⟨l.take n, takeN_some.2 ⟨by simpa using h1, rfl⟩, by simp⟩
theorem getN_eq {α} : ∀ (n : Nat) (l : List α), getN n l = l[n]?
  | 0, [] => rfl
  | 0, _ :: _ => rfl
  | _+1, [] => rfl
  | n+1, _ :: l => by
    show getN n l = _
    rw [getN_eq n l, List.getElem?_cons_succ]
theorem put0_some {α} : ∀ {vs l r : List α}, put0 vs l = some r ↔ vs.length ≤ l.length ∧ r = vs ++ l.drop vs.length
  | [], l, r => by simp [put0, eq_comm]
  | v :: vs, [], r => by simp [put0]
  | v :: vs, a :: l, r => by
    show bo (put0 vs l) (fun r => some (v :: r)) = some r ↔ _
    rw [bo_some]
    constructor
    · rintro ⟨q, hq, e⟩
      obtain ⟨h1, rfl⟩ := put0_some.1 hq
      simp at e
      exact ⟨by simp; omega, by simp [e]⟩
    · rintro ⟨h1, rfl⟩
      exact ⟨_, put0_some.2 ⟨by simpa using h1, rfl⟩, by simp⟩
theorem putN_some {α} {vs : List α} : ∀ {n : Nat} {l r : List α}, putN vs n l = some r ↔ n + vs.length ≤ l.length ∧ r = l.take n ++ vs ++ l.drop (n + vs.length)
  | 0, l, r => by
    show put0 vs l = some r ↔ _
    rw [put0_some]; simp
  | n+1, [], r => by simp [putN]
  | n+1, a :: l, r => by
    show bo (putN vs n l) (fun r => some (a :: r)) = some r ↔ _
    rw [bo_some]
    constructor
    · rintro ⟨q, hq, e⟩
      obtain ⟨h1, rfl⟩ := putN_some.1 hq
      simp at e
      refine ⟨by simp; omega, ?_⟩
      rw [← e]
      simp [Nat.add_right_comm]
    · rintro ⟨h1, rfl⟩
      refine ⟨_, putN_some.2 ⟨by simp at h1; omega, rfl⟩, ?_⟩
      simp [Nat.add_right_comm]
theorem lenN_eq {α} : ∀ (l : List α), lenN l = l.length
  | [] => rfl
  | _ :: l => congrArg Nat.succ (lenN_eq l)
theorem appN_eq {α} : ∀ (l m : List α), appN l m = l ++ m
  | [], _ => rfl
  | a :: l, m => congrArg (a :: ·) (appN_eq l m)
theorem mapN_eq {α β} (f : α → β) : ∀ (l : List α), mapN f l = l.map f
  | [] => rfl
  | a :: l => congrArg (f a :: ·) (mapN_eq f l)
theorem repl_eq {α} (l : List α) : ∀ n, repl n l = (List.replicate n l).flatten
  | 0 => rfl
  | n+1 => by
    show appN l (repl n l) = _
    rw [appN_eq, repl_eq l n]; rfl
theorem evList_eq (tm : T AV) : ∀ l, evList tm l = l.map (fun x => x.ev tm)
  | [] => rfl
  | x :: l => congrArg (x.ev tm :: ·) (evList_eq tm l)

theorem beq_nat (a b : Nat) : Nat.beq a b = decide (a = b) := by
  rcases h : Nat.beq a b with _ | _
  · exact (decide_eq_false (fun e => by rw [e] at h; simp at h)).symm
  · exact (decide_eq_true (Nat.eq_of_beq_eq_true h)).symm
theorem ble_nat (a b : Nat) : Nat.ble a b = decide (a ≤ b) := by
  rcases h : Nat.ble a b with _ | _
  · exact (decide_eq_false (fun e => by rw [Nat.ble_eq_true_of_le e] at h; cases h)).symm
  · exact (decide_eq_true (Nat.le_of_ble_eq_true h)).symm
theorem blt_nat (a b : Nat) : Nat.blt a b = decide (a < b) := ble_nat (a+1) b

theorem beqB_eq : ∀ (l m : List UInt8), beqB l m = decide (l = m)
  | [], [] => rfl
  | [], _ :: _ => by simp [beqB]
  | _ :: _, [] => by simp [beqB]
  | a :: l, b :: m => by
    show @Bool.rec (fun _ => Bool) false (beqB l m) (Nat.beq a.toNat b.toNat) = _
    rw [beq_nat, beqB_eq l m]
    by_cases h : a.toNat = b.toNat
    · have : a = b := UInt8.toNat_inj.1 h
      subst this
      simp
    · have : a ≠ b := fun e => h (by rw [e])
      simp [h, this]
theorem ltB_eq : ∀ (l m : List UInt8), ltB l m = Op.bytesLess l m
  | [], [] => rfl
  | [], _ :: _ => by simp [ltB, Op.bytesLess]
  | _ :: _, [] => by simp [ltB, Op.bytesLess]
  | a :: l, b :: m => by
    show @Bool.rec (fun _ => Bool) (@Bool.rec (fun _ => Bool) false (ltB l m) (Nat.beq a.toNat b.toNat)) true (Nat.blt a.toNat b.toNat) = _
    rw [beq_nat, blt_nat, ltB_eq l m]
    simp only [Op.bytesLess]
    by_cases h : a.toNat < b.toNat
    · have h' : a < b := UInt8.lt_iff_toNat_lt.2 h
      simp [h, h']
    · have h' : ¬ a < b := fun e => h (UInt8.lt_iff_toNat_lt.1 e)
      by_cases e : a.toNat = b.toNat
      · have : a = b := UInt8.toNat_inj.1 e
        subst this
        simp
      · have : a ≠ b := fun e' => e (by rw [e'])
        simp [h, h', e, this]
theorem eqI_eq (x y : Int) : eqI x y = decide (x = y) := by
  cases x with
  | ofNat a => cases y with
    | ofNat b => simp only [eqI, beq_nat]; congr 1; simp only [Int.ofNat_eq_natCast, eq_iff_iff]; omega
    | negSucc b => simp only [eqI]; exact (decide_eq_false (by intro h; cases h)).symm
  | negSucc a => cases y with
    | ofNat b => simp only [eqI]; exact (decide_eq_false (by intro h; cases h)).symm
    | negSucc b => simp only [eqI, beq_nat]; congr 1; simp only [Int.negSucc_eq, eq_iff_iff]; omega
theorem ltI_eq (x y : Int) : ltI x y = decide (x < y) := by
  cases x with
  | ofNat a => cases y with
    | ofNat b => simp only [ltI, blt_nat]; congr 1; simp only [Int.ofNat_eq_natCast, eq_iff_iff]; omega
    | negSucc b => simp only [ltI]; exact (decide_eq_false (by simp only [Int.ofNat_eq_natCast, Int.negSucc_eq]; omega)).symm
  | negSucc a => cases y with
    | ofNat b => simp only [ltI]; exact (decide_eq_true (by simp only [Int.ofNat_eq_natCast, Int.negSucc_eq]; omega)).symm
    | negSucc b => simp only [ltI, blt_nat]; congr 1; simp only [Int.negSucc_eq, eq_iff_iff]; omega
end Ev
end

/- What the evaluator's values and rows mean in the machine's world; what one step may change. -/
section
namespace Ev
open Go Go.RowKit

/-- Where a row lies: the block, how far from its begin, how many cells the block has. -/
structure Loc where
  blk : Nat
  sh : Nat
  sz : Nat

abbrev Io := Nat → Option Loc

def Loc.at (L : Loc) (o : Nat) : Addr := ⟨L.blk, L.sh + o, none⟩

mutual
inductive VRel (ι : Io) : AV → Value → Prop
  | undef : VRel ι .undef undef
  | bool (b : Bool) : VRel ι (.bool b) (.bool b)
  | int (k : IntKind) (n : Int) : VRel ι (.int k n) (.int k n)
  | str (s : List UInt8) : VRel ι (.str s) (.string ⟨⟨s⟩⟩)
  | ptr {b o : Nat} {L : Loc} (h : ι b = some L) : VRel ι (.ptr b o) (.pointer (some (L.at o)))
  | sliceEx {b o len c : Nat} {L : Loc} (h : ι b = some L) (h1 : len ≤ c) : VRel ι (.slice b o len (.ex c)) (.slice (some (L.at o)) len c)
  | sliceOp {b o len c sz : Nat} {L : Loc} (h : ι b = some L) (h1 : len ≤ c) (h2 : L.sh + o + c * sz ≤ L.sz) : VRel ι (.slice b o len (.op sz)) (.slice (some (L.at o)) len c)
  | agg {l : List AV} {vs : List Value} (h : VRelL ι l vs) (h1 : ∀ v ∈ vs, v.oneCell' = true) : VRel ι (.agg l) (.agg ⟨vs⟩)
  | tup {l : List AV} {vs : List Value} (h : VRelL ι l vs) : VRel ι (.tup l) (.tuple ⟨vs⟩)
  | fn {f : Nat} {l : List AV} {vs : List Value} (h : VRelL ι l vs) : VRel ι (.fn f l) (.func (.func f) #[] ⟨vs⟩)
  | nilPtr : VRel ι (.nil .ptr) (.pointer none)
  | nilSlice : VRel ι (.nil .slice) (.slice none 0 0)
  | nilMap : VRel ι (.nil .map) (.map none)
  | nilFn : VRel ι (.nil .fn) .nilFunc
  | nilIface : VRel ι (.nil .iface) .nilIface
  | map {b : Nat} {L : Loc} (h : ι b = some L) : VRel ι (.map b) (.map (some L.blk))
  | yld {b : Nat} {L : Loc} (h : ι b = some L) : VRel ι (.yld b) (.func (.yield L.blk) #[] #[])
  | iface (t : TypeId) (v : Value) : VRel ι .iface (.iface t v)
  | empty (p : Option Addr) (c : Nat) : VRel ι .empty (.slice p 0 c)
inductive VRelL (ι : Io) : List AV → List Value → Prop
  | nil : VRelL ι [] []
  | cons {a : AV} {v : Value} {l : List AV} {vs : List Value} (h : VRel ι a v) (t : VRelL ι l vs) : VRelL ι (a :: l) (v :: vs)
end

/-- The later map knows all that the earlier one knows. -/
def Ext (ι ι' : Io) : Prop := ∀ b L, ι b = some L → ι' b = some L
theorem Ext.refl (ι : Io) : Ext ι ι := fun _ _ h => h
theorem Ext.trans {a b c : Io} (h : Ext a b) (k : Ext b c) : Ext a c := fun x L e => k x L (h x L e)

mutual
theorem VRel.mono {ι ι' : Io} (he : Ext ι ι') : ∀ {a : AV} {v : Value}, VRel ι a v → VRel ι' a v
  | _, _, .undef => .undef
  | _, _, .bool b => .bool b
  | _, _, .int k n => .int k n
  | _, _, .str s => .str s
  | _, _, .ptr h => .ptr (he _ _ h)
  | _, _, .sliceEx h h1 => .sliceEx (he _ _ h) h1
  | _, _, .sliceOp h h1 h2 => .sliceOp (he _ _ h) h1 h2
  | _, _, .agg h h1 => .agg (VRelL.mono he h) h1
  | _, _, .tup h => .tup (VRelL.mono he h)
  | _, _, .fn h => .fn (VRelL.mono he h)
  | _, _, .nilPtr => .nilPtr
  | _, _, .nilSlice => .nilSlice
  | _, _, .nilMap => .nilMap
  | _, _, .nilFn => .nilFn
  | _, _, .nilIface => .nilIface
  | _, _, .map h => .map (he _ _ h)
  | _, _, .yld h => .yld (he _ _ h)
  | _, _, .iface t v => .iface t v
  | _, _, .empty p c => .empty p c
theorem VRelL.mono {ι ι' : Io} (he : Ext ι ι') : ∀ {l : List AV} {vs : List Value}, VRelL ι l vs → VRelL ι' l vs
  | _, _, .nil => .nil
  | _, _, .cons h t => .cons (VRel.mono he h) (VRelL.mono he t)
end

theorem VRelL.length {ι : Io} : ∀ {l : List AV} {vs : List Value}, VRelL ι l vs → l.length = vs.length
  | _, _, .nil => rfl
  | _, _, .cons _ t => congrArg (· + 1) t.length
theorem VRelL.get {ι : Io} : ∀ {l : List AV} {vs : List Value}, VRelL ι l vs → ∀ {i : Nat} {a : AV}, l[i]? = some a → ∃ v, vs[i]? = some v ∧ VRel ι a v
  | _, _, .nil, i, a, h => by simp at h
  | _, _, .cons h t, 0, a, e => by simp at e; subst e; exact ⟨_, by simp, h⟩
  | _, _, .cons _ t, i+1, a, e => by
    obtain ⟨v, h1, h2⟩ := t.get (i := i) (by simpa using e)
    exact ⟨v, by simpa using h1, h2⟩
theorem VRelL.append {ι : Io} : ∀ {l m : List AV} {vs us : List Value}, VRelL ι l vs → VRelL ι m us → VRelL ι (l ++ m) (vs ++ us)
  | _, _, _, _, .nil, h => h
  | _, _, _, _, .cons h t, k => .cons h (t.append k)
theorem VRelL.take {ι : Io} : ∀ {l : List AV} {vs : List Value}, VRelL ι l vs → ∀ n, VRelL ι (l.take n) (vs.take n)
  | _, _, .nil, n => by simp; exact .nil
  | _, _, .cons h t, 0 => by simp; exact .nil
  | _, _, .cons h t, n+1 => by simp only [List.take_succ_cons]; exact .cons h (t.take n)
theorem VRelL.drop {ι : Io} : ∀ {l : List AV} {vs : List Value}, VRelL ι l vs → ∀ n, VRelL ι (l.drop n) (vs.drop n)
  | _, _, .nil, n => by simp; exact .nil
  | _, _, .cons h t, 0 => by simp; exact .cons h t
  | _, _, .cons _ t, n+1 => by simp only [List.drop_succ_cons]; exact t.drop n

/-- The cells of a value. -/
theorem VRel.cells {ι : Io} {a : AV} {v : Value} (h : VRel ι a v) (hs : a.stored = true) : VRelL ι a.cells v.cells.toList ∧ ∀ u ∈ v.cells.toList, u.oneCell' = true := by
  cases h <;> first
    | (simp [AV.stored] at hs; done)
    | (refine ⟨.cons ?_ .nil, by simp [Value.cells, Value.oneCell']⟩; constructor <;> assumption)
    | (refine ⟨by simpa [AV.cells, Value.cells] using by assumption, by simpa [Value.cells] using by assumption⟩)

/-! ### rows -/

/-- Cells of a block, from a place on. -/
def CellsAt (ι : Io) (c : Array Value) (o : Nat) (l : List AV) : Prop := ∀ i a, l[i]? = some a → ∃ v, c[o + i]? = some v ∧ VRel ι a v ∧ v.oneCell' = true

inductive MapRel (ι : Io) : List (AV × AV) → List MapEntry → Prop
  | nil : MapRel ι [] []
  | cons {k x : AV} {e : MapEntry} {l : List (AV × AV)} {es : List MapEntry} (hk : VRel ι k e.key) (hx : VRel ι x e.val) (t : MapRel ι l es) : MapRel ι ((k, x) :: l) (e :: es)

/-- How the record of a range over a function reads (what its code is, is told apart). -/
def LoopRel (ι : Io) (IR : IC → Code → Prop) (tm : T AV) (ps : List Nat) (a b : IC) (p : Option Ex) (r : Loop) : Prop :=
  (∀ t, t < r.tmps.size → VRel ι ((Opd.t t).ev tm) (r.tmps.getD t undef)) ∧ r.params.toList = ps ∧ IR a r.assign ∧ IR b r.body ∧
  (match p with
   | none => r.state = .ready ∧ r.pending = none
   | some .ret => r.state = .done ∧ r.pending = some .ret
   | some (.exit id) => r.state = .done ∧ r.pending = some (.exit id)
   | some .normal => False)

/-- A map's stamps. -/
def MapWf (m : Array MapEntry) (clock : Nat) : Prop := m.toList.map (·.born) = List.range m.size ∧ clock = m.size
theorem MapWf.lt {m : Array MapEntry} {clock : Nat} (h : MapWf m clock) : ∀ e ∈ m.toList, e.born < clock := fun e he => by
  have : e.born ∈ m.toList.map (·.born) := List.mem_map.2 ⟨e, he, rfl⟩
  rw [h.1] at this
  rw [h.2]; exact List.mem_range.1 this
theorem MapWf.nodup {m : Array MapEntry} {clock : Nat} (h : MapWf m clock) : (m.toList.map (·.born)).Nodup := by rw [h.1]; exact List.nodup_range
theorem MapWf.at {m : Array MapEntry} {clock : Nat} (h : MapWf m clock) {j : Nat} {e : MapEntry} (hj : m[j]? = some e) : e.born = j := by
  have h1 : (m.toList.map (·.born))[j]? = some e.born := by rw [List.getElem?_map, Array.getElem?_toList, hj]; rfl
  rw [h.1] at h1
  have hlt : j < m.size := (Array.getElem?_eq_some_iff.1 hj).1
  rw [List.getElem?_range hlt] at h1
  simpa using h1.symm

inductive RowRel (IR : Nat → IC → Code → Prop) (ι : Io) (L : Loc) : ARow → Obj → Prop
  | cells {g : Nat} {l : List AV} {c : Array Value} {e : TypeId} {lo hi : Nat} (hz : c.size = L.sz) (hc : CellsAt ι c L.sh l) (hl : L.sh + l.length ≤ c.size) (hf : ∀ o, o < c.size → ¬ (lo ≤ o ∧ o < hi)) (ht : g = 0 ∨ (g = e + 1 ∧ L.sh = 0)) : RowRel IR ι L (.cells g l) (.cells c e (lo, hi))
  | map {es : List (AV × AV)} {m : Array MapEntry} {clock : Nat} (h : MapRel ι es m.toList) (hw : MapWf m clock) : RowRel IR ι L (.map es) (.map m clock)
  | roM {es : List (AV × AV)} {m : Array MapEntry} {clock : Nat} (h : MapRel ι es m.toList) (hw : MapWf m clock) : RowRel IR ι L (.roM es) (.map m clock)
  | ro {k : Nat} {l : List AV} {c : Array Value} {e : TypeId} {fz : Nat × Nat} (hc : CellsAt ι c L.sh l) (hk : k = 0 ∨ (k = L.blk + 1 ∧ L.sh = 0)) : RowRel IR ι L (.ro k l) (.cells c e fz)
  | loop {tm : T AV} {ps : List Nat} {a b : IC} {p : Option Ex} {r : Loop} (h : LoopRel ι (IR r.tmps.size) tm ps a b p r) : RowRel IR ι L (.loop tm ps a b p) (.loop r)

theorem CellsAt.mono {ι ι' : Io} (he : Ext ι ι') {c : Array Value} {o : Nat} {l : List AV} (h : CellsAt ι c o l) : CellsAt ι' c o l :=
  fun i a e => let ⟨v, h1, h2, h3⟩ := h i a e; ⟨v, h1, h2.mono he, h3⟩
theorem MapRel.mono {ι ι' : Io} (he : Ext ι ι') : ∀ {l : List (AV × AV)} {es : List MapEntry}, MapRel ι l es → MapRel ι' l es
  | _, _, .nil => .nil
  | _, _, .cons hk hx t => .cons (hk.mono he) (hx.mono he) (t.mono he)
theorem RowRel.mono {IR : Nat → IC → Code → Prop} {ι ι' : Io} (he : Ext ι ι') {L : Loc} {r : ARow} {o : Obj} (h : RowRel IR ι L r o) : RowRel IR ι' L r o := by
  cases h with
  | cells hz hc hl hf ht => exact .cells hz (hc.mono he) hl hf ht
  | map h hw => exact .map (h.mono he) hw
  | roM h hw => exact .roM (h.mono he) hw
  | ro hc hk => exact .ro (hc.mono he) hk
  | loop h => exact .loop ⟨fun t ht => (h.1 t ht).mono he, h.2⟩

/-- What stays: the base world, up to which block. -/
structure Base where
  n : Nat
  w : World

structure HRel (IR : Nat → IC → Code → Prop) (B : Base) (ι : Io) (rows : T ARow) (w : World) : Prop where
  row : ∀ b r, rows.get b = some r → ∃ L o, ι b = some L ∧ w.heap[L.blk]? = some o ∧ RowRel IR ι L r o
  inj : ∀ b b' r r' L L', rows.get b = some r → rows.get b' = some r' → (r.isRo = false ∨ r'.isRo = false) → ι b = some L → ι b' = some L' → L.blk = L'.blk → b = b'
  low : ∀ b r L, rows.get b = some r → ι b = some L → r.isRo = false → B.n ≤ L.blk
  below : Below B.n B.w w
  room : B.n ≤ w.heap.size

/-- Of the rows that lie at a block. -/
def Owns (ι : Io) (rows : T ARow) (k : Nat) : Prop := ∃ b r L, rows.get b = some r ∧ ι b = some L ∧ L.blk = k

structure Post (IR : Nat → IC → Code → Prop) (B : Base) (ι ι' : Io) (rows : T ARow) (w : World) (nx : Nat) (rows' : T ARow) (nx' : Nat) (w' : World) : Prop where
  ext : Ext ι ι'
  new : ∀ b, nx ≤ b → nx' ≤ b → ι' b = ι b
  old : ∀ b, b < nx → ι' b = ι b
  le : nx ≤ nx'
  hrel : HRel IR B ι' rows' w'
  frame : ∀ k, k < w.heap.size → ¬ Owns ι rows k → w'.heap[k]? = w.heap[k]?
  size : w.heap.size ≤ w'.heap.size
  own : ∀ k, Owns ι' rows' k → Owns ι rows k ∨ w.heap.size ≤ k

section
variable {IR : Nat → IC → Code → Prop} {B : Base}

theorem Post.refl {ι : Io} {rows : T ARow} {w : World} (nx : Nat) (h : HRel IR B ι rows w) : Post IR B ι ι rows w nx rows nx w :=
  ⟨.refl _, fun _ _ _ => rfl, fun _ _ => rfl, Nat.le_refl _, h, fun _ _ _ => rfl, Nat.le_refl _, fun _ h => .inl h⟩

theorem Post.trans {ι ι1 ι2 : Io} {rows rows1 rows2 : T ARow} {w w1 w2 : World} {nx nx1 nx2 : Nat}
    (h : Post IR B ι ι1 rows w nx rows1 nx1 w1) (k : Post IR B ι1 ι2 rows1 w1 nx1 rows2 nx2 w2) : Post IR B ι ι2 rows w nx rows2 nx2 w2 where
  ext := h.ext.trans k.ext
  new := fun b h1 h2 => (k.new b (Nat.le_trans k.le h2) h2).trans (h.new b h1 (Nat.le_trans k.le h2))
  old := fun b hb => (k.old b (Nat.lt_of_lt_of_le hb h.le)).trans (h.old b hb)
  le := Nat.le_trans h.le k.le
  hrel := k.hrel
  frame := fun j hj ho => by
    rw [k.frame j (Nat.lt_of_lt_of_le hj h.size), h.frame j hj ho]
    intro hw
    rcases h.own j hw with h1 | h1
    · exact ho h1
    · omega
  size := Nat.le_trans h.size k.size
  own := fun j hj => by
    rcases k.own j hj with h1 | h1
    · exact h.own j h1
    · exact .inr (Nat.le_trans h.size h1)

/-- Nothing but draws. -/
theorem HRel.heap_eq {ι : Io} {rows : T ARow} {w w' : World} (h : HRel IR B ι rows w) (hh : w'.heap = w.heap) (hb : Below B.n w w') : HRel IR B ι rows w' where
  row := fun b r e => by
    obtain ⟨L, o, h1, h2, h3⟩ := h.row b r e
    exact ⟨L, o, h1, by rw [hh]; exact h2, h3⟩
  inj := h.inj
  low := h.low
  below := h.below.trans hb
  room := by rw [hh]; exact h.room

/-- A new row, in a new block. -/
theorem Post.new_row {ι : Io} {rows : T ARow} {w : World} {nx : Nat} (h : HRel IR B ι rows w) (hfr : ι nx = none) (o : Obj) (sz : Nat) (r : ARow)
    (hr : ∀ ι', Ext ι ι' → ι' nx = some ⟨w.heap.size, 0, sz⟩ → RowRel IR ι' ⟨w.heap.size, 0, sz⟩ r o) :
    ∃ ι', ι' nx = some ⟨w.heap.size, 0, sz⟩ ∧ Post IR B ι ι' rows w nx (rows.set nx (some r)) (nx+1) { w with heap := w.heap.push o } := by
  let L : Loc := ⟨w.heap.size, 0, sz⟩
  let ι' : Io := fun b => if b = nx then some L else ι b
  have hext : Ext ι ι' := fun b L' e => by
    show (if b = nx then some L else ι b) = some L'
    rw [if_neg (by intro e'; subst e'; rw [hfr] at e; cases e)]; exact e
  have hne : ∀ b rr, rows.get b = some rr → b ≠ nx := fun b rr e e' => by
    subst e'
    obtain ⟨L', _, h1, _⟩ := h.row _ _ e
    rw [hfr] at h1; cases h1
  have hbk : ∀ b rr L', rows.get b = some rr → ι b = some L' → L'.blk < w.heap.size := fun b rr L' e e' => by
    obtain ⟨L2, o2, h1, h2, _⟩ := h.row b rr e
    rw [e'] at h1; cases h1
    exact (Array.getElem?_eq_some_iff.1 h2).1
  have hs : ∀ b, b ≠ nx → ι' b = ι b := fun b hb => if_neg hb
  have hn : ι' nx = some L := if_pos rfl
  refine ⟨ι', hn, hext, fun b _ hb => hs b (by omega), fun b hb => hs b (by omega), Nat.le_succ _, ?_, ?_, by simp, ?_⟩
  · refine ⟨fun b rr e => ?_, fun b b' rr rr' L1 L2 e e' ho i i' hb => ?_, fun b rr L1 e i => ?_, ?_, ?_⟩
    · rw [T.get_set] at e
      split at e
      · rename_i hb
        subst hb
        simp only [Option.some.injEq] at e
        subst e
        exact ⟨L, o, hn, by simp [L], hr ι' hext hn⟩
      · rename_i hb
        obtain ⟨L1, o1, h1, h2, h3⟩ := h.row b rr e
        refine ⟨L1, o1, by rw [hs b hb]; exact h1, ?_, h3.mono hext⟩
        have := hbk b rr L1 e h1
        show (w.heap.push o)[L1.blk]? = some o1
        rw [Array.getElem?_push, if_neg (by omega)]; exact h2
    · rw [T.get_set] at e e'
      by_cases hb1 : b = nx <;> by_cases hb2 : b' = nx
      · rw [hb1, hb2]
      · rw [if_neg hb2] at e'
        rw [hb1, hn] at i
        rw [hs b' hb2] at i'
        cases i
        have := hbk b' rr' L2 e' i'
        simp only [L] at hb
        omega
      · rw [if_neg hb1] at e
        rw [hb2, hn] at i'
        rw [hs b hb1] at i
        cases i'
        have := hbk b rr L1 e i
        simp only [L] at hb
        omega
      · rw [if_neg hb1] at e
        rw [if_neg hb2] at e'
        rw [hs b hb1] at i
        rw [hs b' hb2] at i'
        exact h.inj b b' rr rr' L1 L2 e e' ho i i' hb
    · intro hro
      rw [T.get_set] at e
      by_cases hb1 : b = nx
      · rw [hb1, hn] at i
        cases i
        exact h.room
      · rw [if_neg hb1] at e
        rw [hs b hb1] at i
        exact h.low b rr L1 e i hro
    · exact h.below.alloc h.room o
    · have := h.room; simp; omega
  · intro k hk _
    show (w.heap.push o)[k]? = _
    rw [Array.getElem?_push, if_neg (by omega)]
  · rintro k ⟨b, rr, L1, e, i, rfl⟩
    rw [T.get_set] at e
    by_cases hb1 : b = nx
    · rw [hb1, hn] at i
      cases i
      exact .inr (Nat.le_refl _)
    · rw [if_neg hb1] at e
      rw [hs b hb1] at i
      exact .inl ⟨b, rr, L1, e, i, rfl⟩

/-- A row that is written where it lies. -/
theorem Post.set_row {ι : Io} {rows : T ARow} {w w' : World} {nx b : Nat} {r0 r : ARow} {L : Loc} {o : Obj} (hro : r0.isRo = false) (h : HRel IR B ι rows w) (he : rows.get b = some r0) (hi : ι b = some L)
    (hw : w'.heap[L.blk]? = some o) (hr : RowRel IR ι L r o) (hoth : ∀ k, k ≠ L.blk → w'.heap[k]? = w.heap[k]?) (hsz : w'.heap.size = w.heap.size) (hb : Below B.n w w') :
    Post IR B ι ι rows w nx (rows.set b (some r)) nx w' := by
  have hget : ∀ b' rr, (rows.set b (some r)).get b' = some rr → ∃ rr', rows.get b' = some rr' ∧ (rr.isRo = false → rr'.isRo = false) := fun b' rr e => by
    rw [T.get_set] at e
    split at e
    · rename_i hb'; rw [hb']; exact ⟨_, he, fun _ => hro⟩
    · exact ⟨_, e, id⟩
  refine ⟨.refl _, fun _ _ _ => rfl, fun _ _ => rfl, Nat.le_refl _, ⟨fun b' rr e => ?_, fun b1 b2 r1 r2 L1 L2 e1 e2 ho i1 i2 hk => ?_, fun b' rr L' e i => ?_, h.below.trans hb, by rw [hsz]; exact h.room⟩, fun k _ ho => ?_, Nat.le_of_eq hsz.symm, fun k hk => ?_⟩
  · rw [T.get_set] at e
    split at e
    · rename_i hb'
      subst hb'
      simp only [Option.some.injEq] at e
      subst e
      exact ⟨L, o, hi, hw, hr⟩
    · rename_i hb'
      obtain ⟨L1, o1, h1, h2, h3⟩ := h.row b' rr e
      refine ⟨L1, o1, h1, ?_, h3⟩
      rw [hoth _ (fun hk => hb' (h.inj b' b rr r0 L1 L e he (.inr hro) h1 hi hk))]; exact h2
  · obtain ⟨_, e1', f1⟩ := hget b1 r1 e1
    obtain ⟨_, e2', f2⟩ := hget b2 r2 e2
    exact h.inj b1 b2 _ _ L1 L2 e1' e2' (ho.imp f1 f2) i1 i2 hk
  · intro hr2
    obtain ⟨_, e', h3⟩ := hget b' rr e
    exact h.low b' _ L' e' i (h3 hr2)
  · exact hoth k (fun hk => ho ⟨b, r0, L, he, hi, hk.symm⟩)
  · obtain ⟨b', rr, L', e, i, hk⟩ := hk
    obtain ⟨_, e', _⟩ := hget b' rr e
    exact .inl ⟨b', _, L', e', i, hk⟩

/-- A row that goes. -/
theorem HRel.drop_row {ι : Io} {rows : T ARow} {w : World} (b : Nat) (h : HRel IR B ι rows w) : HRel IR B ι (rows.set b none) w := by
  have hget : ∀ b' rr, (rows.set b none).get b' = some rr → rows.get b' = some rr := fun b' rr e => by
    rw [T.get_set] at e
    split at e
    · cases e
    · exact e
  exact ⟨fun b' rr e => h.row b' rr (hget _ _ e), fun b1 b2 r1 r2 L1 L2 e1 e2 => h.inj b1 b2 r1 r2 L1 L2 (hget _ _ e1) (hget _ _ e2), fun b' rr L e => h.low b' rr L (hget _ _ e), h.below, h.room⟩
theorem Post.drop_row {ι : Io} {rows : T ARow} {w : World} {nx : Nat} (b : Nat) (h : HRel IR B ι rows w) : Post IR B ι ι rows w nx (rows.set b none) nx w :=
  ⟨.refl _, fun _ _ _ => rfl, fun _ _ => rfl, Nat.le_refl _, h.drop_row b, fun _ _ _ => rfl, Nat.le_refl _, fun k ⟨b', rr, L, e, i, hk⟩ => by
    rw [T.get_set] at e
    split at e
    · cases e
    · exact .inl ⟨b', rr, L, e, i, hk⟩⟩
theorem Post.of_below {ι : Io} {rows : T ARow} {w w' : World} {nx : Nat} (h : HRel IR B ι rows w) (hh : w'.heap = w.heap) (hb : Below B.n w w') : Post IR B ι ι rows w nx rows nx w' :=
  ⟨.refl _, fun _ _ _ => rfl, fun _ _ => rfl, Nat.le_refl _, h.heap_eq hh hb, fun _ _ _ => by rw [hh], by rw [hh]; exact Nat.le_refl _, fun _ h => .inl h⟩
end
end Ev
end
