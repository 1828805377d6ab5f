/- More rules for runs with unknown values. -/
import Derived.Test.YtkakkacpddiogaaGreatDoorGIR43
import Derived.Test.YtkakkacpddiogaaGreatDoorGEwN

set_option linter.unusedSimpArgs false
set_option linter.unusedVariables false
section
namespace Ev
open Go

theorem y_wantU (w : Bool) : wantB (some .undef) w = false := rfl

section
variable {C : CallF} {LF : Nat} {rows : T ARow} {nx : Nat}
theorem y_leq (k : IntKind) (a b : Int) : evK [.int k a, .int k b] rows nx C (.binI .leq) = some ⟨.bool (decide (a ≤ b)), rows, nx⟩ := by
  show rvo rows nx (gd (k == k) (some (.bool (!ltI b a)))) = _
  rw [ltI_eq]
  simp only [beq_self_eq_true, gd, rvo, bo]
  by_cases h : a ≤ b
  · rw [decide_eq_true h, decide_eq_false (by omega)]; rfl
  · rw [decide_eq_false h, decide_eq_true (by omega)]; rfl
theorem y_lss (k : IntKind) (a b : Int) : evK [.int k a, .int k b] rows nx C (.binI .lss) = some ⟨.bool (decide (a < b)), rows, nx⟩ := by
  show rvo rows nx (gd (k == k) (some (.bool (ltI a b)))) = _
  rw [ltI_eq]; simp [gd, rvo, bo]
theorem y_gtr (k : IntKind) (a b : Int) : evK [.int k a, .int k b] rows nx C (.binI .gtr) = some ⟨.bool (decide (b < a)), rows, nx⟩ := by
  show rvo rows nx (gd (k == k) (some (.bool (ltI b a)))) = _
  rw [ltI_eq]; simp [gd, rvo, bo]
theorem y_eql (k : IntKind) (a b : Int) : evK [.int k a, .int k b] rows nx C (.binI .eql) = some ⟨.bool (decide (a = b)), rows, nx⟩ := by
  show rvo rows nx (gd (k == k) (some (.bool (eqI a b)))) = _
  rw [eqI_eq]; simp [gd, rvo, bo]
theorem y_neq (k : IntKind) (a b : Int) : evK [.int k a, .int k b] rows nx C (.binI .neq) = some ⟨.bool (!decide (a = b)), rows, nx⟩ := by
  show rvo rows nx (gd (k == k) (some (.bool (!eqI a b)))) = _
  rw [eqI_eq]; simp [gd, rvo, bo]
theorem y_add1 (i : Nat) (h : i < 1000000) : evK [.int .i64 (.ofNat i), .int .i64 (.ofNat 1)] rows nx C (.binI .add) = some ⟨.int .i64 (.ofNat (i + 1)), rows, nx⟩ := by
  show rvo rows nx (some (.int .i64 (wrapI .i64 (Int.add (.ofNat i) (.ofNat 1))))) = _
  have e1 : Int.add (.ofNat i) (.ofNat 1) = .ofNat (i + 1) := rfl
  rw [e1]
  have : wrapI .i64 (.ofNat (i+1)) = .ofNat (i+1) := by
    unfold wrapI
    simp only [limP, blt_nat]
    rw [decide_eq_true (by omega)]
  rw [this]; rfl
theorem y_eqS (a b : List UInt8) : evK [.str a, .str b] rows nx C (.binS .eql) = some ⟨.bool (decide (a = b)), rows, nx⟩ := by
  show rvo rows nx (some (.bool (beqB a b))) = _
  rw [beqB_eq]; rfl
theorem y_lenStr (l : List UInt8) : evK [.str l] rows nx C (.len .str) = some ⟨.int .i64 (.ofNat l.length), rows, nx⟩ := by
  show bo (asStr (.str l) fun l => some (lenN l)) (fun n => rv rows nx (.int .i64 (.ofNat n))) = _
  show rv rows nx (.int .i64 (.ofNat (lenN l))) = _
  rw [lenN_eq]; rfl
def bytesAV (l : List UInt8) : List AV := l.map fun c => .int .u8 (.ofNat c.toNat)
theorem y_toBytes (l : List UInt8) : evK [.str l] rows nx C (.rare .toBytes) = some ⟨.slice nx 0 l.length (.op 1), rows.set nx (some (.cells 0 (bytesAV l))), nx + 1⟩ := by
  show rnew rows nx (.slice nx 0 (lenN l) (.op 1)) (.cells 0 (mapN (fun c => .int .u8 (.ofNat c.toNat)) l)) = _
  rw [lenN_eq, mapN_eq]; rfl
theorem y_idxSl (b o n : Nat) (c : Cap) (k : IntKind) (i sz : Nat) : evK [.slice b o n c, .int k (.ofNat i)] rows nx C (.indexSl sz) = if i < n then some ⟨.ptr b (o + i * sz), rows, nx⟩ else none := by
  show gd (Nat.blt i n) (rv rows nx (.ptr b (Nat.add o (Nat.mul i sz)))) = _
  rw [blt_nat]
  by_cases h : i < n <;> simp [h, gd] <;> rfl
theorem y_fieldAddr (b o off : Nat) : evK [.ptr b o] rows nx C (.fieldAddr off) = some ⟨.ptr b (o + off), rows, nx⟩ := rfl
theorem y_call (f : Nat) (vs : List AV) : evK vs rows nx C (.call f) = C (.f f) vs rows nx := rfl
end

/-- What is said of a byte of a name. -/
def nameB (c : Nat) (first : Bool) : Bool :=
  let letter := (decide ((97 : Int) ≤ c) && decide ((c : Int) ≤ 122)) || (decide ((65 : Int) ≤ c) && decide ((c : Int) ≤ 90))
  let digit := (decide ((48 : Int) ≤ c) && decide ((c : Int) ≤ 57)) || decide ((c : Int) = 95)
  letter || (!first && digit)
end Ev
end

/- An oracle that is a plain function of flat arguments; rules for structs of three parts. -/
section
namespace Ev
open Go Go.RowKit

noncomputable def oFun (g : List AV → Option AV) : Orc := fun args rows nx => bo (g args) fun v => some ⟨v, rows, nx⟩
theorem fun_okG {P : Program} {B : Base} {g : Nat} {tbl : List AV} {f : Nat} {G : List AV → Option AV} (hK : KG g tbl B) (h : ∀ args v, G args = some v → RowG P g tbl f (args, v)) : OrcOK B P f (oFun G) := by
  intro ι rows w nx args us r he hh hfr ha
  obtain ⟨v, h1, h2⟩ := bo_some.1 he
  simp only [Option.some.injEq] at h2
  subst h2
  obtain ⟨q1, q2⟩ := h _ _ h1 ι us w (hK.at hh) ha
  rw [q1]
  refine ⟨rfl, Calls.mono q2 fun e w' he' => ?_⟩
  obtain ⟨u, rfl, h3, h4⟩ := he'
  refine ⟨u, ι, rfl, h3, ?_⟩
  have hb : ∀ k, k < w.heap.size → w'.heap[k]? = w.heap[k]? := fun k hk => h4.block k hk
  have hs : w.heap.size ≤ w'.heap.size := h4.size
  refine ⟨.refl _, fun _ _ _ => rfl, fun _ _ => rfl, Nat.le_refl _, ⟨fun b r e => ?_, hh.inj, hh.low, ?_, Nat.le_trans hh.room hs⟩, fun k hk _ => hb k hk, hs, fun k hk => .inl hk⟩
  · obtain ⟨L, o, g1, g2, g3⟩ := hh.row b r e
    exact ⟨L, o, g1, by rw [hb _ (Array.getElem?_eq_some_iff.1 g2).1]; exact g2, g3⟩
  · refine hh.below.trans ⟨h4.os, h4.tape, h4.output, ?_, fun k hk => hb k (by have := hh.room; omega)⟩
    omega

/-- A row out of a function's run. -/
theorem fn_row {P : Program} {g : Nat} {tbl : List AV} {orc : Nat → Option Orc} {fns : T IFn} {LF fuel f : Nat} {ir : IFn} (hm : P.follows .mixedOrders = true) (hfns : Tied P fns) (horc : ∀ (B : Base), KG g tbl B → ∀ f o, orc f = some o → OrcOK B P f o) (hf : fns.get f = some ir) {args : List AV} {a : AV}
    (hn : Nat.ble (lenN args) ir.n = true) (hfl : (flatL args && flat a) = true) (hr : ∃ rows nx, evFn (evCall orc fns LF fuel) LF ir args (g0 g tbl) (Nat.succ g) = some ⟨a, rows, nx⟩) : RowG P g tbl f (args, a) := by
  refine row_okG (LF := LF) (fuel := fuel + 1) hm hfns horc ?_
  obtain ⟨rows, nx, hr⟩ := hr
  show bo (bo (fns.get f) fun fn => evFn (evCall orc fns LF fuel) LF fn args (g0 g tbl) (Nat.succ g)) _ = _
  rw [hf]
  show bo (evFn (evCall orc fns LF fuel) LF ir args (g0 g tbl) (Nat.succ g)) _ = _
  rw [hr]
  show gd (flatL args && flat a) (some a) = some a
  rw [hfl]; rfl

section
variable {C : CallF} {LF : Nat} {rows : T ARow} {nx : Nat}
theorem z_stS (s : List UInt8) : (AV.str s).stored = true := rfl
theorem z_loadM (b n : Nat) : evK [.ptr b 0] rows nx C (.load (.many n)) = bo (rdO (rows.get b)) fun l => bo (takeN n l) fun r => some ⟨.agg r, rows, nx⟩ := by
  show bo (asRead (rows.get b) fun l => kd (.many n) (dropN 0 l)) (fun v => rv rows nx v) = _
  have key : ∀ l : List AV, bo (kd (.many n) (dropN 0 l)) (fun v => rv rows nx v) = bo (takeN n l) fun r => some ⟨.agg r, rows, nx⟩ := fun l => by
    show bo (bo (takeN n l) fun r => some (AV.agg r)) _ = _
    cases takeN n l <;> rfl
  cases h : rows.get b with
  | none => rfl
  | some q => cases q <;> first
    | rfl
    | (show bo (kd (.many n) (dropN 0 _)) _ = bo _ _; rw [key]; rfl)
theorem z_take3 (a b c : AV) : takeN 3 [a, b, c] = some [a, b, c] := rfl
theorem z_take4 (a b c d : AV) : takeN 4 [a, b, c, d] = some [a, b, c, d] := rfl
theorem z_store3 (b : Nat) (p q r : AV) : evK [.ptr b 0, .agg [p, q, r]] rows nx C (.store (.many 3)) = asCells (rows.get b) (fun g l => bo (putN [p, q, r] 0 l) fun l => some ⟨.undef, rows.set b (some (.cells g l)), nx⟩) := rfl
theorem z_put3 (p q r x y z : AV) : putN [p, q, r] 0 [x, y, z] = some [p, q, r] := rfl
theorem z_storeI (b o : Nat) (k : IntKind) (n : Int) : evK [.ptr b o, .int k n] rows nx C (.store .one) = asCells (rows.get b) (fun g l => bo (putN [.int k n] o l) fun l => some ⟨.undef, rows.set b (some (.cells g l)), nx⟩) := rfl
theorem z_put1 (p x y z : AV) : putN [p] 0 [x, y, z] = some [p, y, z] := rfl
theorem z_build0 (z : List AV) : evK [] rows nx C (.build z []) = some ⟨.agg z, rows, nx⟩ := rfl
theorem z_build12 (z x y : AV) (a b : List UInt8) : evK [.str a, .str b] rows nx C (.build [z, x, y] [(1, .one), (2, .one)]) = some ⟨.agg [z, .str a, .str b], rows, nx⟩ := rfl
theorem z_build012 (z x y : AV) (k : IntKind) (n : Int) (a b : List UInt8) : evK [.int k n, .str a, .str b] rows nx C (.build [z, x, y] [(0, .one), (1, .one), (2, .one)]) = some ⟨.agg [.int k n, .str a, .str b], rows, nx⟩ := rfl
theorem z_binA3 (i j : Int) (a b c d : List UInt8) (hi : inR .i64 i = true) (hj : inR .i64 j = true) (ha : a.length ≤ 1000000) (hb : b.length ≤ 1000000) (hc : c.length ≤ 1000000) (hd : d.length ≤ 1000000) :
    evK [.agg [.int .i64 i, .str a, .str b], .agg [.int .i64 j, .str c, .str d]] rows nx C (.rare (.binA false [.int .i64, .str, .str])) = some ⟨.bool (decide (i = j ∧ a = c ∧ b = d)), rows, nx⟩ := by
  have e1 : eqL [.int .i64, .str, .str] [.int .i64 i, .str a, .str b] [.int .i64 j, .str c, .str d] = some (decide (i = j ∧ a = c ∧ b = d)) := by
    show bo (eq1 (.int .i64) (.int .i64 i) (.int .i64 j)) (fun e => bo (bo (eq1 .str (.str a) (.str c)) fun e => bo (bo (eq1 .str (.str b) (.str d)) fun e => bo (some true) fun r => some (match e with | true => r | false => false)) fun r => some (match e with | true => r | false => false)) fun r => some (match e with | true => r | false => false)) = _
    have f1 : eq1 (.int .i64) (.int .i64 i) (.int .i64 j) = some (decide (i = j)) := by
      show gd ((IntKind.i64 == IntKind.i64) && ((IntKind.i64 == IntKind.i64) && (inR .i64 i && inR .i64 j))) (some (eqI i j)) = _
      simp [hi, hj, gd, eqI_eq]
    have f2 : ∀ {a c : List UInt8}, a.length ≤ 1000000 → c.length ≤ 1000000 → eq1 .str (.str a) (.str c) = some (decide (a = c)) := fun {a c} ha hc => by
      show gd (Nat.ble (lenN a) 1000000 && Nat.ble (lenN c) 1000000) (some (beqB a c)) = _
      rw [lenN_eq, lenN_eq, ble_nat, ble_nat, decide_eq_true ha, decide_eq_true hc, beqB_eq]; rfl
    rw [f1, f2 ha hc, f2 hb hd]
    by_cases h1 : i = j <;> by_cases h2 : a = c <;> by_cases h3 : b = d <;> simp [bo, h1, h2, h3]
  show bo (eqL [.int .i64, .str, .str] [.int .i64 i, .str a, .str b] [.int .i64 j, .str c, .str d]) (fun b => rv rows nx (.bool (flipB false b))) = _
  rw [e1]; rfl

theorem d_draw (m : Nat) (l : List DOp) (rest : List Nat) (s : St) : runIC C LF (.draw m l rest) s = bo (bo (evDs C s.nx l ⟨s.tm, s.rows, s.nx + m, [], [], []⟩) fun t => gd (chkLg C ((m, t.rows) :: t.eps) t.lg) (some ⟨t.tm, account s.nx t.al t.rows rest, t.nx⟩)) fun s => some ⟨.normal, s⟩ := rfl
theorem d_nil (n0 : Nat) (s : DS) : evDs C n0 [] s = some s := rfl
theorem d_cons (n0 : Nat) (d : DOp) (l : List DOp) (s : DS) : evDs C n0 (d :: l) s = bo (evD C n0 d s) (evDs C n0 l) := rfl
theorem d_p (n0 i lo hi d : Nat) (acc : List Nat) (chk : Bool) (k : K) (xs : List Opd) (s : DS) : evD C n0 ⟨i, .p, acc, lo, hi, chk, ⟨none, d, k, xs⟩⟩ s = bo (evK (evList s.tm xs) s.rows n0 C k) fun r => some ⟨s.tm.set d (some r.v), s.rows, s.nx, s.al, s.eps, s.lg⟩ := rfl
theorem d_l (n0 i lo hi d : Nat) (acc : List Nat) (k : K) (xs : List Opd) (s : DS) : evD C n0 ⟨i, .l, acc, lo, hi, false, ⟨none, d, k, xs⟩⟩ s = bo (evK (evList s.tm xs) s.rows n0 C k) fun r => some ⟨s.tm.set d (some r.v), s.rows, s.nx, s.al, s.eps, s.lg⟩ := rfl
theorem d_a (n0 i lo hi d : Nat) (acc : List Nat) (chk : Bool) (k : K) (xs : List Opd) (s : DS) : evD C n0 ⟨i, .a, acc, lo, hi, chk, ⟨none, d, k, xs⟩⟩ s = bo (evK (evList s.tm xs) s.rows (n0 + i) C k) fun r => bo (r.rows.get (n0 + i)) fun row => some ⟨s.tm.set d (some r.v), s.rows, s.nx, (i, row) :: s.al, s.eps, s.lg⟩ := rfl
theorem d_c (n0 i lo hi d : Nat) (acc : List Nat) (chk : Bool) (k : K) (xs : List Opd) (s : DS) : evD C n0 ⟨i, .c, acc, lo, hi, chk, ⟨none, d, k, xs⟩⟩ s = bo (evK (evList s.tm xs) (account n0 s.al s.rows acc) s.nx C k) fun r => some ⟨s.tm.set d (some r.v), r.rows, r.nx, s.al, (i, s.rows) :: s.eps, s.lg⟩ := rfl
theorem d_lg (eps : List (Nat × T ARow)) : chkLg C eps [] = true := rfl
theorem d_ac0 (n0 : Nat) (al : List (Nat × ARow)) (rows : T ARow) : account n0 al rows [] = rows := rfl
theorem d_ac1 (n0 i : Nat) (row : ARow) (rows : T ARow) : account n0 [(i, row)] rows [i] = rows.set (n0 + i) (some row) := by
  show accOne n0 i (Bool.rec none (some row) (Nat.beq i i)) rows = _
  rw [beq_nat, decide_eq_true rfl]; rfl
theorem z_build5 (z x y v w : AV) (a b c d e : Int) (k : IntKind) : evK [.int k a, .int k b, .int k c, .int k d, .int k e] rows nx C (.build [z, x, y, v, w] [(0, .one), (1, .one), (2, .one), (3, .one), (4, .one)]) = some ⟨.agg [.int k a, .int k b, .int k c, .int k d, .int k e], rows, nx⟩ := rfl
theorem z_idxArr (n i : Nat) (l : List AV) (k : IntKind) : evK [.agg l, .int k (.ofNat i)] rows nx C (.rare (.indexArr n 1 .one)) = if i < n then (bo l[i]? fun v => some ⟨v, rows, nx⟩) else none := by
  show gd (Nat.blt i n) (bo (kd .one (dropN (Nat.mul i 1) l)) fun v => rv rows nx v) = _
  have e1 : kd .one (dropN (Nat.mul i 1) l) = l[i]? := by
    show getN 0 (dropN (Nat.mul i 1) l) = _
    rw [getN_eq, dropN_eq]; simp
  rw [e1, blt_nat]
  by_cases h : i < n <;> simp [h, gd] <;> rfl
theorem r_res0 (s : St) : evRes s [] = some [] := rfl
theorem r_resT (s : St) (t : Nat) (l : List (Nat × Option Kd)) : evRes s ((t, none) :: l) = bo (evRes s l) fun r => some ((s.tm.get t).getD .undef :: r) := by
  show bo (some ((Opd.t t).ev s.tm)) (fun v => bo (evRes s l) fun r => some (v :: r)) = _
  rw [s_ev]; rfl
end
end Ev
end

/- Runs with unknown values, by what must hold behind them. -/
section
namespace Ev
open Go

/-- Behind a run that ends. -/
def oW {α : Type} (x : Option α) (Q : α → Prop) : Prop := ∃ a, x = some a ∧ Q a
theorem oW_some {α : Type} (a : α) (Q : α → Prop) : oW (some a) Q = Q a := by
  apply propext
  constructor
  · rintro ⟨b, h, hb⟩
    simp only [Option.some.injEq] at h
    subst h; exact hb
  · exact fun h => ⟨a, rfl, h⟩
theorem oW_none {α : Type} (Q : α → Prop) : oW none Q = False := by
  apply propext
  constructor
  · rintro ⟨b, h, _⟩; cases h
  · exact False.elim
theorem oW_bo {α β : Type} (x : Option α) (f : α → Option β) (Q : β → Prop) : oW (bo x f) Q = oW x (fun a => oW (f a) Q) := by
  cases x with
  | none => simp [bo, oW_none]
  | some a => simp [bo, oW_some]

abbrev QV := AV → T ARow → Nat → Prop
abbrev QX := Ex → St → Prop

section
variable (C : CallF) (LF : Nat)

def oR (x : Option R) (Q : QV) : Prop := oW x fun r => Q r.v r.rows r.nx
def wK (k : K) (vs : List AV) (rows : T ARow) (nx : Nat) (Q : QV) : Prop := oR (evK vs rows nx C k) Q
def kSet (d : Nat) (tm : T AV) (Q : St → Prop) : QV := fun v rows nx => Q ⟨tm.set d (some v), rows, nx⟩
def wG (g : GOp) (Q : St → Prop) (s : St) : Prop := oW (evG C g s) Q
def wOps (l : List GOp) (Q : St → Prop) (s : St) : Prop := oW (evOps C l s) Q
def w (c : IC) (Q : QX) (s : St) : Prop := oW (runIC C LF c s) fun x => Q x.e x.s
def kN (Q : QX) (s : St) : Prop := Q .normal s
def kSeq (b : IC) (Q : QX) (e : Ex) (s : St) : Prop := match e with | .normal => w C LF b Q s | e => Q e s
def kBlk (id : Nat) (Q : QX) (e : Ex) (s : St) : Prop := match e with | .exit i => (match Nat.beq i id with | true => Q .normal s | false => Q (.exit i) s) | e => Q e s
def wCond (c : Option Bool) (x y : IC) (Q : QX) (s : St) : Prop := oW c fun b => match b with | true => w C LF x Q s | false => w C LF y Q s
def wGI (b : Bool) (k : K) (xs : List Opd) (d : Nat) (Q : St → Prop) (tm : T AV) (rows : T ARow) (nx : Nat) : Prop := match b with | true => wK C k (evList tm xs) rows nx (kSet d tm Q) | false => Q ⟨tm.set d (some .undef), rows, nx⟩
end

section
variable {C : CallF} {LF : Nat}

theorem oR_some (v : AV) (rows : T ARow) (nx : Nat) (Q : QV) : oR (some ⟨v, rows, nx⟩) Q = Q v rows nx := oW_some _ _
theorem oR_bo {α : Type} (a : α) (f : α → Option R) (Q : QV) : oR (bo (some a) f) Q = oR (f a) Q := rfl
theorem w_k (k : K) (vs : List AV) (rows : T ARow) (nx : Nat) (Q : QV) : wK C k vs rows nx Q = oR (evK vs rows nx C k) Q := rfl
theorem w_set (d : Nat) (tm : T AV) (Q : St → Prop) (v : AV) (rows : T ARow) (nx : Nat) : kSet d tm Q v rows nx = Q ⟨tm.set d (some v), rows, nx⟩ := rfl
theorem w_nil (Q : St → Prop) (s : St) : wOps C [] Q s = Q s := oW_some _ _
theorem w_cons (g : GOp) (l : List GOp) (Q : St → Prop) (s : St) : wOps C (g :: l) Q s = wG C g (wOps C l Q) s := oW_bo _ _ _
theorem w_g (d : Nat) (k : K) (xs : List Opd) (Q : St → Prop) (tm : T AV) (rows : T ARow) (nx : Nat) : wG C ⟨none, d, k, xs⟩ Q ⟨tm, rows, nx⟩ = wK C k (evList tm xs) rows nx (kSet d tm Q) := by
  show oW (bo (evK (evList tm xs) rows nx C k) fun r => some _) Q = oW _ _
  rw [oW_bo]
  congr 1
  funext r
  rw [oW_some]; rfl
theorem w_gt (t d : Nat) (wb : Bool) (k : K) (xs : List Opd) (Q : St → Prop) (tm : T AV) (rows : T ARow) (nx : Nat) : wG C ⟨some (t, wb), d, k, xs⟩ Q ⟨tm, rows, nx⟩ = wGI C (wantB (tm.get t) wb) k xs d Q tm rows nx := by
  unfold wG
  rw [s_g]
  cases h : wantB (tm.get t) wb with
  | true =>
    rw [if_pos rfl]
    show oW (bo (evK (evList tm xs) rows nx C k) fun r => some _) Q = oW _ _
    rw [oW_bo]
    congr 1
    funext r
    rw [oW_some]; rfl
  | false =>
    rw [if_neg (by simp), oW_some]; rfl
theorem w_if1 (k : K) (xs : List Opd) (d : Nat) (Q : St → Prop) (tm : T AV) (rows : T ARow) (nx : Nat) : wGI C true k xs d Q tm rows nx = wK C k (evList tm xs) rows nx (kSet d tm Q) := rfl
theorem w_if0 (k : K) (xs : List Opd) (d : Nat) (Q : St → Prop) (tm : T AV) (rows : T ARow) (nx : Nat) : wGI C false k xs d Q tm rows nx = Q ⟨tm.set d (some .undef), rows, nx⟩ := rfl
theorem w_ops (l : List GOp) (Q : QX) (s : St) : w C LF (.ops l) Q s = wOps C l (kN Q) s := by
  show oW (bo (evOps C l s) fun s => some (XS.mk .normal s)) _ = _
  rw [oW_bo]
  show _ = oW _ _
  congr 1
  funext s'
  rw [oW_some]; rfl
theorem w_kN (Q : QX) (s : St) : kN Q s = Q .normal s := rfl
theorem w_seq (a b : IC) (Q : QX) (s : St) : w C LF (.seq a b) Q s = w C LF a (kSeq C LF b Q) s := by
  show oW (bo (runIC C LF a s) fun x => match x.e with | .normal => runIC C LF b x.s | e => some ⟨e, x.s⟩) _ = oW _ _
  rw [oW_bo]
  congr 1
  funext x
  obtain ⟨e, s'⟩ := x
  cases e with
  | normal => rfl
  | exit i => show oW (some _) _ = _; rw [oW_some]; rfl
  | ret => show oW (some _) _ = _; rw [oW_some]; rfl
theorem w_seqN (b : IC) (Q : QX) (s : St) : kSeq C LF b Q .normal s = w C LF b Q s := rfl
theorem w_seqR (b : IC) (Q : QX) (s : St) : kSeq C LF b Q .ret s = Q .ret s := rfl
theorem w_seqE (b : IC) (Q : QX) (i : Nat) (s : St) : kSeq C LF b Q (.exit i) s = Q (.exit i) s := rfl
theorem w_block (id : Nat) (b : IC) (Q : QX) (s : St) : w C LF (.block id b) Q s = w C LF b (kBlk id Q) s := by
  show oW (bo (runIC C LF b s) fun x => match x.e with | .exit i => (match Nat.beq i id with | true => some ⟨.normal, x.s⟩ | false => some x) | _ => some x) _ = oW _ _
  rw [oW_bo]
  congr 1
  funext x
  obtain ⟨e, s'⟩ := x
  cases e with
  | normal => show oW (some _) _ = _; rw [oW_some]; rfl
  | ret => show oW (some _) _ = _; rw [oW_some]; rfl
  | exit i =>
    show oW (match Nat.beq i id with | true => some (XS.mk .normal s') | false => some (XS.mk (.exit i) s')) _ = (match Nat.beq i id with | true => Q .normal s' | false => Q (.exit i) s')
    cases Nat.beq i id <;> simp only [oW_some]
theorem w_blkN (id : Nat) (Q : QX) (s : St) : kBlk id Q .normal s = Q .normal s := rfl
theorem w_blkR (id : Nat) (Q : QX) (s : St) : kBlk id Q .ret s = Q .ret s := rfl
theorem w_blkE (id i : Nat) (Q : QX) (s : St) : kBlk id Q (.exit i) s = if i = id then Q .normal s else Q (.exit i) s := by
  show (match Nat.beq i id with | true => Q .normal s | false => Q (.exit i) s) = _
  rw [beq_nat]
  by_cases h : i = id <;> simp [h]
theorem w_exit (i : Nat) (Q : QX) (s : St) : w C LF (.exit i) Q s = Q (.exit i) s := oW_some _ _
theorem w_ret (Q : QX) (s : St) : w C LF .ret Q s = Q .ret s := oW_some _ _
theorem w_skip (Q : QX) (s : St) : w C LF .skip Q s = Q .normal s := oW_some _ _
theorem w_cond (c : Nat) (x y : IC) (Q : QX) (tm : T AV) (rows : T ARow) (nx : Nat) : w C LF (.cond (.t c) x y) Q ⟨tm, rows, nx⟩ = wCond C LF (condB (tm.get c)) x y Q ⟨tm, rows, nx⟩ := by
  show oW (runIC C LF (.cond (.t c) x y) ⟨tm, rows, nx⟩) _ = _
  rw [s_icond, oW_bo]
  show oW _ _ = oW _ _
  congr 1
  funext b
  cases b <;> rfl
theorem w_cT (x y : IC) (Q : QX) (s : St) : wCond C LF (some true) x y Q s = w C LF x Q s := oW_some _ _
theorem w_cF (x y : IC) (Q : QX) (s : St) : wCond C LF (some false) x y Q s = w C LF y Q s := oW_some _ _
theorem w_cB (b : Bool) (x y : IC) (Q : QX) (s : St) : wCond C LF (some b) x y Q s = ((b = true → w C LF x Q s) ∧ (b = false → w C LF y Q s)) := by
  cases b
  · rw [w_cF]; simp
  · rw [w_cT]; simp
theorem w_mono {c : IC} {Q Q' : QX} {s : St} (h : w C LF c Q s) (hq : ∀ e s', Q e s' → Q' e s') : w C LF c Q' s := by
  obtain ⟨x, h1, h2⟩ := h
  exact ⟨x, h1, hq _ _ h2⟩

/-- Behind a round: the next one, or out. -/
def kLp (I : Nat → St → Prop) (k : Nat) (Q : QX) (e : Ex) (s : St) : Prop := match e with | .normal => ∃ j, j < k ∧ I j s | e => Q e s
theorem w_lpN (I : Nat → St → Prop) (k : Nat) (Q : QX) (s : St) : kLp I k Q .normal s = ∃ j, j < k ∧ I j s := rfl
theorem w_lpR (I : Nat → St → Prop) (k : Nat) (Q : QX) (s : St) : kLp I k Q .ret s = Q .ret s := rfl
theorem w_lpE (I : Nat → St → Prop) (k : Nat) (Q : QX) (i : Nat) (s : St) : kLp I k Q (.exit i) s = Q (.exit i) s := rfl
/-- A loop, by what holds ahead of each round, and how many rounds are left at most. -/
theorem w_loop {b : IC} {Q : QX} {s : St} (I : Nat → St → Prop) (k : Nat) (hk : k < LF) (h0 : I k s)
    (step : ∀ k s, I k s → w C LF b (kLp I k Q) s) : w C LF (.loop b) Q s := by
  have key : ∀ (n k : Nat) (s : St), k < n → I k s → oW (iter (runIC C LF b) n s) fun x => Q x.e x.s := by
    intro n
    induction n with
    | zero => intro k s h; omega
    | succ n ih =>
      intro k s hk hI
      obtain ⟨x, h1, h2⟩ := step k s hI
      obtain ⟨e, s'⟩ := x
      rw [x_iter, h1]
      cases e with
      | normal =>
        obtain ⟨j, h3, h4⟩ := h2
        exact ih j s' (by omega) h4
      | exit i => exact ⟨_, rfl, h2⟩
      | ret => exact ⟨_, rfl, h2⟩
  exact key LF k s hk h0

theorem oR_mono {x : Option R} {Q Q' : QV} (h : oR x Q) (hq : ∀ v rows nx, Q v rows nx → Q' v rows nx) : oR x Q' := by
  obtain ⟨r, h1, h2⟩ := h
  exact ⟨r, h1, hq _ _ _ h2⟩

/-- What a function hands back. -/
def kRes (rs : List (Nat × Option Kd)) (Q : QV) (e : Ex) (s : St) : Prop := (∀ i, e ≠ .exit i) ∧ oW (evRes s rs) fun l => Q (retV1 l) s.rows s.nx
where retV1 (l : List AV) : AV := match l with | [v] => v | l => .tup l
theorem fn_w {fn : IFn} {args : List AV} {rows : T ARow} {nx : Nat} {Q : QV} (hn : Nat.ble (lenN args) fn.n = true) (h : w C LF fn.body (kRes fn.results Q) ⟨argsT args 0 .nil, rows, nx⟩) : oR (evFn C LF fn args rows nx) Q := by
  obtain ⟨x, h1, h2, l, h3, h4⟩ := h
  obtain ⟨e, s⟩ := x
  refine ⟨⟨kRes.retV1 l, s.rows, s.nx⟩, ?_, h4⟩
  unfold evFn
  rw [hn, h1]
  have key : retFn fn (some ⟨e, s⟩) = bo (evRes s fn.results) fun l => (match l with
      | [v] => some ⟨v, s.rows, s.nx⟩
      | l => some ⟨.tup l, s.rows, s.nx⟩) := by
    cases e with
    | normal => rfl
    | ret => rfl
    | exit i => exact absurd rfl (h2 i)
  show retFn fn (some ⟨e, s⟩) = _
  rw [key, h3]
  show (match l with
      | [v] => some (R.mk v s.rows s.nx)
      | l => some ⟨.tup l, s.rows, s.nx⟩) = _
  unfold kRes.retV1
  split <;> rfl
theorem w_res (rs : List (Nat × Option Kd)) (Q : QV) (s : St) : kRes rs Q .ret s = oW (evRes s rs) fun l => Q (kRes.retV1 l) s.rows s.nx := by
  unfold kRes; simp
theorem w_resN (rs : List (Nat × Option Kd)) (Q : QV) (s : St) : kRes rs Q .normal s = oW (evRes s rs) fun l => Q (kRes.retV1 l) s.rows s.nx := by
  unfold kRes; simp
theorem w_ret1 (v : AV) : kRes.retV1 [v] = v := rfl
theorem w_ret2 (v u : AV) : kRes.retV1 [v, u] = .tup [v, u] := rfl
theorem w_ret3 (v u x : AV) : kRes.retV1 [v, u, x] = .tup [v, u, x] := rfl
/-- A call of a function that is run. -/
theorem call_r {orc : Nat → Option (List AV → T ARow → Nat → Option R)} {fns : T IFn} {fuel f : Nat} {fn : IFn} {args : List AV} {rows : T ARow} {nx : Nat} (ho : orc f = none) (hf : fns.get f = some fn) : evCall orc fns LF (fuel + 1) (.f f) args rows nx = evFn (evCall orc fns LF fuel) LF fn args rows nx := by
  show (match orc f with | some g => g args rows nx | none => bo (fns.get f) fun fn => evFn (evCall orc fns LF fuel) LF fn args rows nx) = _
  rw [ho, hf]; rfl
end
end Ev

namespace Ev
open Go
theorem w_ifI {C : CallF} {b : Bool} {k : K} {xs : List Opd} {d : Nat} {Q : St → Prop} {tm : T AV} {rows : T ARow} {nx : Nat} (h1 : b = true → wGI C true k xs d Q tm rows nx) (h0 : b = false → wGI C false k xs d Q tm rows nx) : wGI C b k xs d Q tm rows nx := by
  cases b
  · exact h0 rfl
  · exact h1 rfl
theorem w_ifN {C : CallF} {b : Bool} {k : K} {xs : List Opd} {d : Nat} {Q : St → Prop} {tm : T AV} {rows : T ARow} {nx : Nat} (h1 : b = false → wGI C true k xs d Q tm rows nx) (h0 : b = true → wGI C false k xs d Q tm rows nx) : wGI C (!b) k xs d Q tm rows nx := by
  cases b
  · exact h1 rfl
  · exact h0 rfl
theorem w_cN {C : CallF} {LF : Nat} {b : Bool} {x y : IC} {Q : QX} {s : St} (h1 : b = false → wCond C LF (some true) x y Q s) (h0 : b = true → wCond C LF (some false) x y Q s) : wCond C LF (some (!b)) x y Q s := by
  cases b
  · exact h1 rfl
  · exact h0 rfl
theorem s_wantT (b : Bool) : wantB (some (.bool b)) true = b := by cases b <;> rfl
theorem s_wantF (b : Bool) : wantB (some (.bool b)) false = !b := by cases b <;> rfl
theorem w_cI {C : CallF} {LF : Nat} {b : Bool} {x y : IC} {Q : QX} {s : St} (h1 : b = true → wCond C LF (some true) x y Q s) (h0 : b = false → wCond C LF (some false) x y Q s) : wCond C LF (some b) x y Q s := by
  cases b
  · exact h0 rfl
  · exact h1 rfl
/-- The rows that were there stay. -/
def Keep (rows : T ARow) (nx : Nat) (rows' : T ARow) (nx' : Nat) : Prop := nx ≤ nx' ∧ ∀ b, b < nx → rows'.get b = rows.get b
theorem Keep.refl (rows : T ARow) (nx : Nat) : Keep rows nx rows nx := ⟨Nat.le_refl _, fun _ _ => rfl⟩
theorem Keep.trans {a b c : T ARow} {i j k : Nat} (h : Keep a i b j) (g : Keep b j c k) : Keep a i c k := ⟨Nat.le_trans h.1 g.1, fun x hx => (g.2 x (Nat.lt_of_lt_of_le hx h.1)).trans (h.2 x hx)⟩
theorem Keep.set {a b : T ARow} {i j k n : Nat} {r : Option ARow} (h : Keep a i b j) (hn : i ≤ n) (hk : j ≤ k) : Keep a i (b.set n r) k := ⟨Nat.le_trans h.1 hk, fun x hx => by rw [T.get_set, if_neg (by omega)]; exact h.2 x hx⟩
theorem Keep.up {a b : T ARow} {i j k : Nat} (h : Keep a i b j) (hk : j ≤ k) : Keep a i b k := ⟨Nat.le_trans h.1 hk, h.2⟩
end Ev

namespace Ev
open Go
section
variable (C : CallF)
def wDs (n0 : Nat) (l : List DOp) (Q : DS → Prop) (s : DS) : Prop := oW (evDs C n0 l s) Q
def wD (n0 : Nat) (d : DOp) (Q : DS → Prop) (s : DS) : Prop := oW (evD C n0 d s) Q
def kDr (m : Nat) (rest : List Nat) (n0 : Nat) (Q : St → Prop) (t : DS) : Prop := chkLg C ((m, t.rows) :: t.eps) t.lg = true ∧ Q ⟨t.tm, account n0 t.al t.rows rest, t.nx⟩
def kP (d : Nat) (tm : T AV) (rows : T ARow) (nx : Nat) (al : List (Nat × ARow)) (eps : List (Nat × T ARow)) (lg : List Lg) (Q : DS → Prop) : QV := fun v _ _ => Q ⟨tm.set d (some v), rows, nx, al, eps, lg⟩
def kL (d lo hi : Nat) (vs : List AV) (k : K) (tm : T AV) (rows : T ARow) (nx : Nat) (al : List (Nat × ARow)) (eps : List (Nat × T ARow)) (lg : List Lg) (Q : DS → Prop) : QV := fun v _ _ => Q ⟨tm.set d (some v), rows, nx, al, eps, ⟨lo, hi, vs, k, v⟩ :: lg⟩
def kA (d i n : Nat) (tm : T AV) (rows : T ARow) (nx : Nat) (al : List (Nat × ARow)) (eps : List (Nat × T ARow)) (lg : List Lg) (Q : DS → Prop) : QV := fun v rows' _ => oW (rows'.get n) fun row => Q ⟨tm.set d (some v), rows, nx, (i, row) :: al, eps, lg⟩
def kC (d i : Nat) (tm : T AV) (rows : T ARow) (al : List (Nat × ARow)) (eps : List (Nat × T ARow)) (lg : List Lg) (Q : DS → Prop) : QV := fun v rows' nx' => Q ⟨tm.set d (some v), rows', nx', al, (i, rows) :: eps, lg⟩
def wDG (n0 : Nat) (b : Bool) (d : DOp) (Q : DS → Prop) (s : DS) : Prop := match b with | true => oW (evDK C n0 d s) Q | false => oW (evDU n0 d s) Q
end
section
variable {C : CallF} {LF : Nat}
theorem w_draw (m : Nat) (l : List DOp) (rest : List Nat) (Q : QX) (tm : T AV) (rows : T ARow) (nx : Nat) : w C LF (.draw m l rest) Q ⟨tm, rows, nx⟩ = wDs C nx l (kDr C m rest nx (kN Q)) ⟨tm, rows, nx + m, [], [], []⟩ := by
  show oW (bo (bo (evDs C nx l ⟨tm, rows, nx + m, [], [], []⟩) fun t => gd (chkLg C ((m, t.rows) :: t.eps) t.lg) (some (St.mk t.tm (account nx t.al t.rows rest) t.nx))) fun s => some (XS.mk .normal s)) _ = oW _ _
  rw [oW_bo, oW_bo]
  congr 1
  funext t
  unfold kDr kN
  cases chkLg C ((m, t.rows) :: t.eps) t.lg with
  | false => show oW none _ = _; rw [oW_none]; simp
  | true => show oW (some _) _ = _; rw [oW_some, oW_some]; simp
theorem dr_nil (n0 : Nat) (Q : DS → Prop) (s : DS) : wDs C n0 [] Q s = Q s := oW_some _ _
theorem dr_cons (n0 : Nat) (d : DOp) (l : List DOp) (Q : DS → Prop) (s : DS) : wDs C n0 (d :: l) Q s = wD C n0 d (wDs C n0 l Q) s := oW_bo _ _ _
def wAnd (b : Bool) (P : Prop) : Prop := b = true ∧ P
theorem dr_ok (P : Prop) : wAnd true P = P := by unfold wAnd; simp
theorem dr_end (m : Nat) (rest : List Nat) (n0 : Nat) (Q : St → Prop) (tm : T AV) (rows : T ARow) (nx : Nat) (al : List (Nat × ARow)) (eps : List (Nat × T ARow)) (lg : List Lg) : kDr C m rest n0 Q ⟨tm, rows, nx, al, eps, lg⟩ = wAnd (chkLg C ((m, rows) :: eps) lg) (Q ⟨tm, account n0 al rows rest, nx⟩) := rfl
theorem dk_p (n0 i lo hi d : Nat) (acc : List Nat) (chk : Bool) (g : Option (Nat × Bool)) (k : K) (xs : List Opd) (Q : DS → Prop) (tm : T AV) (rows : T ARow) (nx : Nat) (al : List (Nat × ARow)) (eps : List (Nat × T ARow)) (lg : List Lg) :
    wDG C n0 true ⟨i, .p, acc, lo, hi, chk, ⟨g, d, k, xs⟩⟩ Q ⟨tm, rows, nx, al, eps, lg⟩ = oR (evK (evList tm xs) rows n0 C k) (kP d tm rows nx al eps lg Q) := by
  show oW (bo (evK (evList tm xs) rows n0 C k) fun r => some _) Q = oW _ _
  rw [oW_bo]; congr 1; funext r; rw [oW_some]; rfl
theorem dk_l (n0 i lo hi d : Nat) (acc : List Nat) (g : Option (Nat × Bool)) (k : K) (xs : List Opd) (Q : DS → Prop) (tm : T AV) (rows : T ARow) (nx : Nat) (al : List (Nat × ARow)) (eps : List (Nat × T ARow)) (lg : List Lg) :
    wDG C n0 true ⟨i, .l, acc, lo, hi, false, ⟨g, d, k, xs⟩⟩ Q ⟨tm, rows, nx, al, eps, lg⟩ = oR (evK (evList tm xs) rows n0 C k) (kP d tm rows nx al eps lg Q) := by
  show oW (bo (evK (evList tm xs) rows n0 C k) fun r => some _) Q = oW _ _
  rw [oW_bo]; congr 1; funext r; rw [oW_some]; rfl
theorem dk_lT (n0 i lo hi d : Nat) (acc : List Nat) (g : Option (Nat × Bool)) (k : K) (xs : List Opd) (Q : DS → Prop) (tm : T AV) (rows : T ARow) (nx : Nat) (al : List (Nat × ARow)) (eps : List (Nat × T ARow)) (lg : List Lg) :
    wDG C n0 true ⟨i, .l, acc, lo, hi, true, ⟨g, d, k, xs⟩⟩ Q ⟨tm, rows, nx, al, eps, lg⟩ = oR (evK (evList tm xs) rows n0 C k) (kL d lo hi (evList tm xs) k tm rows nx al eps lg Q) := by
  show oW (bo (evK (evList tm xs) rows n0 C k) fun r => some _) Q = oW _ _
  rw [oW_bo]; congr 1; funext r; rw [oW_some]; rfl
theorem dk_a (n0 i lo hi d : Nat) (acc : List Nat) (chk : Bool) (g : Option (Nat × Bool)) (k : K) (xs : List Opd) (Q : DS → Prop) (tm : T AV) (rows : T ARow) (nx : Nat) (al : List (Nat × ARow)) (eps : List (Nat × T ARow)) (lg : List Lg) :
    wDG C n0 true ⟨i, .a, acc, lo, hi, chk, ⟨g, d, k, xs⟩⟩ Q ⟨tm, rows, nx, al, eps, lg⟩ = oR (evK (evList tm xs) rows (n0 + i) C k) (kA d i (n0 + i) tm rows nx al eps lg Q) := by
  show oW (bo (evK (evList tm xs) rows (n0 + i) C k) fun r => bo (r.rows.get (n0 + i)) fun row => some _) Q = oW _ _
  rw [oW_bo]; congr 1; funext r; rw [oW_bo]
  show oW _ _ = oW _ _
  congr 1; funext row; rw [oW_some]
theorem dk_c (n0 i lo hi d : Nat) (acc : List Nat) (chk : Bool) (g : Option (Nat × Bool)) (k : K) (xs : List Opd) (Q : DS → Prop) (tm : T AV) (rows : T ARow) (nx : Nat) (al : List (Nat × ARow)) (eps : List (Nat × T ARow)) (lg : List Lg) :
    wDG C n0 true ⟨i, .c, acc, lo, hi, chk, ⟨g, d, k, xs⟩⟩ Q ⟨tm, rows, nx, al, eps, lg⟩ = oR (evK (evList tm xs) (account n0 al rows acc) nx C k) (kC d i tm rows al eps lg Q) := by
  show oW (bo (evK (evList tm xs) (account n0 al rows acc) nx C k) fun r => some _) Q = oW _ _
  rw [oW_bo]; congr 1; funext r; rw [oW_some]; rfl
theorem du_p (n0 i lo hi d : Nat) (acc : List Nat) (chk : Bool) (g : Option (Nat × Bool)) (k : K) (xs : List Opd) (Q : DS → Prop) (tm : T AV) (rows : T ARow) (nx : Nat) (al : List (Nat × ARow)) (eps : List (Nat × T ARow)) (lg : List Lg) :
    wDG C n0 false ⟨i, .p, acc, lo, hi, chk, ⟨g, d, k, xs⟩⟩ Q ⟨tm, rows, nx, al, eps, lg⟩ = Q ⟨tm.set d (some .undef), rows, nx, al, eps, lg⟩ := oW_some _ _
theorem du_l (n0 i lo hi d : Nat) (acc : List Nat) (chk : Bool) (g : Option (Nat × Bool)) (k : K) (xs : List Opd) (Q : DS → Prop) (tm : T AV) (rows : T ARow) (nx : Nat) (al : List (Nat × ARow)) (eps : List (Nat × T ARow)) (lg : List Lg) :
    wDG C n0 false ⟨i, .l, acc, lo, hi, chk, ⟨g, d, k, xs⟩⟩ Q ⟨tm, rows, nx, al, eps, lg⟩ = Q ⟨tm.set d (some .undef), rows, nx, al, eps, lg⟩ := oW_some _ _
theorem du_a (n0 i lo hi d : Nat) (acc : List Nat) (chk : Bool) (g : Option (Nat × Bool)) (k : K) (xs : List Opd) (Q : DS → Prop) (tm : T AV) (rows : T ARow) (nx : Nat) (al : List (Nat × ARow)) (eps : List (Nat × T ARow)) (lg : List Lg) :
    wDG C n0 false ⟨i, .a, acc, lo, hi, chk, ⟨g, d, k, xs⟩⟩ Q ⟨tm, rows, nx, al, eps, lg⟩ = Q ⟨tm.set d (some .undef), rows, nx, al, eps, lg⟩ := oW_some _ _
theorem du_c (n0 i lo hi d : Nat) (acc : List Nat) (chk : Bool) (g : Option (Nat × Bool)) (k : K) (xs : List Opd) (Q : DS → Prop) (tm : T AV) (rows : T ARow) (nx : Nat) (al : List (Nat × ARow)) (eps : List (Nat × T ARow)) (lg : List Lg) :
    wDG C n0 false ⟨i, .c, acc, lo, hi, chk, ⟨g, d, k, xs⟩⟩ Q ⟨tm, rows, nx, al, eps, lg⟩ = Q ⟨tm.set d (some .undef), account n0 al rows acc, nx, al, (i, rows) :: eps, lg⟩ := oW_some _ _
theorem dr_n (n0 i lo hi d : Nat) (cls : Cls) (acc : List Nat) (chk : Bool) (k : K) (xs : List Opd) (Q : DS → Prop) (s : DS) : wD C n0 ⟨i, cls, acc, lo, hi, chk, ⟨none, d, k, xs⟩⟩ Q s = wDG C n0 true ⟨i, cls, acc, lo, hi, chk, ⟨none, d, k, xs⟩⟩ Q s := rfl
theorem wanted_eq (tm : T AV) (t : Nat) (wb : Bool) : wanted tm (some (t, wb)) = wantB (tm.get t) wb := by
  unfold wanted wantB
  simp only
  cases tm.get t with
  | none => rfl
  | some v =>
    cases v <;> try rfl
    rename_i b
    cases b <;> cases wb <;> rfl
theorem dr_g (n0 i lo hi d t : Nat) (wb : Bool) (cls : Cls) (acc : List Nat) (chk : Bool) (k : K) (xs : List Opd) (Q : DS → Prop) (tm : T AV) (rows : T ARow) (nx : Nat) (al : List (Nat × ARow)) (eps : List (Nat × T ARow)) (lg : List Lg) :
    wD C n0 ⟨i, cls, acc, lo, hi, chk, ⟨some (t, wb), d, k, xs⟩⟩ Q ⟨tm, rows, nx, al, eps, lg⟩ = wDG C n0 (wantB (tm.get t) wb) ⟨i, cls, acc, lo, hi, chk, ⟨some (t, wb), d, k, xs⟩⟩ Q ⟨tm, rows, nx, al, eps, lg⟩ := by
  rw [← wanted_eq]
  show oW (Bool.rec (evDU n0 _ _) (evDK C n0 _ _) (wanted tm (some (t, wb))) : Option DS) Q = _
  cases wanted tm (some (t, wb)) <;> rfl
theorem dr_kP (d : Nat) (tm : T AV) (rows : T ARow) (nx : Nat) (al : List (Nat × ARow)) (eps : List (Nat × T ARow)) (lg : List Lg) (Q : DS → Prop) (v : AV) (r : T ARow) (n : Nat) : kP d tm rows nx al eps lg Q v r n = Q ⟨tm.set d (some v), rows, nx, al, eps, lg⟩ := rfl
theorem dr_kL (d lo hi : Nat) (vs : List AV) (k : K) (tm : T AV) (rows : T ARow) (nx : Nat) (al : List (Nat × ARow)) (eps : List (Nat × T ARow)) (lg : List Lg) (Q : DS → Prop) (v : AV) (r : T ARow) (n : Nat) : kL d lo hi vs k tm rows nx al eps lg Q v r n = Q ⟨tm.set d (some v), rows, nx, al, eps, ⟨lo, hi, vs, k, v⟩ :: lg⟩ := rfl
def kA2 (d i : Nat) (tm : T AV) (rows : T ARow) (nx : Nat) (al : List (Nat × ARow)) (eps : List (Nat × T ARow)) (lg : List Lg) (Q : DS → Prop) (v : AV) (row : Option ARow) : Prop := oW row fun row => Q ⟨tm.set d (some v), rows, nx, (i, row) :: al, eps, lg⟩
theorem dr_kA (d i n' : Nat) (tm : T AV) (rows : T ARow) (nx : Nat) (al : List (Nat × ARow)) (eps : List (Nat × T ARow)) (lg : List Lg) (Q : DS → Prop) (v : AV) (rows' : T ARow) (n : Nat) : kA d i n' tm rows nx al eps lg Q v rows' n = kA2 d i tm rows nx al eps lg Q v (rows'.get n') := rfl
theorem dr_kA2 (d i : Nat) (tm : T AV) (rows : T ARow) (nx : Nat) (al : List (Nat × ARow)) (eps : List (Nat × T ARow)) (lg : List Lg) (Q : DS → Prop) (v : AV) (row : ARow) : kA2 d i tm rows nx al eps lg Q v (some row) = Q ⟨tm.set d (some v), rows, nx, (i, row) :: al, eps, lg⟩ := oW_some _ _
theorem dr_kC (d i : Nat) (tm : T AV) (rows : T ARow) (al : List (Nat × ARow)) (eps : List (Nat × T ARow)) (lg : List Lg) (Q : DS → Prop) (v : AV) (r : T ARow) (n : Nat) : kC d i tm rows al eps lg Q v r n = Q ⟨tm.set d (some v), r, n, al, (i, rows) :: eps, lg⟩ := rfl
theorem dr_I {n0 : Nat} {b : Bool} {d : DOp} {Q : DS → Prop} {s : DS} (h1 : b = true → wDG C n0 true d Q s) (h0 : b = false → wDG C n0 false d Q s) : wDG C n0 b d Q s := by
  cases b
  · exact h0 rfl
  · exact h1 rfl
theorem dr_N {n0 : Nat} {b : Bool} {d : DOp} {Q : DS → Prop} {s : DS} (h1 : b = false → wDG C n0 true d Q s) (h0 : b = true → wDG C n0 false d Q s) : wDG C n0 (!b) d Q s := by
  cases b
  · exact h1 rfl
  · exact h0 rfl
end
end Ev
end

/- Rules for numbers that are not negative, slices of one's own, tables out of lists. -/
section
namespace Ev
open Go Go.RowKit

/-- A table over a list. -/
theorem look_map {α : Type} (key : α → List AV) (val : α → AV) (a : α) : ∀ (l : List α), (∀ x ∈ l, key x = key a → val x = val a) → a ∈ l → sameL (key a) (key a) = true → lookM (l.map fun x => (key x, val x)) (key a) = some (val a)
  | [], _, h, _ => by cases h
  | x :: l, hi, h, hr => by
    show (match sameL (key x) (key a) with | true => some (val x) | false => lookM (l.map fun x => (key x, val x)) (key a)) = _
    cases hs : sameL (key x) (key a) with
    | true =>
      have := hi x (by simp) (sameL_eq hs)
      simp only [this]
    | false =>
      rcases List.mem_cons.1 h with rfl | h
      · rw [hr] at hs; cases hs
      · exact look_map key val a l (fun y hy => hi y (by simp [hy])) h hr

section
variable {C : CallF} {LF : Nat} {rows : T ARow} {nx : Nat}

theorem i_lt (a b : Nat) : decide (Int.ofNat a < Int.ofNat b) = decide (a < b) := by
  by_cases h : a < b
  · rw [decide_eq_true h]; exact decide_eq_true (by simp only [Int.ofNat_eq_natCast]; omega)
  · rw [decide_eq_false h]; exact decide_eq_false (by simp only [Int.ofNat_eq_natCast]; omega)
theorem i_le (a b : Nat) : decide (Int.ofNat a ≤ Int.ofNat b) = decide (a ≤ b) := by
  by_cases h : a ≤ b
  · rw [decide_eq_true h]; exact decide_eq_true (by simp only [Int.ofNat_eq_natCast]; omega)
  · rw [decide_eq_false h]; exact decide_eq_false (by simp only [Int.ofNat_eq_natCast]; omega)
theorem i_eq (a b : Nat) : decide (Int.ofNat a = Int.ofNat b) = decide (a = b) := by
  by_cases h : a = b
  · rw [decide_eq_true h]; exact decide_eq_true (by rw [h])
  · rw [decide_eq_false h]; exact decide_eq_false (by simp only [Int.ofNat_eq_natCast]; omega)
theorem n_lss (k : IntKind) (a b : Nat) : evK [.int k (.ofNat a), .int k (.ofNat b)] rows nx C (.binI .lss) = some ⟨.bool (decide (a < b)), rows, nx⟩ := by rw [y_lss, i_lt]
theorem n_leq (k : IntKind) (a b : Nat) : evK [.int k (.ofNat a), .int k (.ofNat b)] rows nx C (.binI .leq) = some ⟨.bool (decide (a ≤ b)), rows, nx⟩ := by rw [y_leq, i_le]
theorem n_gtr (k : IntKind) (a b : Nat) : evK [.int k (.ofNat a), .int k (.ofNat b)] rows nx C (.binI .gtr) = some ⟨.bool (decide (b < a)), rows, nx⟩ := by rw [y_gtr, i_lt]
theorem n_eql (k : IntKind) (a b : Nat) : evK [.int k (.ofNat a), .int k (.ofNat b)] rows nx C (.binI .eql) = some ⟨.bool (decide (a = b)), rows, nx⟩ := by rw [y_eql, i_eq]
theorem n_neq (k : IntKind) (a b : Nat) : evK [.int k (.ofNat a), .int k (.ofNat b)] rows nx C (.binI .neq) = some ⟨.bool (!decide (a = b)), rows, nx⟩ := by rw [y_neq, i_eq]
theorem y_geq (k : IntKind) (a b : Int) : evK [.int k a, .int k b] rows nx C (.binI .geq) = some ⟨.bool (decide (b ≤ a)), rows, nx⟩ := by
  show rvo rows nx (gd (k == k) (some (.bool (!ltI a b)))) = _
  rw [ltI_eq]
  simp only [beq_self_eq_true, gd, rvo, bo]
  by_cases h : b ≤ a
  · rw [decide_eq_true h, decide_eq_false (by omega)]; rfl
  · rw [decide_eq_false h, decide_eq_true (by omega)]; rfl
theorem n_geq (k : IntKind) (a b : Nat) : evK [.int k (.ofNat a), .int k (.ofNat b)] rows nx C (.binI .geq) = some ⟨.bool (decide (b ≤ a)), rows, nx⟩ := by rw [y_geq, i_le]
theorem wrap_nat (k : IntKind) (n : Nat) (h : n < limP k) : wrapI k (.ofNat n) = .ofNat n := by
  unfold wrapI
  simp only [blt_nat]
  rw [decide_eq_true h]
theorem n_add (k : IntKind) (a b : Nat) (h : a + b < limP k) : evK [.int k (.ofNat a), .int k (.ofNat b)] rows nx C (.binI .add) = some ⟨.int k (.ofNat (a + b)), rows, nx⟩ := by
  show rvo rows nx (gd (k == k) (some (.int k (wrapI k (Int.add (.ofNat a) (.ofNat b)))))) = _
  have e1 : Int.add (.ofNat a) (.ofNat b) = .ofNat (a + b) := rfl
  rw [e1, wrap_nat k _ h]
  simp only [beq_self_eq_true]; rfl
theorem n_mul (k : IntKind) (a b : Nat) (h : a * b < limP k) : evK [.int k (.ofNat a), .int k (.ofNat b)] rows nx C (.binI .mul) = some ⟨.int k (.ofNat (a * b)), rows, nx⟩ := by
  show rvo rows nx (gd (k == k) (some (.int k (wrapI k (Int.mul (.ofNat a) (.ofNat b)))))) = _
  have e1 : Int.mul (.ofNat a) (.ofNat b) = .ofNat (a * b) := rfl
  rw [e1, wrap_nat k _ h]
  simp only [beq_self_eq_true]; rfl
theorem n_sub (k : IntKind) (a b : Nat) (h : b ≤ a) (ha : a < limP k) : evK [.int k (.ofNat a), .int k (.ofNat b)] rows nx C (.binI .sub) = some ⟨.int k (.ofNat (a - b)), rows, nx⟩ := by
  show rvo rows nx (gd (k == k) (some (.int k (wrapI k (Int.sub (.ofNat a) (.ofNat b)))))) = _
  have e1 : Int.sub (.ofNat a) (.ofNat b) = .ofNat (a - b) := by
    show (Int.ofNat a - Int.ofNat b : Int) = _
    simp only [Int.ofNat_eq_natCast]; omega
  rw [e1, wrap_nat k _ (by omega)]
  simp only [beq_self_eq_true]; rfl
theorem n_rem (k : IntKind) (a b : Nat) (h : 0 < b) : evK [.int k (.ofNat a), .int k (.ofNat b)] rows nx C (.binI .rem) = some ⟨.int k (.ofNat (a % b)), rows, nx⟩ := by
  show rvo rows nx (gd (k == k) (tmodI k (.ofNat a) (.ofNat b))) = _
  have e0 : eqI (.ofNat b) 0 = false := by
    show Nat.beq b 0 = false
    rw [beq_nat]; exact decide_eq_false (by omega)
  have e1 : tmodI k (.ofNat a) (.ofNat b) = some (.int k (.ofNat (a % b))) := by
    unfold tmodI
    rw [e0]; rfl
  rw [e1]
  simp only [beq_self_eq_true]; rfl
theorem n_quo (k : IntKind) (a b : Nat) (h : 0 < b) (ha : a < limP k) : evK [.int k (.ofNat a), .int k (.ofNat b)] rows nx C (.binI .quo) = some ⟨.int k (.ofNat (a / b)), rows, nx⟩ := by
  show rvo rows nx (gd (k == k) (tdivI k (.ofNat a) (.ofNat b))) = _
  have e0 : eqI (.ofNat b) 0 = false := by
    show Nat.beq b 0 = false
    rw [beq_nat]; exact decide_eq_false (by omega)
  have e1 : tdivI k (.ofNat a) (.ofNat b) = some (.int k (.ofNat (a / b))) := by
    unfold tdivI
    rw [e0]
    show some (AV.int k (wrapI k (.ofNat (a / b)))) = _
    rw [wrap_nat k _ (Nat.lt_of_le_of_lt (Nat.div_le_self a b) ha)]
  rw [e1]
  simp only [beq_self_eq_true]; rfl
theorem n_conv (k j : IntKind) (a : Nat) (h : a < limP j) : evK [.int k (.ofNat a)] rows nx C (.rare (.conv j)) = some ⟨.int j (.ofNat a), rows, nx⟩ := by
  show rv rows nx (.int j (wrapI j (.ofNat a))) = _
  rw [wrap_nat j _ h]; rfl
theorem y_neqS (a b : List UInt8) : evK [.str a, .str b] rows nx C (.binS .neq) = some ⟨.bool (!decide (a = b)), rows, nx⟩ := by
  show rvo rows nx (some (.bool (!beqB a b))) = _
  rw [beqB_eq]; rfl
theorem z_loadO (b o n : Nat) : evK [.ptr b o] rows nx C (.load (.many n)) = bo (rdO (rows.get b)) fun l => bo (takeN n (l.drop o)) fun r => some ⟨.agg r, rows, nx⟩ := by
  show bo (asRead (rows.get b) fun l => kd (.many n) (dropN o l)) (fun v => rv rows nx v) = _
  have key : ∀ l : List AV, bo (kd (.many n) (dropN o l)) (fun v => rv rows nx v) = bo (takeN n (l.drop o)) fun r => some ⟨.agg r, rows, nx⟩ := fun l => by
    rw [dropN_eq]
    show bo (bo (takeN n (l.drop o)) fun r => some (AV.agg r)) _ = _
    cases takeN n (l.drop o) <;> rfl
  cases h : rows.get b with
  | none => rfl
  | some q => cases q <;> first
    | rfl
    | (show bo (kd (.many n) (dropN o _)) _ = bo _ _; rw [key]; rfl)
theorem y_slTo (b n i sz : Nat) (h : i ≤ n) : evK [.slice b 0 n (.op sz), .int .i64 (.ofNat i)] rows nx C (.rare (.sliceSl sz false true false)) = some ⟨.slice b 0 i (.op sz), rows, nx⟩ := by
  show gd (Nat.ble 0 i && Nat.ble i n) (match Nat.blt 0 n || Nat.beq 0 0 with
        | true => gd (Nat.beq sz sz) (rv rows nx (.slice b (Nat.add 0 (Nat.mul 0 sz)) (Nat.sub i 0) (.op sz)))
        | false => rv rows nx .empty) = _
  rw [ble_nat, ble_nat, blt_nat, beq_nat, beq_nat, decide_eq_true h, decide_eq_true (Nat.zero_le i), decide_eq_true rfl, decide_eq_true rfl]
  simp only [Bool.or_true, Bool.and_self, gd]
  show some _ = some _
  simp
theorem y_build3 (z1 z2 z3 : AV) (a b c : List UInt8) : evK [.str a, .str b, .str c] rows nx C (.build [z1, z2, z3] [(0, .one), (1, .one), (2, .one)]) = some ⟨.agg [.str a, .str b, .str c], rows, nx⟩ := rfl
theorem y_lit3 (z1 z2 z3 a b c : AV) : evK [.agg [a, b, c]] rows nx C (.rare (.buildSlice [z1, z2, z3] 1 [(0, .many 3)])) = some ⟨.slice nx 0 1 (.ex 1), rows.set nx (some (.cells 0 [a, b, c])), nx + 1⟩ := rfl
theorem y_litS (z : AV) (a : List UInt8) : evK [.str a] rows nx C (.rare (.buildSlice [z] 1 [(0, .one)])) = some ⟨.slice nx 0 1 (.ex 1), rows.set nx (some (.cells 0 [.str a])), nx + 1⟩ := rfl
theorem w_lenN : evK [.nil .slice] rows nx C (.len .sl) = some ⟨.int .i64 (.ofNat 0), rows, nx⟩ := rfl
end

/-- A slice of one's own, grown by appends: so many elements of so many cells. -/
def SlV (rows : T ARow) (nx sz n : Nat) (v : AV) (l : List AV) : Prop :=
  (n = 0 ∧ l = [] ∧ v = .nil .slice) ∨ (0 < n ∧ l.length = n * sz ∧ ∃ b t, v = .slice b 0 n (.op sz) ∧ b < nx ∧ rows.get b = some (.cells t l))
/-- The block of a slice. -/
def blkOf (v : AV) : Option Nat := match v with | .slice b _ _ _ => some b | _ => none
theorem SlV.len {C : CallF} {rows rows' : T ARow} {nx nx' sz n : Nat} {v : AV} {l : List AV} (h : SlV rows nx sz n v l) : evK [v] rows' nx' C (.len .sl) = some ⟨.int .i64 (.ofNat n), rows', nx'⟩ := by
  rcases h with ⟨rfl, _, rfl⟩ | ⟨_, _, b, t, rfl, _⟩ <;> rfl
theorem SlV.mono {rows rows' : T ARow} {nx nx' sz n : Nat} {v : AV} {l : List AV} (h : SlV rows nx sz n v l) (hn : nx ≤ nx') (hr : ∀ b, blkOf v = some b → b < nx → rows'.get b = rows.get b) : SlV rows' nx' sz n v l := by
  rcases h with h | ⟨h0, h1, b, t, rfl, hb, hg⟩
  · exact .inl h
  · exact .inr ⟨h0, h1, b, t, rfl, by omega, by rw [hr b rfl hb]; exact hg⟩
theorem SlV.blk {rows : T ARow} {nx sz n b : Nat} {v : AV} {l : List AV} (h : SlV rows nx sz n v l) (hb : blkOf v = some b) : b < nx := by
  rcases h with ⟨_, _, rfl⟩ | ⟨_, _, b', t, rfl, hb', _⟩
  · cases hb
  · simp only [blkOf, Option.some.injEq] at hb; omega
/-- The rows behind an append. -/
noncomputable def appRows (v : AV) (rows : T ARow) : T ARow := match v with | .slice b _ _ _ => rows.set b none | _ => rows
theorem appRows_get {v : AV} {rows : T ARow} {b : Nat} (h : blkOf v ≠ some b) : (appRows v rows).get b = rows.get b := by
  unfold appRows
  split
  · rename_i b' _ _ _
    rw [T.get_set, if_neg (by intro e; subst e; exact h rfl)]
  · rfl

theorem takeN_all : ∀ (l : List AV) (n : Nat), n = l.length → takeN n l = some l
  | [], n, h => by subst h; rfl
  | a :: l, n, h => by
    subst h
    show bo (takeN l.length l) (fun r => some (a :: r)) = _
    rw [takeN_all l _ rfl]; rfl

theorem SlV.append {C : CallF} {rows : T ARow} {nx0 nx sz bytes t n s : Nat} {v : AV} {l src : List AV} {g : Nat} (h : SlV rows nx0 sz n v l) (hnx : nx0 ≤ nx) (hs : rows.get s = some (.cells g src)) (hl : src.length = sz) (hsz : 0 < sz) (hb : bytes ≤ 1000) (hn : n ≤ 1000000) :
    ∃ t', evK [v, .slice s 0 1 (.ex 1)] rows nx C (.rare (.append sz bytes t)) = some ⟨.slice nx 0 (n + 1) (.op sz), (appRows v rows).set nx (some (.cells t' (l ++ src))), nx + 1⟩ := by
  have hsrc : srcCells rows sz (.slice s 0 1 (.ex 1)) = some src := by
    show asRead (rows.get s) (fun l => takeN (Nat.mul 1 sz) (dropN 0 l)) = _
    rw [hs]
    show takeN (Nat.mul 1 sz) (dropN 0 src) = _
    rw [dropN_eq, List.drop_zero]
    exact takeN_all _ _ (by show 1 * sz = _; omega)
  have hne : src ≠ [] := by intro e; rw [e] at hl; simp at hl; omega
  obtain ⟨x, src', rfl⟩ := List.exists_cons_of_ne_nil hne
  have hdiv : Nat.div (lenN (x :: src')) sz = 1 := by
    rw [lenN_eq, hl]
    exact Nat.div_self hsz
  rcases h with ⟨rfl, rfl, rfl⟩ | ⟨h0, h1, b, g', rfl, _, hg⟩
  · refine ⟨t, ?_⟩
    show bo (srcCells rows sz (.slice s 0 1 (.ex 1))) _ = _
    rw [hsrc]
    show gd (small (Nat.div (lenN (x :: src')) sz) bytes) (rnew rows nx (.slice nx 0 (Nat.div (lenN (x :: src')) sz) (.op sz)) (.cells t (x :: src'))) = _
    rw [hdiv]
    have : small 1 bytes = true := by
      unfold small
      rw [ble_nat]; exact decide_eq_true (by show 1 * bytes ≤ _; omega)
    rw [this]; rfl
  · refine ⟨tagR g' t 0, ?_⟩
    show bo (srcCells rows sz (.slice s 0 1 (.ex 1))) _ = _
    rw [hsrc]
    show asCells (rows.get b) (fun g l => gd (Nat.beq sz sz) (appOp rows nx sz bytes t g b 0 n (x :: src') l)) = _
    rw [hg]
    show gd (Nat.beq sz sz) (appOp rows nx sz bytes t g' b 0 n (x :: src') l) = _
    rw [beq_nat, decide_eq_true rfl]
    show gd (small (Nat.add n (Nat.div (lenN (x :: src')) sz)) bytes) (bo (takeN (Nat.mul n sz) (dropN 0 l)) fun old => some (R.mk (.slice nx 0 (Nat.add n (Nat.div (lenN (x :: src')) sz)) (.op sz)) ((rows.set b none).set nx (some (.cells (tagR g' t 0) (appN old (x :: src'))))) (Nat.succ nx))) = _
    rw [hdiv]
    have : small (Nat.add n 1) bytes = true := by
      unfold small
      rw [ble_nat]
      refine decide_eq_true ?_
      show (n + 1) * bytes ≤ _
      have := Nat.mul_le_mul (show n + 1 ≤ 1000001 by omega) hb
      omega
    rw [this, dropN_eq, List.drop_zero]
    rw [takeN_all _ _ (show Nat.mul n sz = l.length from h1.symm)]
    show some _ = some _
    rw [appN_eq]; rfl
end Ev

namespace Ev
open Go
/-- A slice that can be read: so many elements of so many cells. -/
def RdV (rows : T ARow) (nx sz n : Nat) (v : AV) (l : List AV) : Prop :=
  l.length = n * sz ∧ ((n = 0 ∧ (v = .nil .slice ∨ v = .empty)) ∨ ∃ b o c cells rest, v = .slice b o n c ∧ b < nx ∧ rdO (rows.get b) = some cells ∧ cells.drop o = l ++ rest)
theorem SlV.rd {rows : T ARow} {nx sz n : Nat} {v : AV} {l : List AV} (h : SlV rows nx sz n v l) : RdV rows nx sz n v l := by
  rcases h with ⟨rfl, rfl, rfl⟩ | ⟨h0, h1, b, t, rfl, hb, hg⟩
  · exact ⟨by simp, .inl ⟨rfl, .inl rfl⟩⟩
  · exact ⟨h1, .inr ⟨b, 0, .op sz, l, [], rfl, hb, by rw [hg]; rfl, by simp⟩⟩
theorem RdV.len {C : CallF} {rows rows' : T ARow} {nx nx' sz n : Nat} {v : AV} {l : List AV} (h : RdV rows nx sz n v l) : evK [v] rows' nx' C (.len .sl) = some ⟨.int .i64 (.ofNat n), rows', nx'⟩ := by
  rcases h with ⟨_, ⟨rfl, rfl | rfl⟩ | ⟨b, o, c, cells, rest, rfl, _⟩⟩ <;> rfl
theorem RdV.mono {rows rows' : T ARow} {nx nx' sz n : Nat} {v : AV} {l : List AV} (h : RdV rows nx sz n v l) (hn : nx ≤ nx') (hr : ∀ b, b < nx → rows'.get b = rows.get b) : RdV rows' nx' sz n v l := by
  obtain ⟨h0, h | ⟨b, o, c, cells, rest, h1, h2, h3, h4⟩⟩ := h
  · exact ⟨h0, .inl h⟩
  · exact ⟨h0, .inr ⟨b, o, c, cells, rest, h1, by omega, by rw [hr b h2]; exact h3, h4⟩⟩
theorem takeN_app : ∀ (k : Nat) (l rest r : List AV), takeN k l = some r → takeN k (l ++ rest) = some r
  | 0, _, _, _, h => h
  | k + 1, [], _, _, h => by cases h
  | k + 1, a :: l, rest, r, h => by
    obtain ⟨q, h1, h2⟩ := bo_some.1 (show bo (takeN k l) (fun r => some (a :: r)) = some r from h)
    show bo (takeN k (l ++ rest)) (fun r => some (a :: r)) = some r
    rw [takeN_app k l rest q h1]
    exact h2
/-- Where an element lies, and what it is. -/
theorem RdV.at {C : CallF} {rows : T ARow} {nx sz n i : Nat} {v : AV} {l : List AV} (h : RdV rows nx sz n v l) (hi : i < n) : ∃ b o, b < nx ∧
    (∀ rows' nx', evK [v, .int .i64 (.ofNat i)] rows' nx' C (.indexSl sz) = some ⟨.ptr b (o + i * sz), rows', nx'⟩) ∧
    (∀ r rows' nx', rows'.get b = rows.get b → takeN sz (l.drop (i * sz)) = some r → evK [.ptr b (o + i * sz)] rows' nx' C (.load (.many sz)) = some ⟨.agg r, rows', nx'⟩) ∧
    (∀ j a rows' nx', rows'.get b = rows.get b → l[i * sz + j]? = some a → evK [.ptr b (o + i * sz + j)] rows' nx' C (.load .one) = some ⟨a, rows', nx'⟩) := by
  obtain ⟨h0, ⟨rfl, _⟩ | ⟨b, o, c, cells, rest, rfl, h2, h3, h4⟩⟩ := h
  · omega
  · refine ⟨b, o, h2, fun rows' nx' => ?_, fun r rows' nx' hr ht => ?_, fun j a rows' nx' hr ha => ?_⟩
    · rw [y_idxSl, if_pos hi]
    · rw [z_loadO, hr, h3]
      have hle : i * sz ≤ l.length := by rw [h0]; exact Nat.mul_le_mul_right _ (Nat.le_of_lt hi)
      have : takeN sz (cells.drop (o + i * sz)) = some r := by
        rw [← List.drop_drop, h4, List.drop_append_of_le_length hle]
        exact takeN_app _ _ _ _ ht
      show bo (takeN sz (cells.drop (o + i * sz))) _ = _
      rw [this]; rfl
    · rw [s_load, hr, h3]
      have hlt : i * sz + j < l.length := (List.getElem?_eq_some_iff.1 ha).1
      have : cells[o + i * sz + j]? = some a := by
        have e1 : cells[o + i * sz + j]? = (cells.drop o)[i * sz + j]? := by rw [List.getElem?_drop, Nat.add_assoc]
        rw [e1, h4, List.getElem?_append_left hlt]
        exact ha
      show bo (cells[o + i * sz + j]?) _ = _
      rw [this]; rfl
end Ev

namespace Ev
open Go
section
variable {C : CallF} {LF : Nat} {rows : T ARow} {nx : Nat}
noncomputable def chkAll (C : CallF) (g : Lg) : List (Nat × T ARow) → Bool
  | [] => true
  | e :: eps => chkOne C g e && chkAll C g eps
def chkV (x : Option R) (v : AV) : Bool := match x with | some r => sameV r.v v | none => false
theorem d_chk (eps : List (Nat × T ARow)) (g : Lg) (lg : List Lg) : chkLg C eps (g :: lg) = (chkAll C g eps && chkLg C eps lg) := by
  have key : ∀ eps : List (Nat × T ARow), (List.rec true (fun e _ ih => match chkOne C g e with | true => ih | false => false) eps : Bool) = chkAll C g eps := by
    intro eps
    induction eps with
    | nil => rfl
    | cons e eps ih =>
      show (match chkOne C g e with | true => (List.rec true (fun e _ ih => match chkOne C g e with | true => ih | false => false) eps : Bool) | false => false) = (chkOne C g e && chkAll C g eps)
      rw [ih]
      cases chkOne C g e <;> rfl
  show (match (List.rec true (fun e _ ih => match chkOne C g e with | true => ih | false => false) eps : Bool) with | true => chkLg C eps lg | false => false) = _
  rw [key]
  cases chkAll C g eps <;> rfl
theorem d_all0 (g : Lg) : chkAll C g [] = true := rfl
theorem d_all1 (g : Lg) (e : Nat × T ARow) (eps : List (Nat × T ARow)) : chkAll C g (e :: eps) = (chkOne C g e && chkAll C g eps) := rfl
theorem d_one (lo hi i : Nat) (vs : List AV) (k : K) (v : AV) (rows : T ARow) : chkOne C ⟨lo, hi, vs, k, v⟩ (i, rows) = (!(decide (lo ≤ i) && decide (i ≤ hi)) || chkV (evK vs rows 0 C k) v) := by
  show (match Nat.ble lo i && Nat.ble i hi with
  | true => (match evK vs rows 0 C k with | some r => sameV r.v v | none => false)
  | false => true) = _
  rw [ble_nat, ble_nat]
  cases decide (lo ≤ i) && decide (i ≤ hi) <;> rfl
theorem d_chkV (r : AV) (rows : T ARow) (nx : Nat) (v : AV) : chkV (some ⟨r, rows, nx⟩) v = sameV r v := rfl
theorem d_sameS (s : List UInt8) : sameV (.str s) (.str s) = true := by
  show (s == s) = true
  simp
theorem d_acc (n0 i : Nat) (al : List (Nat × ARow)) (rows : T ARow) (l : List Nat) : account n0 al rows (i :: l) = accOne n0 i (findA i al) (account n0 al rows l) := rfl
theorem d_accS (n0 i : Nat) (r : ARow) (rows : T ARow) : accOne n0 i (some r) rows = rows.set (n0 + i) (some r) := rfl
theorem d_find (i j : Nat) (r : ARow) (al : List (Nat × ARow)) : findA i ((j, r) :: al) = if i = j then some r else findA i al := by
  show (Bool.rec (findA i al) (some r) (Nat.beq i j) : Option ARow) = _
  rw [beq_nat]
  by_cases h : i = j <;> simp [h]
end
end Ev

namespace Ev
open Go
theorem Keep.app {a b : T ARow} {i j : Nat} {v : AV} (h : Keep a i b j) (hv : ∀ x, blkOf v = some x → i ≤ x) : Keep a i (appRows v b) j :=
  ⟨h.1, fun x hx => by
    rw [appRows_get (fun e => by have := hv x e; omega)]
    exact h.2 x hx⟩
end Ev
end

/- A text among texts. -/
section
namespace Ev.Tp
open Go Ev

abbrev S := List UInt8
def strs (l : List S) : List AV := l.map .str

theorem index_run {C : CallF} {LF nx0 : Nat} {rows : T ARow} {nx : Nat} {v : AV} {l : List S} {x : S} (h : RdV rows nx0 1 l.length v (strs l)) (hl : l.length < LF) (hl2 : l.length ≤ 1000000) :
    oR (evFn C LF I.I71 [v, .str x] rows nx) fun r rows' nx' => (∃ k, r = .int .i64 k ∧ decide (0 ≤ k) = decide (x ∈ l)) ∧ rows' = rows ∧ nx' = nx := by
  refine fn_w rfl ?_
  have h0 : (argsT [v, .str x] 0 .nil).get 0 = some v := rfl
  have h1 : (argsT [v, .str x] 0 .nil).get 1 = some (.str x) := rfl
  generalize argsT [v, .str x] 0 .nil = tm at h0 h1
  have hlen := fun rows' nx' => h.len (C := C) (rows' := rows') (nx' := nx')
  simp only [I.I71]
  simp only [w_nil, w_cons, w_g, w_gt, w_if1, w_if0, w_k, w_set, w_ops, w_kN, w_seq, w_seqN, w_seqR, w_seqE, w_block, w_blkN, w_blkR, w_blkE, w_lpN, w_lpR, w_lpE, w_exit, w_ret, w_skip, w_cond, w_cT, w_cF, w_res, w_resN, w_ret1, w_ret2, w_ret3, r_res0, r_resT, oR_some, oW_some, x_nil, x_cons, x_c, s_ev, x_bo, x_gd, x_mv, s_box, s_stA, s_ceA, z_store3, z_put3, s_asCells, s_load, z_loadO, s_rd1, s_rd2, s_ext, x_not, x_pick, s_wantT, s_wantF, Bool.not_not, y_wantU, s_cond, n_lss, n_leq, n_gtr, n_geq, n_eql, n_neq, y_eqS, y_neqS, y_lenStr, y_idxSl, y_fieldAddr, y_call, x_lenS, w_lenN, y_build3, y_lit3, y_litS, w_draw, dr_nil, dr_cons, dr_end, dk_p, dk_l, dk_lT, dk_a, dk_c, du_p, du_l, du_a, du_c, dr_n, dr_g, dr_kP, dr_kL, dr_kA, dr_kA2, dr_kC, d_lg, d_ac0, d_acc, d_accS, d_find, d_chk, d_all0, d_all1, d_one, d_chkV, d_sameS, dr_ok, Bool.or_true, Bool.or_false, Bool.true_or, Bool.false_or, Nat.reduceLeDiff, T.get_set, Option.getD_some, reduceIte, Nat.reduceEqDiff, eq_self, if_true, if_false, List.getElem?_cons_zero, List.getElem?_cons_succ, Option.getD_none, beq_self_eq_true, Nat.reduceLT, Nat.reduceMul, Nat.reduceAdd, Nat.zero_add, Nat.mul_one, Nat.one_mul, Nat.zero_mul, Bool.false_eq_true, Bool.not_false, Bool.not_true, Bool.and_true, Bool.and_false, Bool.true_and, Bool.false_and, decide_true, decide_false, h0, hlen]
  refine w_loop (fun k s => ∃ i, i + k = l.length ∧ (∀ j, j < i → l[j]? ≠ some x) ∧ s.rows = rows ∧ s.nx = nx ∧ s.tm.get 0 = some v ∧ s.tm.get 1 = some (.str x) ∧ s.tm.get 7 = some (.int .i64 (.ofNat l.length)) ∧ s.tm.get 8 = some (.int .i64 (.ofNat i))) l.length hl ?_ ?_
  · refine ⟨0, by omega, fun j hj => by omega, rfl, rfl, ?_, ?_, ?_, ?_⟩ <;> simp only [T.get_set, Nat.reduceEqDiff, if_true, if_false, reduceIte, h0, h1]
  · rintro k ⟨tm, rows', nx'⟩ ⟨i, hik, hne, hr, hn, g0, g1, g7, g8⟩
    simp only at hr hn g0 g1 g7 g8
    subst hr; subst hn
    by_cases hi : i < l.length
    · have hd : decide (i < l.length) = true := decide_eq_true hi
      obtain ⟨b, o, hb, hix, _, hld⟩ := h.at (C := C) hi
      have hx : (strs l)[i * 1 + 0]? = some (.str l[i]) := by simp [strs, hi]
      have hld := fun nx' => hld 0 _ rows' nx' rfl hx
      simp only [Nat.mul_one, Nat.add_zero] at hld hix
      have hadd := fun rows nx => n_add (C := C) (rows := rows) (nx := nx) .i64 i 1 (by show _ < 9223372036854775808; omega)
      cases he : decide (x = l[i]) with
      | true =>
        simp only [w_nil, w_cons, w_g, w_gt, w_if1, w_if0, w_k, w_set, w_ops, w_kN, w_seq, w_seqN, w_seqR, w_seqE, w_block, w_blkN, w_blkR, w_blkE, w_lpN, w_lpR, w_lpE, w_exit, w_ret, w_skip, w_cond, w_cT, w_cF, w_res, w_resN, w_ret1, w_ret2, w_ret3, r_res0, r_resT, oR_some, oW_some, x_nil, x_cons, x_c, s_ev, x_bo, x_gd, x_mv, s_box, s_stA, s_ceA, z_store3, z_put3, s_asCells, s_load, z_loadO, s_rd1, s_rd2, s_ext, x_not, x_pick, s_wantT, s_wantF, Bool.not_not, y_wantU, s_cond, n_lss, n_leq, n_gtr, n_geq, n_eql, n_neq, y_eqS, y_neqS, y_lenStr, y_idxSl, y_fieldAddr, y_call, x_lenS, w_lenN, y_build3, y_lit3, y_litS, w_draw, dr_nil, dr_cons, dr_end, dk_p, dk_l, dk_lT, dk_a, dk_c, du_p, du_l, du_a, du_c, dr_n, dr_g, dr_kP, dr_kL, dr_kA, dr_kA2, dr_kC, d_lg, d_ac0, d_acc, d_accS, d_find, d_chk, d_all0, d_all1, d_one, d_chkV, d_sameS, dr_ok, Bool.or_true, Bool.or_false, Bool.true_or, Bool.false_or, Nat.reduceLeDiff, T.get_set, Option.getD_some, reduceIte, Nat.reduceEqDiff, eq_self, if_true, if_false, List.getElem?_cons_zero, List.getElem?_cons_succ, Option.getD_none, beq_self_eq_true, Nat.reduceLT, Nat.reduceMul, Nat.reduceAdd, Nat.zero_add, Nat.mul_one, Nat.one_mul, Nat.zero_mul, Bool.false_eq_true, Bool.not_false, Bool.not_true, Bool.and_true, Bool.and_false, Bool.true_and, Bool.false_and, decide_true, decide_false, g0, g1, g7, g8, hd, hix, hld, he]
        refine ⟨⟨_, rfl, ?_⟩, trivial, trivial⟩
        rw [decide_eq_true (by simp : (0 : Int) ≤ Int.ofNat i)]
        simp only [decide_eq_true_eq] at he
        exact (decide_eq_true (by rw [he]; exact List.getElem_mem hi)).symm
      | false =>
        simp only [w_nil, w_cons, w_g, w_gt, w_if1, w_if0, w_k, w_set, w_ops, w_kN, w_seq, w_seqN, w_seqR, w_seqE, w_block, w_blkN, w_blkR, w_blkE, w_lpN, w_lpR, w_lpE, w_exit, w_ret, w_skip, w_cond, w_cT, w_cF, w_res, w_resN, w_ret1, w_ret2, w_ret3, r_res0, r_resT, oR_some, oW_some, x_nil, x_cons, x_c, s_ev, x_bo, x_gd, x_mv, s_box, s_stA, s_ceA, z_store3, z_put3, s_asCells, s_load, z_loadO, s_rd1, s_rd2, s_ext, x_not, x_pick, s_wantT, s_wantF, Bool.not_not, y_wantU, s_cond, n_lss, n_leq, n_gtr, n_geq, n_eql, n_neq, y_eqS, y_neqS, y_lenStr, y_idxSl, y_fieldAddr, y_call, x_lenS, w_lenN, y_build3, y_lit3, y_litS, w_draw, dr_nil, dr_cons, dr_end, dk_p, dk_l, dk_lT, dk_a, dk_c, du_p, du_l, du_a, du_c, dr_n, dr_g, dr_kP, dr_kL, dr_kA, dr_kA2, dr_kC, d_lg, d_ac0, d_acc, d_accS, d_find, d_chk, d_all0, d_all1, d_one, d_chkV, d_sameS, dr_ok, Bool.or_true, Bool.or_false, Bool.true_or, Bool.false_or, Nat.reduceLeDiff, T.get_set, Option.getD_some, reduceIte, Nat.reduceEqDiff, eq_self, if_true, if_false, List.getElem?_cons_zero, List.getElem?_cons_succ, Option.getD_none, beq_self_eq_true, Nat.reduceLT, Nat.reduceMul, Nat.reduceAdd, Nat.zero_add, Nat.mul_one, Nat.one_mul, Nat.zero_mul, Bool.false_eq_true, Bool.not_false, Bool.not_true, Bool.and_true, Bool.and_false, Bool.true_and, Bool.false_and, decide_true, decide_false, g0, g1, g7, g8, hd, hix, hld, he, hadd]
        refine ⟨k - 1, by omega, i + 1, by omega, ?_, trivial, trivial, ?_, ?_, ?_, ?_⟩
        · intro j hj
          rcases Nat.lt_succ_iff_lt_or_eq.1 hj with h1 | rfl
          · exact hne j h1
          · rw [List.getElem?_eq_getElem hi]
            simp only [decide_eq_false_iff_not] at he
            intro e; exact he (by simpa using e.symm)
        all_goals simp only [T.get_set, Nat.reduceEqDiff, if_true, if_false, reduceIte, g0, g1, g7]
    · have hd : decide (i < l.length) = false := decide_eq_false hi
      simp only [w_nil, w_cons, w_g, w_gt, w_if1, w_if0, w_k, w_set, w_ops, w_kN, w_seq, w_seqN, w_seqR, w_seqE, w_block, w_blkN, w_blkR, w_blkE, w_lpN, w_lpR, w_lpE, w_exit, w_ret, w_skip, w_cond, w_cT, w_cF, w_res, w_resN, w_ret1, w_ret2, w_ret3, r_res0, r_resT, oR_some, oW_some, x_nil, x_cons, x_c, s_ev, x_bo, x_gd, x_mv, s_box, s_stA, s_ceA, z_store3, z_put3, s_asCells, s_load, z_loadO, s_rd1, s_rd2, s_ext, x_not, x_pick, s_wantT, s_wantF, Bool.not_not, y_wantU, s_cond, n_lss, n_leq, n_gtr, n_geq, n_eql, n_neq, y_eqS, y_neqS, y_lenStr, y_idxSl, y_fieldAddr, y_call, x_lenS, w_lenN, y_build3, y_lit3, y_litS, w_draw, dr_nil, dr_cons, dr_end, dk_p, dk_l, dk_lT, dk_a, dk_c, du_p, du_l, du_a, du_c, dr_n, dr_g, dr_kP, dr_kL, dr_kA, dr_kA2, dr_kC, d_lg, d_ac0, d_acc, d_accS, d_find, d_chk, d_all0, d_all1, d_one, d_chkV, d_sameS, dr_ok, Bool.or_true, Bool.or_false, Bool.true_or, Bool.false_or, Nat.reduceLeDiff, T.get_set, Option.getD_some, reduceIte, Nat.reduceEqDiff, eq_self, if_true, if_false, List.getElem?_cons_zero, List.getElem?_cons_succ, Option.getD_none, beq_self_eq_true, Nat.reduceLT, Nat.reduceMul, Nat.reduceAdd, Nat.zero_add, Nat.mul_one, Nat.one_mul, Nat.zero_mul, Bool.false_eq_true, Bool.not_false, Bool.not_true, Bool.and_true, Bool.and_false, Bool.true_and, Bool.false_and, decide_true, decide_false, g7, g8, hd]
      refine ⟨⟨_, rfl, ?_⟩, trivial, trivial⟩
      have : x ∉ l := fun hx => by
        obtain ⟨j, hj, e⟩ := List.getElem_of_mem hx
        exact hne j (by omega) (by rw [List.getElem?_eq_getElem hj, e])
      rw [decide_eq_false this]; rfl
theorem contains_run {C : CallF} {LF nx0 : Nat} {rows : T ARow} {nx : Nat} {v : AV} {l : List S} {x : S} (h : RdV rows nx0 1 l.length v (strs l)) (hC : ∃ k, C (.f 71) [v, .str x] rows nx = some ⟨.int .i64 k, rows, nx⟩ ∧ decide (0 ≤ k) = decide (x ∈ l)) :
    evFn C LF I.I37 [v, .str x] rows nx = some ⟨.bool (decide (x ∈ l)), rows, nx⟩ := by
  obtain ⟨k, h1, h2⟩ := hC
  obtain ⟨r, e, h3⟩ : oR (evFn C LF I.I37 [v, .str x] rows nx) fun r rows' nx' => r = .bool (decide (x ∈ l)) ∧ rows' = rows ∧ nx' = nx := by
    refine fn_w rfl ?_
    have h0 : (argsT [v, .str x] 0 .nil).get 0 = some v := rfl
    have h1' : (argsT [v, .str x] 0 .nil).get 1 = some (.str x) := rfl
    generalize argsT [v, .str x] 0 .nil = tm at h0 h1'
    simp only [I.I37]
    have hq := fun rows nx => y_geq (C := C) (rows := rows) (nx := nx) .i64 k (.ofNat 0)
    simp only [w_nil, w_cons, w_g, w_gt, w_if1, w_if0, w_k, w_set, w_ops, w_kN, w_seq, w_seqN, w_seqR, w_seqE, w_block, w_blkN, w_blkR, w_blkE, w_lpN, w_lpR, w_lpE, w_exit, w_ret, w_skip, w_cond, w_cT, w_cF, w_res, w_resN, w_ret1, w_ret2, w_ret3, r_res0, r_resT, oR_some, oW_some, x_nil, x_cons, x_c, s_ev, x_bo, x_gd, x_mv, s_box, s_stA, s_ceA, z_store3, z_put3, s_asCells, s_load, z_loadO, s_rd1, s_rd2, s_ext, x_not, x_pick, s_wantT, s_wantF, Bool.not_not, y_wantU, s_cond, n_lss, n_leq, n_gtr, n_geq, n_eql, n_neq, y_eqS, y_neqS, y_lenStr, y_idxSl, y_fieldAddr, y_call, x_lenS, w_lenN, y_build3, y_lit3, y_litS, w_draw, dr_nil, dr_cons, dr_end, dk_p, dk_l, dk_lT, dk_a, dk_c, du_p, du_l, du_a, du_c, dr_n, dr_g, dr_kP, dr_kL, dr_kA, dr_kA2, dr_kC, d_lg, d_ac0, d_acc, d_accS, d_find, d_chk, d_all0, d_all1, d_one, d_chkV, d_sameS, dr_ok, Bool.or_true, Bool.or_false, Bool.true_or, Bool.false_or, Nat.reduceLeDiff, T.get_set, Option.getD_some, reduceIte, Nat.reduceEqDiff, eq_self, if_true, if_false, List.getElem?_cons_zero, List.getElem?_cons_succ, Option.getD_none, beq_self_eq_true, Nat.reduceLT, Nat.reduceMul, Nat.reduceAdd, Nat.zero_add, Nat.mul_one, Nat.one_mul, Nat.zero_mul, Bool.false_eq_true, Bool.not_false, Bool.not_true, Bool.and_true, Bool.and_false, Bool.true_and, Bool.false_and, decide_true, decide_false, h0, h1', h1, hq]
    have : decide (Int.ofNat 0 ≤ k) = decide (x ∈ l) := h2
    rw [this]
    exact ⟨rfl, trivial, trivial⟩
  obtain ⟨v', rows', nx'⟩ := r
  obtain ⟨rfl, rfl, rfl⟩ := h3
  exact e
end Ev.Tp
end
