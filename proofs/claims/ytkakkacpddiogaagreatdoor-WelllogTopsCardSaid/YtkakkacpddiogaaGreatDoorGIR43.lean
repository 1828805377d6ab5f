/- Parts of the proof. -/
import Derived.Test.YtkakkacpddiogaaGreatDoorIRp43
import Derived.Test.YtkakkacpddiogaaGreatDoorIRq43
import Derived.Test.YtkakkacpddiogaaGreatDoorGEwN
import Derived.Test.YtkakkacpddiogaaGreatDoorProg
import Derived.KernelRfl

set_option linter.unusedSimpArgs false
set_option linter.unusedVariables false
section

end

/- Equations of the evaluator, for runs with unknown values. -/
section
namespace Ev
open Go

section
variable {C : CallF} {LF : Nat} {rows : T ARow} {nx : Nat}

theorem x_ops_nil (s : St) : evOps C [] s = some s := rfl
theorem x_ops (g : GOp) (l : List GOp) (s : St) : evOps C (g :: l) s = bo (evG C g s) (evOps C l) := rfl
theorem x_g (d : Nat) (k : K) (xs : List Opd) (s : St) : evG C ⟨none, d, k, xs⟩ s = bo (evK (evList s.tm xs) s.rows s.nx C k) fun r => some ⟨s.tm.set d (some r.v), r.rows, r.nx⟩ := rfl
theorem x_gt {t : Nat} (d : Nat) (k : K) (xs : List Opd) (s : St) {b w : Bool} (h : s.tm.get t = some (.bool b)) : evG C ⟨some (t, w), d, k, xs⟩ s = if b = w then (bo (evK (evList s.tm xs) s.rows s.nx C k) fun r => some ⟨s.tm.set d (some r.v), r.rows, r.nx⟩) else some ⟨s.tm.set d (some .undef), s.rows, s.nx⟩ := by
  unfold evG wanted
  simp only [h]
  cases b <;> cases w <;> rfl
theorem x_nil (tm : T AV) : evList tm [] = [] := rfl
theorem x_cons (tm : T AV) (x : Opd) (l : List Opd) : evList tm (x :: l) = x.ev tm :: evList tm l := rfl
theorem x_c (tm : T AV) (v : AV) : (Opd.c v).ev tm = v := rfl
theorem x_t {tm : T AV} {n : Nat} {v : AV} (h : tm.get n = some v) : (Opd.t n).ev tm = v := by simp [Opd.ev, h]
theorem x_bo {α β : Type} (a : α) (f : α → Option β) : bo (some a) f = f a := rfl
theorem x_gd {β : Type} (x : Option β) : gd true x = x := rfl

theorem x_mv (x : AV) : evK [x] rows nx C .mv = some ⟨x, rows, nx⟩ := rfl
theorem x_ptr {β : Type} (b o : Nat) (f : Nat → Nat → Option β) : asPtr (.ptr b o) f = f b o := rfl
theorem x_box {x : AV} (g : Nat) (h : x.stored = true) : evK [x] rows nx C (.box g) = some ⟨.ptr nx 0, rows.set nx (some (.cells g x.cells)), nx + 1⟩ := by
  show gd x.stored _ = _
  rw [h]; rfl
theorem x_store2 {b g : Nat} {l : List AV} {p q : AV} (h : rows.get b = some (.cells g l)) (hl : l.length = 2) : evK [.ptr b 0, .agg [p, q]] rows nx C (.store (.many 2)) = some ⟨.undef, rows.set b (some (.cells g [p, q])), nx⟩ := by
  match l, hl with
  | [x, y], _ =>
    show asCells (rows.get b) (fun g l => bo (putN [p, q] 0 l) fun l => rset rows nx .undef b (.cells g l)) = _
    rw [h]; rfl
theorem x_load {b o : Nat} {q : ARow} {l : List AV} {v : AV} (h : rows.get b = some q) (hq : rdRow q = some l) (hv : l[o]? = some v) : evK [.ptr b o] rows nx C (.load .one) = some ⟨v, rows, nx⟩ := by
  show bo (loadAt rows .one (.ptr b o)) (fun v => rv rows nx v) = _
  have : loadAt rows .one (.ptr b o) = some v := by
    show asRead (rows.get b) (fun l => kd .one (dropN o l)) = some v
    rw [asRead_some]
    refine ⟨q, l, h, hq, ?_⟩
    show getN 0 (dropN o l) = some v
    rw [getN_eq, dropN_eq]
    simpa using hv
  rw [this]; rfl
theorem x_idx (b o n sz : Nat) (i : Nat) (k : IntKind) (h : i < n) : evK [.ptr b o, .int k (.ofNat i)] rows nx C (.indexAr n sz) = some ⟨.ptr b (o + i * sz), rows, nx⟩ := by
  show gd (Nat.blt i n) (rv rows nx (.ptr b (Nat.add o (Nat.mul i sz)))) = _
  rw [blt_nat, decide_eq_true h]; rfl
theorem x_ext {l : List AV} {i : Nat} {v : AV} (h : l[i]? = some v) : evK [.tup l] rows nx C (.extract i) = some ⟨v, rows, nx⟩ := by
  show rvo rows nx (getN i l) = _
  rw [getN_eq, h]; rfl
theorem x_not (b : Bool) : evK [.bool b] rows nx C .not = some ⟨.bool (!b), rows, nx⟩ := rfl
theorem x_pick (c : Bool) (a b : AV) : evK [.bool c, a, b] rows nx C .pick = some ⟨if c = true then a else b, rows, nx⟩ := by
  cases c <;> rfl
theorem x_build2 (z1 z2 a b : AV) (h1 : one a = some [a]) (h2 : one b = some [b]) : evK [a, b] rows nx C (.build [z1, z2] [(0, .one), (1, .one)]) = some ⟨.agg [a, b], rows, nx⟩ := by
  show bo (bo (one a) fun c => bo (putN c 0 [z1, z2]) fun z => bo (one b) fun c => bo (putN c 1 z) fun z => some z) (fun l => rv rows nx (.agg l)) = _
  rw [h1]
  show bo (bo (one b) fun c => bo (putN c 1 [a, z2]) fun z => some z) _ = _
  rw [h2]; rfl
theorem x_lookup {m k z : AV} {sh : Sh} {ok e : Bool} {es : List (AV × AV)} {q : Option AV} (h1 : eqA sh k k = some e) (h2 : mapRow rows m = some es) (h3 : findM sh k es = some q) :
    evK [m, k] rows nx C (.rare (.lookup sh z ok)) = some ⟨match ok with | true => .tup [q.getD z, .bool q.isSome] | false => q.getD z, rows, nx⟩ := by
  show bo (eqA sh k k) (fun _ => bo (mapRow rows m) fun es => bo (findM sh k es) fun q => match q with
    | some v => rv rows nx (match ok with | true => .tup [v, .bool true] | false => v)
    | none => rv rows nx (match ok with | true => .tup [z, .bool false] | false => z)) = _
  rw [h1, h2]
  show bo (findM sh k es) _ = _
  rw [h3]
  cases q <;> cases ok <;> rfl
theorem x_update {b : Nat} {k x : AV} {sh : Sh} {e : Bool} {es : List (AV × AV)} (h1 : eqA sh k k = some e) (h2 : rows.get b = some (.map es)) (h3 : findM sh k es = some none) :
    evK [.map b, k, x] rows nx C (.rare (.mapUpdate sh)) = some ⟨.undef, rows.set b (some (.map (es ++ [(k, x)]))), nx⟩ := by
  show bo (eqA sh k k) (fun _ => match rows.get b with
    | some (.map es) => bo (findM sh k es) fun q => (match q with
      | some _ => rset rows nx .undef b (.map (updM sh k x es))
      | none => rset rows nx .undef b (.map (appN es [(k, x)])))
    | _ => none) = _
  rw [h1, h2]
  show bo (findM sh k es) _ = _
  rw [h3, appN_eq]; rfl
theorem x_makeMap : evK [] rows nx C (.rare .makeMap) = some ⟨.map nx, rows.set nx (some (.map [])), nx + 1⟩ := rfl
theorem x_lenS (b o n : Nat) (c : Cap) : evK [.slice b o n c] rows nx C (.len .sl) = some ⟨.int .i64 (.ofNat n), rows, nx⟩ := rfl
theorem x_lenN : evK [.nil .slice] rows nx C (.len .sl) = some ⟨.int .i64 (.ofNat 0), rows, nx⟩ := rfl
theorem x_lenM {b : Nat} {es : List (AV × AV)} (h : rows.get b = some (.map es)) : evK [.map b] rows nx C (.len .map) = some ⟨.int .i64 (.ofNat es.length), rows, nx⟩ := by
  show bo (lenV rows .map (.map b)) (fun n => rv rows nx (.int .i64 (.ofNat n))) = _
  simp only [lenV, h, lenN_eq]; rfl
theorem x_lss (a b : Int) : evK [.int .i64 a, .int .i64 b] rows nx C (.binI .lss) = some ⟨.bool (decide (a < b)), rows, nx⟩ := by
  show rvo rows nx (gd (IntKind.i64 == .i64) (some (.bool (ltI a b)))) = _
  rw [ltI_eq]; rfl
theorem x_gtr (a b : Int) : evK [.int .i64 a, .int .i64 b] rows nx C (.binI .gtr) = some ⟨.bool (decide (b < a)), rows, nx⟩ := by
  show rvo rows nx (gd (IntKind.i64 == .i64) (some (.bool (ltI b a)))) = _
  rw [ltI_eq]; rfl
theorem x_eql (a b : Int) : evK [.int .i64 a, .int .i64 b] rows nx C (.binI .eql) = some ⟨.bool (decide (a = b)), rows, nx⟩ := by
  show rvo rows nx (gd (IntKind.i64 == .i64) (some (.bool (eqI a b)))) = _
  rw [eqI_eq]; rfl
theorem x_min (a b : Int) : evK [.int .i64 a, .int .i64 b] rows nx C (.rare .min) = some ⟨.int .i64 (if b < a then b else a), rows, nx⟩ := by
  show rvo rows nx (some (.int .i64 (match ltI b a with | true => b | false => a))) = _
  rw [ltI_eq]
  by_cases h : b < a <;> simp [h, rvo, bo]
theorem x_max (a b : Int) : evK [.int .i64 a, .int .i64 b] rows nx C (.rare .max) = some ⟨.int .i64 (if a < b then b else a), rows, nx⟩ := by
  show rvo rows nx (some (.int .i64 (match ltI a b with | true => b | false => a))) = _
  rw [ltI_eq]
  by_cases h : a < b <;> simp [h, rvo, bo]

theorem x_iops (l : List GOp) (s : St) : runIC C LF (.ops l) s = bo (evOps C l s) fun s => some ⟨.normal, s⟩ := rfl
theorem x_iseq (a b : IC) (s : St) : runIC C LF (.seq a b) s = bo (runIC C LF a s) fun x => match x.e with | .normal => runIC C LF b x.s | e => some ⟨e, x.s⟩ := rfl
theorem x_icond {s : St} {c : Nat} {b : Bool} (x y : IC) (h : s.tm.get c = some (.bool b)) : runIC C LF (.cond (.t c) x y) s = if b = true then runIC C LF x s else runIC C LF y s := by
  show asBool ((Opd.t c).ev s.tm) _ = _
  rw [x_t h]
  cases b <;> rfl
theorem x_iblock (id : Nat) (b : IC) (s : St) : runIC C LF (.block id b) s = bo (runIC C LF b s) fun x => match x.e with | .exit i => (match Nat.beq i id with | true => some ⟨.normal, x.s⟩ | false => some x) | _ => some x := rfl
theorem x_iexit (id : Nat) (s : St) : runIC C LF (.exit id) s = some ⟨.exit id, s⟩ := rfl
theorem x_iret (s : St) : runIC C LF .ret s = some ⟨.ret, s⟩ := rfl
theorem x_iskip (s : St) : runIC C LF .skip s = some ⟨.normal, s⟩ := rfl
theorem x_iloop (b : IC) (s : St) : runIC C LF (.loop b) s = iter (runIC C LF b) LF s := rfl
theorem x_iter (f : St → Option XS) (k : Nat) (s : St) : iter f (k+1) s = bo (f s) fun x => match x.e with | .normal => iter f k x.s | e => some ⟨e, x.s⟩ := rfl
theorem x_one (k : IntKind) (n : Int) : one (.int k n) = some [.int k n] := rfl

/-- Two ints of one kind. -/
theorem x_eqI {k : IntKind} {a b : Int} (ha : inR k a = true) (hb : inR k b = true) : eqA ⟨false, [.int k]⟩ (.int k a) (.int k b) = some (decide (a = b)) := by
  show gd ((k == k) && ((k == k) && (inR k a && inR k b))) (some (eqI a b)) = _
  simp [ha, hb, gd, eqI_eq]
theorem x_eq2 {k : IntKind} {a b c d : Int} (ha : inR k a = true) (hb : inR k b = true) (hc : inR k c = true) (hd : inR k d = true) :
    eqA ⟨true, [.int k, .int k]⟩ (.agg [.int k a, .int k b]) (.agg [.int k c, .int k d]) = some (decide ((a, b) = (c, d))) := by
  show bo (eq1 (.int k) (.int k a) (.int k c)) (fun e => bo (bo (eq1 (.int k) (.int k b) (.int k d)) fun e => bo (some true) fun r => some (match e with | true => r | false => false)) fun r => some (match e with | true => r | false => false)) = _
  have e1 : ∀ {x y : Int}, inR k x = true → inR k y = true → eq1 (.int k) (.int k x) (.int k y) = some (decide (x = y)) := fun {x y} hx hy => by
    show gd ((k == k) && ((k == k) && (inR k x && inR k y))) (some (eqI x y)) = _
    simp [hx, hy, gd, eqI_eq]
  rw [e1 ha hc, e1 hb hd]
  by_cases h1 : a = c <;> by_cases h2 : b = d <;> simp [bo, h1, h2]

theorem x_findI {k : IntKind} {α : Type} (key : α → Int) (val : α → AV) (a : Int) (ha : inR k a = true) : ∀ (l : List α), (∀ x ∈ l, inR k (key x) = true) →
    findM ⟨false, [.int k]⟩ (.int k a) (l.map fun x => (.int k (key x), val x)) = some ((l.find? fun x => decide (a = key x)).map val)
  | [], _ => rfl
  | x :: l, h => by
    show bo (eqA ⟨false, [.int k]⟩ (.int k a) (.int k (key x))) (fun b => Bool.rec (findM ⟨false, [.int k]⟩ (.int k a) (l.map fun x => (.int k (key x), val x))) (some (some (val x))) b) = _
    rw [x_eqI ha (h x (by simp)), x_findI key val a ha l fun y hy => h y (by simp [hy])]
    by_cases hx : a = key x <;> simp [bo, hx]
theorem x_find2 {k : IntKind} {α : Type} (key : α → Int × Int) (val : α → AV) (p : Int × Int) (h1 : inR k p.1 = true) (h2 : inR k p.2 = true) : ∀ (l : List α), (∀ x ∈ l, inR k (key x).1 = true ∧ inR k (key x).2 = true) →
    findM ⟨true, [.int k, .int k]⟩ (.agg [.int k p.1, .int k p.2]) (l.map fun x => (.agg [.int k (key x).1, .int k (key x).2], val x)) = some ((l.find? fun x => decide (p = key x)).map val)
  | [], _ => rfl
  | x :: l, h => by
    show bo (eqA ⟨true, [.int k, .int k]⟩ (.agg [.int k p.1, .int k p.2]) (.agg [.int k (key x).1, .int k (key x).2])) (fun b => Bool.rec (findM ⟨true, [.int k, .int k]⟩ (.agg [.int k p.1, .int k p.2]) (l.map fun x => (.agg [.int k (key x).1, .int k (key x).2], val x))) (some (some (val x))) b) = _
    obtain ⟨g1, g2⟩ := h x (by simp)
    rw [x_eq2 h1 h2 g1 g2, x_find2 key val p h1 h2 l fun y hy => h y (by simp [hy])]
    by_cases hx : p = key x
    · have : decide ((p.1, p.2) = ((key x).1, (key x).2)) = true := decide_eq_true hx
      rw [this]
      simp [bo, hx]
    · have : decide ((p.1, p.2) = ((key x).1, (key x).2)) = false := decide_eq_false hx
      rw [this]
      simp [bo, hx]

/-- An element laid into a new row, appended. -/
theorem x_lit1 {x : AV} (z : AV) (h : one x = some [x]) : evK [x] rows nx C (.rare (.buildSlice [z] 1 [(0, .one)])) = some ⟨.slice nx 0 1 (.ex 1), rows.set nx (some (.cells 0 [x])), nx + 1⟩ := by
  show bo (bo (one x) fun c => bo (putN c 0 [z]) fun z => some z) (fun l => rnew rows nx (.slice nx 0 1 (.ex 1)) (.cells 0 l)) = _
  rw [h]; rfl
theorem x_lit2 {x y : AV} (z1 z2 : AV) : evK [.agg [x, y]] rows nx C (.rare (.buildSlice [z1, z2] 1 [(0, .many 2)])) = some ⟨.slice nx 0 1 (.ex 1), rows.set nx (some (.cells 0 [x, y])), nx + 1⟩ := rfl
theorem x_appN {b sz bytes t : Nat} {l : List AV} (h : rows.get b = some (.cells 0 l)) (hl : l ≠ []) (hlen : l.length = sz) (hsz : 0 < sz) (hb : bytes ≤ 1000) :
    evK [.nil .slice, .slice b 0 1 (.ex 1)] rows nx C (.rare (.append sz bytes t)) = some ⟨.slice nx 0 1 (.op sz), rows.set nx (some (.cells t l)), nx + 1⟩ := by
  show bo (asRead (rows.get b) fun l => takeN (Nat.mul 1 sz) (dropN 0 l)) (fun src => appNil rows nx sz bytes t src) = _
  have e1 : (asRead (rows.get b) fun l => takeN (Nat.mul 1 sz) (dropN 0 l)) = some l := by
    rw [asRead_some]
    refine ⟨_, l, h, rfl, ?_⟩
    rw [dropN_eq, takeN_some]
    simp only [List.drop_zero, Nat.mul_eq, Nat.one_mul, ← hlen]
    exact ⟨Nat.le_refl _, (List.take_length).symm⟩
  rw [e1]
  show appNil rows nx sz bytes t l = _
  have hd : Nat.div (lenN l) sz = 1 := by rw [lenN_eq, hlen]; exact Nat.div_self hsz
  unfold appNil
  split
  · exact absurd rfl hl
  · rw [hd]
    have : small 1 bytes = true := by unfold small; rw [ble_nat]; simp; omega
    rw [this]; rfl
theorem x_appS {b b' n sz bytes t : Nat} {l m : List AV} (h : rows.get b = some (.cells 0 l)) (h' : rows.get b' = some (.cells t m)) (hl : l ≠ []) (hlen : l.length = sz) (hm : m.length = n * sz) (hsz : 0 < sz) (hb : bytes ≤ 1000) (hn : n ≤ 1000000) :
    evK [.slice b' 0 n (.op sz), .slice b 0 1 (.ex 1)] rows nx C (.rare (.append sz bytes t)) = some ⟨.slice nx 0 (n + 1) (.op sz), (rows.set b' none).set nx (some (.cells t (m ++ l))), nx + 1⟩ := by
  show bo (asRead (rows.get b) fun l => takeN (Nat.mul 1 sz) (dropN 0 l)) (fun src => asCells (rows.get b') fun g l => (match src with
      | [] => rv rows nx (.slice b' 0 n (.op sz))
      | src => gd (Nat.beq sz sz) (appOp rows nx sz bytes t g b' 0 n src l))) = _
  have e1 : (asRead (rows.get b) fun l => takeN (Nat.mul 1 sz) (dropN 0 l)) = some l := by
    rw [asRead_some]
    refine ⟨_, l, h, rfl, ?_⟩
    rw [dropN_eq, takeN_some]
    simp only [List.drop_zero, Nat.mul_eq, Nat.one_mul, ← hlen]
    exact ⟨Nat.le_refl _, (List.take_length).symm⟩
  rw [e1, h']
  show (match l with
      | [] => rv rows nx (.slice b' 0 n (.op sz))
      | src => gd (Nat.beq sz sz) (appOp rows nx sz bytes t t b' 0 n src m)) = _
  have hd : Nat.div (lenN l) sz = 1 := by rw [lenN_eq, hlen]; exact Nat.div_self hsz
  split
  · exact absurd rfl hl
  · rw [beq_nat, decide_eq_true rfl]
    unfold appOp
    rw [hd]
    have hs : small (Nat.add n 1) bytes = true := by
      unfold small; rw [ble_nat]
      have : (n + 1) * bytes ≤ 1000001 * 1000 := Nat.mul_le_mul (by omega) hb
      exact decide_eq_true (by show (n + 1) * bytes ≤ _; omega)
    rw [hs]
    have e2 : takeN (Nat.mul n sz) (dropN 0 m) = some m := by
      rw [dropN_eq, takeN_some]
      have : (List.drop 0 m).length = Nat.mul n sz := by simpa using hm
      exact ⟨by omega, by rw [List.take_of_length_le (by omega)]; rfl⟩
    rw [e2]
    have : tagR t t 0 = t := by unfold tagR; rw [beq_nat, beq_nat]; simp
    show some (R.mk (.slice nx 0 (n + 1) (.op sz)) ((rows.set b' none).set nx (some (.cells (tagR t t 0) (appN m l)))) (nx + 1)) = _
    rw [this, appN_eq]
end
end Ev
end

/- The same, as rules for simp; ints as keys. -/
section
namespace Ev
open Go

def rdO (o : Option ARow) : Option (List AV) := match o with | some (.cells _ l) => some l | some (.ro _ l) => some l | _ => none
def mpO (o : Option ARow) : Option (List (AV × AV)) := match o with | some (.map l) => some l | some (.roM l) => some l | _ => none
def wantB (o : Option AV) (w : Bool) : Bool := match o with | some (.bool b) => b == w | _ => false
def condB (o : Option AV) : Option Bool := match o with | some (.bool b) => some b | _ => none

theorem s_b1 : (false == true) = false := rfl
theorem s_b2 : (true == false) = false := rfl

section
variable {C : CallF} {LF : Nat} {rows : T ARow} {nx : Nat}
theorem s_rd1 (g : Nat) (l : List AV) : rdO (some (.cells g l)) = some l := rfl
theorem s_rd2 (g : Nat) (l : List AV) : rdO (some (.ro g l)) = some l := rfl
theorem s_mp1 (l : List (AV × AV)) : mpO (some (.map l)) = some l := rfl
theorem s_mp2 (l : List (AV × AV)) : mpO (some (.roM l)) = some l := rfl
theorem s_want (b w : Bool) : wantB (some (.bool b)) w = (b == w) := rfl
theorem s_cond (b : Bool) : condB (some (.bool b)) = some b := rfl
theorem s_ev (tm : T AV) (n : Nat) : (Opd.t n).ev tm = (tm.get n).getD .undef := by
  cases h : tm.get n <;> simp [Opd.ev, h]
theorem s_g (t d : Nat) (w : Bool) (k : K) (xs : List Opd) (s : St) : evG C ⟨some (t, w), d, k, xs⟩ s = if wantB (s.tm.get t) w = true then (bo (evK (evList s.tm xs) s.rows s.nx C k) fun r => some ⟨s.tm.set d (some r.v), r.rows, r.nx⟩) else some ⟨s.tm.set d (some .undef), s.rows, s.nx⟩ := by
  unfold evG wanted wantB
  simp only
  cases h : s.tm.get t with
  | none => rfl
  | some v =>
    cases v <;> try rfl
    rename_i b
    cases b <;> cases w <;> rfl
theorem s_box (x : AV) (g : Nat) : evK [x] rows nx C (.box g) = gd x.stored (some ⟨.ptr nx 0, rows.set nx (some (.cells g x.cells)), nx + 1⟩) := rfl
theorem s_store2 (b : Nat) (p q : AV) : evK [.ptr b 0, .agg [p, q]] rows nx C (.store (.many 2)) = asCells (rows.get b) (fun g l => bo (putN [p, q] 0 l) fun l => some ⟨.undef, rows.set b (some (.cells g l)), nx⟩) := rfl
theorem s_put2 (p q x y : AV) : putN [p, q] 0 [x, y] = some [p, q] := rfl
theorem s_asCells {β : Type} (g : Nat) (l : List AV) (f : Nat → List AV → Option β) : asCells (some (.cells g l)) f = f g l := rfl
theorem s_load (b o : Nat) : evK [.ptr b o] rows nx C (.load .one) = bo (rdO (rows.get b)) fun l => bo l[o]? fun v => some ⟨v, rows, nx⟩ := by
  show bo (asRead (rows.get b) fun l => kd .one (dropN o l)) (fun v => rv rows nx v) = _
  have key : ∀ l : List AV, kd .one (dropN o l) = l[o]? := fun l => by
    show getN 0 (dropN o l) = _
    rw [getN_eq, dropN_eq]; simp
  cases h : rows.get b with
  | none => rfl
  | some q => cases q <;> first
    | rfl
    | (show bo (kd .one (dropN o _)) _ = bo _ _; rw [key]; rfl)
theorem s_idx (b o n sz i : Nat) (k : IntKind) : evK [.ptr b o, .int k (.ofNat i)] rows nx C (.indexAr n sz) = if i < n then some ⟨.ptr b (o + i * sz), rows, nx⟩ else none := by
  show gd (Nat.blt i n) (rv rows nx (.ptr b (Nat.add o (Nat.mul i sz)))) = _
  rw [blt_nat]
  by_cases h : i < n <;> simp [h, gd] <;> rfl
theorem s_ext (l : List AV) (i : Nat) : evK [.tup l] rows nx C (.extract i) = bo l[i]? fun v => some ⟨v, rows, nx⟩ := by
  show rvo rows nx (getN i l) = _
  rw [getN_eq]; rfl
theorem s_build2 (z1 z2 : AV) (a b : Int) (k : IntKind) : evK [.int k a, .int k b] rows nx C (.build [z1, z2] [(0, .one), (1, .one)]) = some ⟨.agg [.int k a, .int k b], rows, nx⟩ := rfl
theorem s_lookup (r : Nat) (k z : AV) (sh : Sh) (ok : Bool) : evK [.map r, k] rows nx C (.rare (.lookup sh z ok)) = bo (eqA sh k k) fun _ => bo (mpO (rows.get r)) fun es => bo (findM sh k es) fun q => some ⟨match ok with | true => .tup [q.getD z, .bool q.isSome] | false => q.getD z, rows, nx⟩ := by
  show bo (eqA sh k k) (fun _ => bo (mapRow rows (.map r)) fun es => bo (findM sh k es) fun q => match q with
    | some v => rv rows nx (match ok with | true => .tup [v, .bool true] | false => v)
    | none => rv rows nx (match ok with | true => .tup [z, .bool false] | false => z)) = _
  have e1 : mapRow rows (.map r) = mpO (rows.get r) := rfl
  rw [e1]
  congr 1
  funext _
  congr 1
  funext es
  congr 1
  funext q
  cases q <;> cases ok <;> rfl
theorem s_update (b : Nat) (k x : AV) (sh : Sh) : evK [.map b, k, x] rows nx C (.rare (.mapUpdate sh)) = bo (eqA sh k k) fun _ => (match rows.get b with
    | some (.map es) => bo (findM sh k es) fun q => (match q with
      | some _ => some ⟨.undef, rows.set b (some (.map (updM sh k x es))), nx⟩
      | none => some ⟨.undef, rows.set b (some (.map (es ++ [(k, x)]))), nx⟩)
    | _ => none) := by
  show bo (eqA sh k k) (fun _ => match rows.get b with
    | some (.map es) => bo (findM sh k es) fun q => (match q with
      | some _ => rset rows nx .undef b (.map (updM sh k x es))
      | none => rset rows nx .undef b (.map (appN es [(k, x)])))
    | _ => none) = _
  congr 1
  funext _
  split
  · rename_i es _
    congr 1
    funext q
    cases q with
    | none => simp only [appN_eq]; rfl
    | some v => rfl
  · rfl
theorem s_lenM (b : Nat) : evK [.map b] rows nx C (.len .map) = bo (mpO (rows.get b)) fun es => some ⟨.int .i64 (.ofNat es.length), rows, nx⟩ := by
  show bo (lenV rows .map (.map b)) (fun n => rv rows nx (.int .i64 (.ofNat n))) = _
  unfold lenV mpO
  simp only
  cases h : rows.get b with
  | none => rfl
  | some q => cases q <;> simp [lenN_eq, bo, rv]
theorem s_icond (c : Nat) (x y : IC) (s : St) : runIC C LF (.cond (.t c) x y) s = bo (condB (s.tm.get c)) fun b => if b = true then runIC C LF x s else runIC C LF y s := by
  show asBool ((Opd.t c).ev s.tm) _ = _
  rw [s_ev]
  cases h : s.tm.get c with
  | none => rfl
  | some v => cases v <;> try rfl
              rename_i b
              cases b <;> rfl
theorem s_stA (l : List AV) : (AV.agg l).stored = true := rfl
theorem s_stI (k : IntKind) (n : Int) : (AV.int k n).stored = true := rfl
theorem s_ceA (l : List AV) : (AV.agg l).cells = l := rfl
theorem s_bon {α β : Type} (f : α → Option β) : bo none f = none := rfl
end
end Ev
end

/- The border of a mesh: one round of the range over the sides. -/
section
namespace Ev.Ou
open Go Ev

abbrev ii (n : Int) : AV := .int .i64 n
abbrev kk (p : Int × Int) : AV := .agg [ii p.1, ii p.2]

def JC.lft : JC → JC | .seq a _ => a | j => j
def JC.rgt : JC → JC | .seq _ b => b | j => j
def JC.g5 : JC → List GOp | .mrange _ _ _ _ _ _ _ l _ => l | _ => []
def JC.rst : JC → IC | .mrange _ _ _ _ _ _ _ _ r => r | _ => .bad
def JC.code : JC → IC | .ic c => c | _ => .bad

def g5 : List GOp := JC.g5 (JC.lft (JC.rgt (JC.rgt (JC.rgt I.J184))))
def rst : IC := JC.rst (JC.lft (JC.rgt (JC.rgt (JC.rgt I.J184))))

structure Live (it b m : Nat) (es nxt : List (AV × AV)) (f : Int) (s : St) : Prop where
  t1 : s.tm.get 1 = some (.map b)
  t6 : s.tm.get 6 = some (.map m)
  t7 : s.tm.get 7 = some (ii f)
  t19 : s.tm.get 19 = some (.ptr it 0)
  rb : s.rows.get b = some (.roM es)
  rm : s.rows.get m = some (.map nxt)

theorem round {C : CallF} {LF it b m : Nat} {es nxt : List (AV × AV)} {f : Int} {s : St} (h : Live it b m es nxt f s) (hb : b ≠ s.nx) (hm : m ≠ s.nx) (hbm : b ≠ m) {p : Int × Int} {v : AV} {q : Option AV}
    (he2 : eqA ⟨true, [.int .i64, .int .i64]⟩ (kk (p.2, p.1)) (kk (p.2, p.1)) = some true) (he1 : eqA ⟨false, [.int .i64]⟩ (ii p.1) (ii p.1) = some true)
    (hq : findM ⟨true, [.int .i64, .int .i64]⟩ (kk (p.2, p.1)) es = some q) (hn : q = none → findM ⟨false, [.int .i64]⟩ (ii p.1) nxt = some none) :
    ∃ s5 x, evOps C g5 (nextSt s 20 21 22 (kk p) v) = some s5 ∧ runIC C LF rst s5 = some x ∧ x.s.nx = s.nx + 1 ∧
      (match q with
       | some _ => x.e = .exit 1 ∧ Live it b m es nxt f x.s
       | none => x.e = .normal ∧ Live it b m es (nxt ++ [(ii p.1, ii p.2)]) (if f < 0 ∨ p.1 < f then p.1 else f) x.s) := by
  obtain ⟨t1, t6, t7, t19, rb, rm⟩ := h
  obtain ⟨tm, rows, nx⟩ := s
  simp only at t1 t6 t7 t19 rb rm hb hm
  have e5 : ∃ s5, evOps C g5 (nextSt ⟨tm, rows, nx⟩ 20 21 22 (kk p) v) = some s5 ∧ s5.tm.get 1 = some (.map b) ∧ s5.tm.get 6 = some (.map m) ∧ s5.tm.get 7 = some (ii f) ∧ s5.tm.get 19 = some (.ptr it 0) ∧ s5.tm.get 8 = some (.ptr nx 0) ∧
      s5.rows.get b = some (.roM es) ∧ s5.rows.get m = some (.map nxt) ∧ (∃ g, s5.rows.get nx = some (.cells g [ii p.1, ii p.2])) ∧ s5.nx = nx + 1 := by
    unfold g5
    simp only [I.J184, JC.rgt, JC.lft, JC.g5, nextSt]
    simp only [x_ops_nil, x_ops, x_g, s_g, x_nil, x_cons, x_c, s_ev, x_bo, x_gd, x_mv, s_box, s_store2, s_put2, s_asCells, s_load, s_idx, s_ext, s_build2, s_lookup, s_update, s_lenM, x_lss, x_gtr, x_eql, x_not, x_pick, s_rd1, s_rd2, s_mp1, s_mp2, s_want, s_cond, s_stA, s_stI, s_ceA, x_iops, x_iseq, s_icond, x_iblock, x_iexit, x_iret, x_iskip, T.get_set, Option.getD_some, reduceIte, Nat.reduceEqDiff, eq_self, ii, kk, if_true, if_false, List.getElem?_cons_zero, List.getElem?_cons_succ, Option.getD_none, Option.isSome_some, Option.isSome_none, beq_self_eq_true, Nat.reduceLT, Nat.reduceMul, Nat.reduceAdd, Nat.zero_add, Nat.one_mul, Nat.zero_mul, Bool.false_eq_true, Bool.not_false, Bool.not_true, decide_true, decide_false, t1, t6, t7, t19, rb, rm]
    refine ⟨_, rfl, ?_⟩
    simp only [T.get_set, Nat.reduceEqDiff, if_true, if_false, reduceIte, t1, t6, t7, t19, rb, rm, hb, hm, true_and]
    exact ⟨⟨_, rfl⟩, trivial⟩
  obtain ⟨s5, h5, k1, k6, k7, k19, k8, kb, km, ⟨g, kn⟩, knx⟩ := e5
  obtain ⟨tm5, rows5, nx5⟩ := s5
  simp only at k1 k6 k7 k19 k8 kb km kn knx
  suffices hsuf : ∃ x, runIC C LF rst ⟨tm5, rows5, nx5⟩ = some x ∧ x.s.nx = nx + 1 ∧
      (match q with
       | some _ => x.e = .exit 1 ∧ Live it b m es nxt f x.s
       | none => x.e = .normal ∧ Live it b m es (nxt ++ [(ii p.1, ii p.2)]) (if f < 0 ∨ p.1 < f then p.1 else f) x.s) by
    obtain ⟨x, hx⟩ := hsuf
    exact ⟨_, x, h5, hx⟩
  simp only [ii, kk] at he1 he2 hq hn
  unfold rst
  simp only [I.J184, JC.rgt, JC.lft, JC.rst]
  cases q with
  | some u =>
    simp only [x_ops_nil, x_ops, x_g, s_g, x_nil, x_cons, x_c, s_ev, x_bo, x_gd, x_mv, s_box, s_store2, s_put2, s_asCells, s_load, s_idx, s_ext, s_build2, s_lookup, s_update, s_lenM, x_lss, x_gtr, x_eql, x_not, x_pick, s_rd1, s_rd2, s_mp1, s_mp2, s_want, s_cond, s_stA, s_stI, s_ceA, x_iops, x_iseq, s_icond, x_iblock, x_iexit, x_iret, x_iskip, T.get_set, Option.getD_some, reduceIte, Nat.reduceEqDiff, eq_self, ii, kk, if_true, if_false, List.getElem?_cons_zero, List.getElem?_cons_succ, Option.getD_none, Option.isSome_some, Option.isSome_none, beq_self_eq_true, Nat.reduceLT, Nat.reduceMul, Nat.reduceAdd, Nat.zero_add, Nat.one_mul, Nat.zero_mul, Bool.false_eq_true, Bool.not_false, Bool.not_true, decide_true, decide_false, k1, k6, k7, k19, k8, kb, km, kn, he2, hq]
    refine ⟨_, rfl, knx, rfl, ?_⟩
    constructor <;> simp only [T.get_set, Nat.reduceEqDiff, if_true, if_false, reduceIte, k1, k6, k7, k19, kb, km, ii]
  | none =>
    have hn := hn rfl
    by_cases hf : f < 0
    · have hf0 : decide (f < Int.ofNat 0) = true := decide_eq_true hf
      have hfo : f < 0 ∨ p.1 < f := .inl hf
      simp only [x_ops_nil, x_ops, x_g, s_g, x_nil, x_cons, x_c, s_ev, x_bo, x_gd, x_mv, s_box, s_store2, s_put2, s_asCells, s_load, s_idx, s_ext, s_build2, s_lookup, s_update, s_lenM, x_lss, x_gtr, x_eql, x_not, x_pick, s_rd1, s_rd2, s_mp1, s_mp2, s_want, s_cond, s_stA, s_stI, s_ceA, x_iops, x_iseq, s_icond, x_iblock, x_iexit, x_iret, x_iskip, T.get_set, Option.getD_some, reduceIte, Nat.reduceEqDiff, eq_self, ii, kk, if_true, if_false, List.getElem?_cons_zero, List.getElem?_cons_succ, Option.getD_none, Option.isSome_some, Option.isSome_none, beq_self_eq_true, Nat.reduceLT, Nat.reduceMul, Nat.reduceAdd, Nat.zero_add, Nat.one_mul, Nat.zero_mul, Bool.false_eq_true, Bool.not_false, Bool.not_true, decide_true, decide_false, k1, k6, k7, k19, k8, kb, km, kn, he2, he1, hq, hn, hbm, Ne.symm hbm, hm, Ne.symm hm, hf0, Bool.true_eq_false, beq_iff_eq]
      refine ⟨_, rfl, knx, rfl, ?_⟩
      constructor <;> simp only [T.get_set, Nat.reduceEqDiff, if_true, if_false, reduceIte, k1, k6, k7, k19, kb, km, ii, hbm, Ne.symm hbm, hfo]
    · have hf0 : decide (f < Int.ofNat 0) = false := decide_eq_false hf
      by_cases hp : p.1 < f
      · have hfo : f < 0 ∨ p.1 < f := .inr hp
        have hp0 : decide (p.1 < f) = true := decide_eq_true hp
        simp only [x_ops_nil, x_ops, x_g, s_g, x_nil, x_cons, x_c, s_ev, x_bo, x_gd, x_mv, s_box, s_store2, s_put2, s_asCells, s_load, s_idx, s_ext, s_build2, s_lookup, s_update, s_lenM, x_lss, x_gtr, x_eql, x_not, x_pick, s_rd1, s_rd2, s_mp1, s_mp2, s_want, s_cond, s_stA, s_stI, s_ceA, x_iops, x_iseq, s_icond, x_iblock, x_iexit, x_iret, x_iskip, T.get_set, Option.getD_some, reduceIte, Nat.reduceEqDiff, eq_self, ii, kk, if_true, if_false, List.getElem?_cons_zero, List.getElem?_cons_succ, Option.getD_none, Option.isSome_some, Option.isSome_none, beq_self_eq_true, Nat.reduceLT, Nat.reduceMul, Nat.reduceAdd, Nat.zero_add, Nat.one_mul, Nat.zero_mul, Bool.false_eq_true, Bool.not_false, Bool.not_true, decide_true, decide_false, k1, k6, k7, k19, k8, kb, km, kn, he2, he1, hq, hn, hbm, Ne.symm hbm, hm, Ne.symm hm, hf0, hp0, Bool.true_eq_false, beq_iff_eq]
        refine ⟨_, rfl, knx, rfl, ?_⟩
        constructor <;> simp only [T.get_set, Nat.reduceEqDiff, if_true, if_false, reduceIte, k1, k6, k7, k19, kb, km, ii, hbm, Ne.symm hbm, hfo]
      · have hfo : ¬ (f < 0 ∨ p.1 < f) := by omega
        have hp0 : decide (p.1 < f) = false := decide_eq_false hp
        simp only [x_ops_nil, x_ops, x_g, s_g, x_nil, x_cons, x_c, s_ev, x_bo, x_gd, x_mv, s_box, s_store2, s_put2, s_asCells, s_load, s_idx, s_ext, s_build2, s_lookup, s_update, s_lenM, x_lss, x_gtr, x_eql, x_not, x_pick, s_rd1, s_rd2, s_mp1, s_mp2, s_want, s_cond, s_stA, s_stI, s_ceA, x_iops, x_iseq, s_icond, x_iblock, x_iexit, x_iret, x_iskip, T.get_set, Option.getD_some, reduceIte, Nat.reduceEqDiff, eq_self, ii, kk, if_true, if_false, List.getElem?_cons_zero, List.getElem?_cons_succ, Option.getD_none, Option.isSome_some, Option.isSome_none, beq_self_eq_true, Nat.reduceLT, Nat.reduceMul, Nat.reduceAdd, Nat.zero_add, Nat.one_mul, Nat.zero_mul, Bool.false_eq_true, Bool.not_false, Bool.not_true, decide_true, decide_false, k1, k6, k7, k19, k8, kb, km, kn, he2, he1, hq, hn, hbm, Ne.symm hbm, hm, Ne.symm hm, hf0, hp0, Bool.true_eq_false, beq_iff_eq]
        refine ⟨_, rfl, knx, rfl, ?_⟩
        constructor <;> simp only [T.get_set, Nat.reduceEqDiff, if_true, if_false, reduceIte, k1, k6, k7, k19, kb, km, ii, hbm, Ne.symm hbm, hfo]
end Ev.Ou
end

/- The border of a mesh: the walk along it. -/
section
namespace Ev.Ou
open Go Ev

def tailJ : JC := JC.rgt (JC.rgt (JC.rgt (JC.rgt I.J184)))
def IC.bod : IC → IC | .block _ b => IC.bod b | .loop b => b | c => c
def body2 : IC := IC.bod (JC.code (JC.rgt (JC.lft (JC.rgt tailJ))))

structure Walk (m : Nat) (nxt : List (AV × AV)) (first a : Int) (outs : List Int) (s : St) : Prop where
  t6 : s.tm.get 6 = some (.map m)
  t7 : s.tm.get 7 = some (ii first)
  t14 : s.tm.get 14 = some (ii a)
  rm : s.rows.get m = some (.map nxt)
  out : (outs = [] ∧ s.tm.get 13 = some (.nil .slice)) ∨ (outs ≠ [] ∧ ∃ id, id + 1 = s.nx ∧ s.tm.get 13 = some (.slice id 0 outs.length (.op 1)) ∧ s.rows.get id = some (.cells 4 (outs.map ii)) ∧ id ≠ m)
  lt : m < s.nx

theorem step2 {C : CallF} {LF m : Nat} {nxt : List (AV × AV)} {first a y : Int} {outs : List Int} {s : St} (h : Walk m nxt first a outs s) (hlen : outs.length < nxt.length) (hl6 : outs.length < 1000000)
    (hq : findM ⟨false, [.int .i64]⟩ (ii a) nxt = some (some (ii y))) (he : eqA ⟨false, [.int .i64]⟩ (ii a) (ii a) = some true) (hnot : ¬ (a = first ∧ outs ≠ [])) :
    ∃ s', runIC C LF body2 s = some ⟨.normal, s'⟩ ∧ Walk m nxt first y (outs ++ [a]) s' ∧ s'.nx = s.nx + 2 := by
  obtain ⟨t6, t7, t14, rm, out, hlt⟩ := h
  obtain ⟨tm, rows, nx⟩ := s
  simp only at t6 t7 t14 rm out hlt
  simp only [ii] at hq he t7 t14
  have hmn : m ≠ nx := by omega
  have hmn1 : m ≠ nx + 1 := by omega
  have hln : decide ((Int.ofNat outs.length) < Int.ofNat nxt.length) = true := decide_eq_true (by simp only [Int.ofNat_eq_natCast]; omega)
  unfold body2 tailJ
  simp only [I.J184, JC.rgt, JC.lft, JC.code, IC.bod]
  rcases out with ⟨rfl, t13⟩ | ⟨hne, id, hid, t13, rid, hidm⟩
  · have happ : evK [.nil .slice, .slice nx 0 1 (.ex 1)] (rows.set nx (some (.cells 0 [.int .i64 a]))) (nx+1) C (.rare (.append 1 8 4)) = some ⟨.slice (nx+1) 0 1 (.op 1), (rows.set nx (some (.cells 0 [.int .i64 a]))).set (nx+1) (some (.cells 4 [.int .i64 a])), nx + 1 + 1⟩ :=
      x_appN (by rw [T.get_set, if_pos rfl]) (by simp) rfl (by omega) (by omega)
    have hlit : ∀ z, evK [.int .i64 a] rows nx C (.rare (.buildSlice [z] 1 [(0, .one)])) = some ⟨.slice nx 0 1 (.ex 1), rows.set nx (some (.cells 0 [.int .i64 a])), nx + 1⟩ := fun z => x_lit1 z rfl
    have hln : decide (Int.ofNat 0 < Int.ofNat nxt.length) = true := hln
    have hgt : decide (Int.ofNat 0 < Int.ofNat 0) = false := rfl
    have key : ∃ s', runIC C LF (IC.bod (JC.code (JC.rgt (JC.lft (JC.rgt (JC.rgt (JC.rgt (JC.rgt (JC.rgt I.J184))))))))) ⟨tm, rows, nx⟩ = some ⟨.normal, s'⟩ ∧ s'.tm.get 6 = some (.map m) ∧ s'.tm.get 7 = some (.int .i64 first) ∧ s'.tm.get 14 = some (.int .i64 y) ∧ s'.tm.get 13 = some (.slice (nx+1) 0 1 (.op 1)) ∧
        s'.rows = (rows.set nx (some (.cells 0 [.int .i64 a]))).set (nx+1) (some (.cells 4 [.int .i64 a])) ∧ s'.nx = nx + 1 + 1 := by
      simp only [I.J184, JC.rgt, JC.lft, JC.code, IC.bod]
      by_cases ha : a = first
      · have ha0 : decide (a = first) = true := decide_eq_true ha
        simp only [x_ops_nil, x_ops, x_g, s_g, x_nil, x_cons, x_c, s_ev, x_bo, x_gd, x_mv, s_box, s_store2, s_put2, s_asCells, s_load, s_idx, s_ext, s_build2, s_lookup, s_update, s_lenM, x_lss, x_gtr, x_eql, x_not, x_pick, s_rd1, s_rd2, s_mp1, s_mp2, s_want, s_b1, s_b2, s_cond, s_stA, s_stI, s_ceA, x_iops, x_iseq, s_icond, x_iblock, x_iexit, x_iret, x_iskip, T.get_set, Option.getD_some, reduceIte, Nat.reduceEqDiff, eq_self, ii, kk, if_true, if_false, List.getElem?_cons_zero, List.getElem?_cons_succ, Option.getD_none, Option.isSome_some, Option.isSome_none, beq_self_eq_true, Nat.reduceLT, Nat.reduceMul, Nat.reduceAdd, Nat.zero_add, Nat.one_mul, Nat.zero_mul, Bool.false_eq_true, Bool.not_false, Bool.not_true, decide_true, decide_false, t6, t7, t14, rm, t13, x_lenN, hln, hq, he, happ, hlit, ha0, hgt, hmn, hmn1]
        refine ⟨_, rfl, ?_⟩
        simp only [T.get_set, Nat.reduceEqDiff, if_true, if_false, reduceIte, t6, t7, and_self, reduceCtorEq]
      · have ha0 : decide (a = first) = false := decide_eq_false ha
        simp only [x_ops_nil, x_ops, x_g, s_g, x_nil, x_cons, x_c, s_ev, x_bo, x_gd, x_mv, s_box, s_store2, s_put2, s_asCells, s_load, s_idx, s_ext, s_build2, s_lookup, s_update, s_lenM, x_lss, x_gtr, x_eql, x_not, x_pick, s_rd1, s_rd2, s_mp1, s_mp2, s_want, s_b1, s_b2, s_cond, s_stA, s_stI, s_ceA, x_iops, x_iseq, s_icond, x_iblock, x_iexit, x_iret, x_iskip, T.get_set, Option.getD_some, reduceIte, Nat.reduceEqDiff, eq_self, ii, kk, if_true, if_false, List.getElem?_cons_zero, List.getElem?_cons_succ, Option.getD_none, Option.isSome_some, Option.isSome_none, beq_self_eq_true, Nat.reduceLT, Nat.reduceMul, Nat.reduceAdd, Nat.zero_add, Nat.one_mul, Nat.zero_mul, Bool.false_eq_true, Bool.not_false, Bool.not_true, decide_true, decide_false, t6, t7, t14, rm, t13, x_lenN, hln, hq, he, happ, hlit, ha0, hgt, hmn, hmn1]
        refine ⟨_, rfl, ?_⟩
        simp only [T.get_set, Nat.reduceEqDiff, if_true, if_false, reduceIte, t6, t7, and_self, reduceCtorEq]
    obtain ⟨s', k1, k2, k3, k4, k5, k6, k7⟩ := key
    refine ⟨s', k1, ⟨k2, k3, k4, ?_, .inr ⟨by simp, nx + 1, by rw [k7], k5, ?_, by omega⟩, by rw [k7]; omega⟩, k7⟩
    · rw [k6, T.get_set, if_neg hmn1, T.get_set, if_neg hmn]; exact rm
    · rw [k6, T.get_set, if_pos rfl]; rfl
  · have hln' : outs.length ≠ 0 := by simpa using hne
    have hidn : id ≠ nx := by omega
    have hidn1 : id ≠ nx + 1 := by omega
    have happ : evK [.slice id 0 outs.length (.op 1), .slice nx 0 1 (.ex 1)] (rows.set nx (some (.cells 0 [.int .i64 a]))) (nx+1) C (.rare (.append 1 8 4)) = some ⟨.slice (nx+1) 0 (outs.length + 1) (.op 1), ((rows.set nx (some (.cells 0 [.int .i64 a]))).set id none).set (nx+1) (some (.cells 4 (outs.map ii ++ [.int .i64 a]))), nx + 1 + 1⟩ :=
      x_appS (by rw [T.get_set, if_pos rfl]) (by rw [T.get_set, if_neg hidn]; exact rid) (by simp) rfl (by simp) (by omega) (by omega) (by omega)
    have hlit : ∀ z, evK [.int .i64 a] rows nx C (.rare (.buildSlice [z] 1 [(0, .one)])) = some ⟨.slice nx 0 1 (.ex 1), rows.set nx (some (.cells 0 [.int .i64 a])), nx + 1⟩ := fun z => x_lit1 z rfl
    have ha : a ≠ first := fun e => hnot ⟨e, hne⟩
    have ha0 : decide (a = first) = false := decide_eq_false ha
    have key : ∃ s', runIC C LF (IC.bod (JC.code (JC.rgt (JC.lft (JC.rgt (JC.rgt (JC.rgt (JC.rgt (JC.rgt I.J184))))))))) ⟨tm, rows, nx⟩ = some ⟨.normal, s'⟩ ∧ s'.tm.get 6 = some (.map m) ∧ s'.tm.get 7 = some (.int .i64 first) ∧ s'.tm.get 14 = some (.int .i64 y) ∧ s'.tm.get 13 = some (.slice (nx+1) 0 (outs.length + 1) (.op 1)) ∧
        s'.rows = ((rows.set nx (some (.cells 0 [.int .i64 a]))).set id none).set (nx+1) (some (.cells 4 (outs.map ii ++ [.int .i64 a]))) ∧ s'.nx = nx + 1 + 1 := by
      simp only [I.J184, JC.rgt, JC.lft, JC.code, IC.bod]
      simp only [x_ops_nil, x_ops, x_g, s_g, x_nil, x_cons, x_c, s_ev, x_bo, x_gd, x_mv, s_box, s_store2, s_put2, s_asCells, s_load, s_idx, s_ext, s_build2, s_lookup, s_update, s_lenM, x_lss, x_gtr, x_eql, x_not, x_pick, s_rd1, s_rd2, s_mp1, s_mp2, s_want, s_b1, s_b2, s_cond, s_stA, s_stI, s_ceA, x_iops, x_iseq, s_icond, x_iblock, x_iexit, x_iret, x_iskip, T.get_set, Option.getD_some, reduceIte, Nat.reduceEqDiff, eq_self, ii, kk, if_true, if_false, List.getElem?_cons_zero, List.getElem?_cons_succ, Option.getD_none, Option.isSome_some, Option.isSome_none, beq_self_eq_true, Nat.reduceLT, Nat.reduceMul, Nat.reduceAdd, Nat.zero_add, Nat.one_mul, Nat.zero_mul, Bool.false_eq_true, Bool.not_false, Bool.not_true, decide_true, decide_false, t6, t7, t14, rm, t13, x_lenS, hln, hq, he, happ, hlit, ha0, hmn, hmn1, Ne.symm hidm]
      refine ⟨_, rfl, ?_⟩
      simp only [T.get_set, Nat.reduceEqDiff, if_true, if_false, reduceIte, t6, t7, and_self, reduceCtorEq]
    obtain ⟨s', k1, k2, k3, k4, k5, k6, k7⟩ := key
    refine ⟨s', k1, ⟨k2, k3, k4, ?_, .inr ⟨by simp, nx + 1, by rw [k7], by simpa using k5, ?_, by omega⟩, by rw [k7]; omega⟩, k7⟩
    · rw [k6, T.get_set, if_neg hmn1, T.get_set, if_neg (Ne.symm hidm), T.get_set, if_neg hmn]; exact rm
    · rw [k6, T.get_set, if_pos rfl]; simp

theorem over2 {C : CallF} {LF m : Nat} {nxt : List (AV × AV)} {first a : Int} {outs : List Int} {s : St} (h : Walk m nxt first a outs s) (hlen : outs.length = nxt.length) (hne : outs ≠ []) :
    ∃ s', runIC C LF body2 s = some ⟨.exit 2, s'⟩ ∧ s'.nx = s.nx ∧ s'.rows = s.rows ∧ s'.tm.get 13 = s.tm.get 13 := by
  obtain ⟨t6, t7, t14, rm, out, hlt⟩ := h
  obtain ⟨tm, rows, nx⟩ := s
  simp only at t6 t7 t14 rm out hlt
  have hln : decide ((Int.ofNat outs.length) < Int.ofNat nxt.length) = false := decide_eq_false (by simp only [Int.ofNat_eq_natCast]; omega)
  rcases out with ⟨rfl, t13⟩ | ⟨_, id, hid, t13, rid, hidm⟩
  · exact absurd rfl hne
  · unfold body2 tailJ
    simp only [I.J184, JC.rgt, JC.lft, JC.code, IC.bod]
    simp only [x_ops_nil, x_ops, x_g, s_g, x_nil, x_cons, x_c, s_ev, x_bo, x_gd, x_mv, s_box, s_store2, s_put2, s_asCells, s_load, s_idx, s_ext, s_build2, s_lookup, s_update, s_lenM, x_lss, x_gtr, x_eql, x_not, x_pick, s_rd1, s_rd2, s_mp1, s_mp2, s_want, s_b1, s_b2, s_cond, s_stA, s_stI, s_ceA, x_iops, x_iseq, s_icond, x_iblock, x_iexit, x_iret, x_iskip, T.get_set, Option.getD_some, reduceIte, Nat.reduceEqDiff, eq_self, ii, kk, if_true, if_false, List.getElem?_cons_zero, List.getElem?_cons_succ, Option.getD_none, Option.isSome_some, Option.isSome_none, beq_self_eq_true, Nat.reduceLT, Nat.reduceMul, Nat.reduceAdd, Nat.zero_add, Nat.one_mul, Nat.zero_mul, Bool.false_eq_true, Bool.not_false, Bool.not_true, decide_true, decide_false, t6, t7, t14, rm, t13, x_lenS, hln]
    refine ⟨_, rfl, ?_⟩
    simp only [T.get_set, Nat.reduceEqDiff, if_true, if_false, reduceIte, t13, and_self]
end Ev.Ou
end

/- The border of a mesh, in plain lists: the sides that have no other, where the border begins, the walk along it; none of it hangs on the order. -/
section
namespace Ev
open Go

abbrev ii (n : Int) : AV := .int .i64 n
abbrev kk (p : Int × Int) : AV := .agg [ii p.1, ii p.2]
abbrev sh1 : Sh := ⟨false, [.int .i64]⟩
abbrev sh2 : Sh := ⟨true, [.int .i64, .int .i64]⟩

def decK (k : AV) : Option (Int × Int) := match k with
  | .agg l => (match l with
    | [x, y] => asInt x fun j a => asInt y fun k c => gd ((j == .i64) && ((k == .i64) && (inR .i64 a && inR .i64 c))) (some (a, c))
    | _ => none)
  | _ => none
def decP (k : AV) : Int × Int := (decK k).getD (0, 0)
theorem decK_some {k : AV} {p : Int × Int} (h : decK k = some p) : k = kk p ∧ inR .i64 p.1 = true ∧ inR .i64 p.2 = true := by
  unfold decK at h
  split at h
  · split at h
    · obtain ⟨j, a, rfl, h1⟩ := asInt_some.1 h
      obtain ⟨k, c, rfl, h2⟩ := asInt_some.1 h1
      obtain ⟨h3, h4⟩ := gd_some.1 h2
      cases h4
      simp only [Bool.and_eq_true, beq_iff_eq] at h3
      obtain ⟨rfl, rfl, h5, h6⟩ := h3
      exact ⟨rfl, h5, h6⟩
    · cases h
  · cases h

/-- No side goes the other way. -/
noncomputable def border (es : List (AV × AV)) (p : Int × Int) : Bool := match findM sh2 (kk (p.2, p.1)) es with | some none => true | _ => false
noncomputable def bdr (es d : List (AV × AV)) : List (Int × Int) := (d.map fun x => decP x.1).filter (border es)
def nextOf (l : List (Int × Int)) : List (AV × AV) := l.map fun x => (ii x.1, ii x.2)
def firstOf (l : List (Int × Int)) : Int := l.foldl (fun f p => if f < 0 ∨ p.1 < f then p.1 else f) (-1)
def look (l : List (Int × Int)) (a : Int) : Option Int := (l.find? fun x => decide (a = x.1)).map (·.2)
def walkL (l : List (Int × Int)) (first : Int) : Nat → Int → List Int → Option (List Int)
  | 0, _, out => some out
  | j + 1, a, out => match look l a with
    | none => none
    | some y => if a = first ∧ out ≠ [] then none else walkL l first j y (out ++ [a])

def nonNeg (l : List (Int × Int)) : Bool := l.all fun x => decide (0 ≤ x.1)
def keysOK (es : List (AV × AV)) : Bool := es.all fun x => (decK x.1).isSome
def nodupB : List Int → Bool
  | [] => true
  | a :: l => l.all (fun b => !decide (a = b)) && nodupB l
theorem nodupB_ok : ∀ {l : List Int}, nodupB l = true → l.Nodup
  | [], _ => .nil
  | a :: l, h => by
    simp only [nodupB, Bool.and_eq_true, List.all_eq_true, Bool.not_eq_true', decide_eq_false_iff_not] at h
    exact List.nodup_cons.2 ⟨fun hm => h.1 a hm rfl, nodupB_ok h.2⟩

theorem find_perm {a : Int} {l l' : List (Int × Int)} (h : l.Perm l') (hn : (l.map (·.1)).Nodup) : l.find? (fun x => decide (a = x.1)) = l'.find? (fun x => decide (a = x.1)) := by
  induction h with
  | nil => rfl
  | cons x _ ih =>
    have hn' := List.nodup_cons.1 hn
    simp only [List.find?_cons]
    cases decide (a = x.1) with
    | true => rfl
    | false => exact ih hn'.2
  | swap x y l =>
    have hn' := List.nodup_cons.1 hn
    have hxy : y.1 ≠ x.1 := fun e => hn'.1 (by simp [e])
    simp only [List.find?_cons]
    by_cases hx : a = x.1 <;> by_cases hy : a = y.1 <;> simp [hx, hy]
    · exact absurd (hy.symm.trans hx) hxy
    · rw [← hx]; simp [hy]
    · rw [← hy]; simp [hx]
  | trans h1 h2 ih1 ih2 =>
    rw [ih1 hn, ih2 ((h1.map _).nodup_iff.1 hn)]

theorem look_perm {l l' : List (Int × Int)} (h : l.Perm l') (hn : (l.map (·.1)).Nodup) (a : Int) : look l a = look l' a := by unfold look; rw [find_perm h hn]
theorem walkL_perm {l l' : List (Int × Int)} (h : l.Perm l') (hn : (l.map (·.1)).Nodup) (first : Int) : ∀ (j : Nat) (a : Int) (out : List Int), walkL l first j a out = walkL l' first j a out
  | 0, _, _ => rfl
  | j + 1, a, out => by
    unfold walkL
    rw [look_perm h hn]
    cases look l' a with
    | none => rfl
    | some y => simp only [walkL_perm h hn first j y]
theorem firstOf_perm {l l' : List (Int × Int)} (h : l.Perm l') (hn : ∀ x ∈ l, 0 ≤ x.1) : firstOf l = firstOf l' := by
  unfold firstOf
  refine h.foldl_eq' (fun x hx y hy z => ?_) (-1)
  have h1 := hn x hx
  have h2 := hn y hy
  by_cases c1 : z < 0 ∨ x.1 < z <;> by_cases c2 : z < 0 ∨ y.1 < z <;> simp only [c1, c2, if_true, if_false]
  all_goals
    split <;> (try split) <;> omega
theorem firstOf_snoc (l : List (Int × Int)) (p : Int × Int) : firstOf (l ++ [p]) = if firstOf l < 0 ∨ p.1 < firstOf l then p.1 else firstOf l := by
  unfold firstOf; rw [List.foldl_append]; rfl

theorem bdr_snoc (es d : List (AV × AV)) (x : AV × AV) : bdr es (d ++ [x]) = if border es (decP x.1) = true then bdr es d ++ [decP x.1] else bdr es d := by
  unfold bdr
  rw [List.map_append, List.filter_append]
  cases h : border es (decP x.1) <;> simp [h]
theorem bdr_perm {es d d' : List (AV × AV)} (h : d.Perm d') : (bdr es d).Perm (bdr es d') := (h.map _).filter _
theorem find_next {l : List (Int × Int)} (hl : ∀ x ∈ l, inR .i64 x.1 = true) {a : Int} (ha : inR .i64 a = true) : findM sh1 (ii a) (nextOf l) = some ((look l a).map ii) := by
  unfold nextOf look
  rw [x_findI (key := fun x : Int × Int => x.1) (val := fun x => ii x.2) a ha l hl, Option.map_map]
  rfl
theorem look_mem {l : List (Int × Int)} {a y : Int} (h : look l a = some y) : (a, y) ∈ l := by
  unfold look at h
  obtain ⟨x, hx, rfl⟩ := Option.map_eq_some_iff.1 h
  have h1 := List.mem_of_find?_eq_some hx
  have h2 := List.find?_some hx
  simp only [decide_eq_true_eq] at h2
  rw [h2]; exact h1
end Ev
end

/- The border of a mesh: the whole function, as an answer that needs no run. -/
section
namespace Ev.Ou
open Go Ev

theorem JR_ic {C : CallF} {LF : Nat} {kb : List Nat} {c : IC} {b : JC} {s s' : St} {X : XS → Prop} (h : runIC C LF c s = some ⟨.normal, s'⟩) (hb : JRuns C LF kb b s' X) : JRuns C LF kb (.seq (.ic c) b) s X := ⟨_, h, hb⟩

theorem loop2 {C : CallF} {LF m : Nat} {l : List (Int × Int)} {first : Int} (hl : ∀ x ∈ l, inR .i64 x.1 = true ∧ inR .i64 x.2 = true) (hsz : l.length < 1000000) :
    ∀ (j : Nat) (outs res : List Int) (a : Int) (s : St) (k : Nat), Walk m (nextOf l) first a outs s → outs.length + j = l.length → l ≠ [] → inR .i64 a = true → walkL l first j a outs = some res → j < k →
      ∃ s' id, iter (runIC C LF body2) k s = some ⟨.exit 2, s'⟩ ∧ s'.nx = s.nx + 2 * j ∧ id + 1 = s'.nx ∧ s'.tm.get 13 = some (.slice id 0 res.length (.op 1)) ∧ s'.rows.get id = some (.cells 4 (res.map ii)) ∧ res.length = l.length := by
  have hnl : (nextOf l).length = l.length := by simp [nextOf]
  intro j
  induction j with
  | zero =>
    intro outs res a s k hw hlen hne ha hres hk
    obtain ⟨k, rfl⟩ : ∃ k', k = k' + 1 := ⟨k - 1, by omega⟩
    have hon : outs ≠ [] := fun e => hne (List.eq_nil_of_length_eq_zero (by rw [e] at hlen; simpa using hlen.symm))
    obtain ⟨s', h1, h2, h3, h4⟩ := over2 (C := C) (LF := LF) hw (by rw [hnl]; simpa using hlen) hon
    simp only [walkL, Option.some.injEq] at hres
    subst hres
    rcases hw.out with ⟨e, _⟩ | ⟨_, id, q1, q2, q3, _⟩
    · exact absurd e hon
    · refine ⟨s', id, by rw [x_iter, h1]; rfl, by omega, by omega, by rw [h4]; exact q2, by rw [h3]; exact q3, by simpa using hlen⟩
  | succ j ih =>
    intro outs res a s k hw hlen hne ha hres hk
    obtain ⟨k, rfl⟩ : ∃ k', k = k' + 1 := ⟨k - 1, by omega⟩
    simp only [walkL] at hres
    cases hy : look l a with
    | none => rw [hy] at hres; cases hres
    | some y =>
      rw [hy] at hres
      simp only at hres
      by_cases hc : a = first ∧ outs ≠ []
      · rw [if_pos hc] at hres; cases hres
      · rw [if_neg hc] at hres
        have hq : findM sh1 (ii a) (nextOf l) = some (some (ii y)) := by rw [find_next (fun x hx => (hl x hx).1) ha, hy]; rfl
        obtain ⟨s1, h1, h2, h3⟩ := step2 (C := C) (LF := LF) hw (by rw [hnl]; omega) (by omega) hq (by rw [x_eqI ha ha]; simp) hc
        obtain ⟨s', id, g1, g2, g3, g4, g5, g6⟩ := ih (outs ++ [a]) res y s1 k h2 (by simp; omega) hne (hl _ (look_mem hy)).2 hres (by omega)
        exact ⟨s', id, by rw [x_iter, h1]; exact g1, by omega, g3, g4, g5, g6⟩

/-- What is asked of the sides. -/
noncomputable def fits (es : List (AV × AV)) : Bool := keysOK es && (inR .i64 (firstOf (bdr es es)) && nonNeg (bdr es es) && (nodupB ((bdr es es).map (·.1)) && Nat.ble es.length 100000))

theorem mem_bdr {es d : List (AV × AV)} (hk : keysOK es = true) (hd : ∀ x ∈ d, x ∈ es) : ∀ p ∈ bdr es d, inR .i64 p.1 = true ∧ inR .i64 p.2 = true := by
  intro p hp
  obtain ⟨h1, _⟩ := List.mem_filter.1 hp
  obtain ⟨x, hx, rfl⟩ := List.mem_map.1 h1
  have := List.all_eq_true.1 hk x (hd x hx)
  obtain ⟨q, hq⟩ := Option.isSome_iff_exists.1 this
  obtain ⟨_, h2, h3⟩ := decK_some hq
  unfold decP
  rw [hq]
  exact ⟨h2, h3⟩

theorem outer_J {C : CallF} {LF b nx : Nat} {rows : T ARow} {x : AV} {es : List (AV × AV)} {res : List Int} {X : XS → Prop} (hx : x.stored = true) (hbn : b < nx) (hb : rows.get b = some (.roM es)) (hfit : fits es = true) (hne : bdr es es ≠ [])
    (hw : walkL (bdr es es) (firstOf (bdr es es)) (bdr es es).length (firstOf (bdr es es)) [] = some res) (hLF : es.length < LF)
    (hX : ∀ s' id, s'.nx = nx + 3 + es.length + 2 * res.length → id + 1 = s'.nx → s'.rows.get id = some (.cells 4 (res.map ii)) → s'.tm.get 4 = some (.slice id 0 res.length (.op 1)) → s'.tm.get 5 = some (.bool true) → X ⟨.ret, s'⟩) :
    JRuns C LF [b] I.J184 ⟨argsT [x, .map b] 0 .nil, rows, nx⟩ X := by
  simp only [fits, Bool.and_eq_true, ble_nat, decide_eq_true_eq] at hfit
  obtain ⟨hk, ⟨hfi, hnn⟩, hnd, hsz⟩ := hfit
  have hnd := nodupB_ok hnd
  have hnn : ∀ p ∈ bdr es es, 0 ≤ p.1 := fun p hp => by
    have := List.all_eq_true.1 hnn p hp
    simpa using this
  -- the beginning
  obtain ⟨s1, r1, a1, a2, a3⟩ : ∃ s1, runIC C LF (JC.code (JC.lft I.J184)) ⟨argsT [x, .map b] 0 .nil, rows, nx⟩ = some ⟨.normal, s1⟩ ∧ s1.tm.get 1 = some (.map b) ∧ s1.rows.get b = some (.roM es) ∧ s1.nx = nx + 1 := by
    have h0 : (argsT [x, .map b] 0 .nil).get 0 = some x ∧ (argsT [x, .map b] 0 .nil).get 1 = some (.map b) := ⟨rfl, rfl⟩
    generalize argsT [x, .map b] 0 .nil = tm at h0
    obtain ⟨h0, h1⟩ := h0
    simp only [I.J184, JC.lft, JC.code]
    simp only [x_ops_nil, x_ops, x_g, s_g, x_nil, x_cons, x_c, s_ev, x_bo, x_gd, x_mv, s_box, s_store2, s_put2, s_asCells, s_load, s_idx, s_ext, s_build2, s_lookup, s_update, s_lenM, x_lss, x_gtr, x_eql, x_not, x_pick, s_rd1, s_rd2, s_mp1, s_mp2, s_want, s_b1, s_b2, s_cond, s_stA, s_stI, s_ceA, x_iops, x_iseq, s_icond, x_iblock, x_iexit, x_iret, x_iskip, T.get_set, Option.getD_some, reduceIte, Nat.reduceEqDiff, eq_self, ii, kk, if_true, if_false, List.getElem?_cons_zero, List.getElem?_cons_succ, Option.getD_none, Option.isSome_some, Option.isSome_none, beq_self_eq_true, Nat.reduceLT, Nat.reduceMul, Nat.reduceAdd, Nat.zero_add, Nat.one_mul, Nat.zero_mul, Bool.false_eq_true, Bool.not_false, Bool.not_true, decide_true, decide_false, h0, h1, hx]
    refine ⟨_, rfl, ?_⟩
    simp only [T.get_set, Nat.reduceEqDiff, if_true, if_false, reduceIte, h1, hb, show b ≠ nx by omega, and_self]
  obtain ⟨s2, r2, b1, b6, b2, b5, b3⟩ : ∃ s2, runIC C LF (JC.code (JC.lft (JC.rgt I.J184))) s1 = some ⟨.normal, s2⟩ ∧ s2.tm.get 1 = some (.map b) ∧ s2.tm.get 6 = some (.map (nx + 1)) ∧ s2.rows.get b = some (.roM es) ∧ s2.rows.get (nx + 1) = some (.map []) ∧ s2.nx = nx + 2 := by
    obtain ⟨tm, rows1, nx1⟩ := s1
    simp only at a1 a2 a3
    subst a3
    simp only [I.J184, JC.rgt, JC.lft, JC.code]
    simp only [x_ops_nil, x_ops, x_g, s_g, x_nil, x_cons, x_c, s_ev, x_bo, x_gd, x_mv, s_box, s_store2, s_put2, s_asCells, s_load, s_idx, s_ext, s_build2, s_lookup, s_update, s_lenM, x_lss, x_gtr, x_eql, x_not, x_pick, s_rd1, s_rd2, s_mp1, s_mp2, s_want, s_b1, s_b2, s_cond, s_stA, s_stI, s_ceA, x_iops, x_iseq, s_icond, x_iblock, x_iexit, x_iret, x_iskip, T.get_set, Option.getD_some, reduceIte, Nat.reduceEqDiff, eq_self, ii, kk, if_true, if_false, List.getElem?_cons_zero, List.getElem?_cons_succ, Option.getD_none, Option.isSome_some, Option.isSome_none, beq_self_eq_true, Nat.reduceLT, Nat.reduceMul, Nat.reduceAdd, Nat.zero_add, Nat.one_mul, Nat.zero_mul, Bool.false_eq_true, Bool.not_false, Bool.not_true, decide_true, decide_false, x_makeMap, a1]
    refine ⟨_, rfl, ?_⟩
    simp only [T.get_set, Nat.reduceEqDiff, if_true, if_false, reduceIte, a1, a2, show b ≠ nx + 1 by omega, and_self]
  obtain ⟨s3, r3, c1, c6, c7, c2, c5, c3⟩ : ∃ s3, runIC C LF (JC.code (JC.lft (JC.rgt (JC.rgt I.J184)))) s2 = some ⟨.normal, s3⟩ ∧ s3.tm.get 1 = some (.map b) ∧ s3.tm.get 6 = some (.map (nx + 1)) ∧ s3.tm.get 7 = some (ii (-1)) ∧ s3.rows.get b = some (.roM es) ∧ s3.rows.get (nx + 1) = some (.map []) ∧ s3.nx = nx + 2 := by
    obtain ⟨tm, rows1, nx1⟩ := s2
    simp only at b1 b2 b3 b5 b6
    subst b3
    simp only [I.J184, JC.rgt, JC.lft, JC.code]
    simp only [x_ops_nil, x_ops, x_g, s_g, x_nil, x_cons, x_c, s_ev, x_bo, x_gd, x_mv, s_box, s_store2, s_put2, s_asCells, s_load, s_idx, s_ext, s_build2, s_lookup, s_update, s_lenM, x_lss, x_gtr, x_eql, x_not, x_pick, s_rd1, s_rd2, s_mp1, s_mp2, s_want, s_b1, s_b2, s_cond, s_stA, s_stI, s_ceA, x_iops, x_iseq, s_icond, x_iblock, x_iexit, x_iret, x_iskip, T.get_set, Option.getD_some, reduceIte, Nat.reduceEqDiff, eq_self, ii, kk, if_true, if_false, List.getElem?_cons_zero, List.getElem?_cons_succ, Option.getD_none, Option.isSome_some, Option.isSome_none, beq_self_eq_true, Nat.reduceLT, Nat.reduceMul, Nat.reduceAdd, Nat.zero_add, Nat.one_mul, Nat.zero_mul, Bool.false_eq_true, Bool.not_false, Bool.not_true, decide_true, decide_false]
    refine ⟨_, rfl, ?_⟩
    simp only [T.get_set, Nat.reduceEqDiff, if_true, if_false, reduceIte, b1, b2, b5, b6, and_self]
    exact ⟨trivial, trivial, rfl, trivial⟩
  refine JR_ic r1 (JR_ic r2 (JR_ic r3 ?_))
  obtain ⟨tm3, rows3, nx3⟩ := s3
  simp only at c1 c2 c3 c5 c6 c7
  subst c3
  -- the range over the sides
  let Inv : List (AV × AV) → St → Prop := fun d s' => Live (nx + 2) b (nx + 1) es (nextOf (bdr es d)) (firstOf (bdr es d)) s' ∧ s'.nx = nx + 3 + d.length
  refine .inr ⟨b, es, Inv, c1, c2, by simp, ⟨⟨?_, ?_, ?_, ?_, ?_, ?_⟩, rfl⟩, fun d s' h => h.1.t19, fun d k v l s' hI hp => ?_, fun d s' hI hp => ?_⟩
  · simp only [rangeSt, T.get_set, Nat.reduceEqDiff, if_true, if_false, reduceIte, c1]
  · simp only [rangeSt, T.get_set, Nat.reduceEqDiff, if_true, if_false, reduceIte, c6]
  · simp only [rangeSt, T.get_set, Nat.reduceEqDiff, if_true, if_false, reduceIte, c7]; rfl
  · simp only [rangeSt, T.get_set, Nat.reduceEqDiff, if_true, if_false, reduceIte]
  · exact c2
  · exact c5
  · obtain ⟨hl, hnx⟩ := hI
    have hmem : ∀ y ∈ d ++ (k, v) :: l, y ∈ es := fun y hy => hp.mem_iff.1 hy
    obtain ⟨p, hpk⟩ := Option.isSome_iff_exists.1 (List.all_eq_true.1 hk (k, v) (hmem _ (by simp)))
    obtain ⟨rfl, hp1, hp2⟩ := decK_some hpk
    have hdec : decP (kk p) = p := by unfold decP; rw [hpk]; rfl
    have hin : ∀ y ∈ bdr es d, inR .i64 y.1 = true ∧ inR .i64 y.2 = true := mem_bdr hk fun y hy => hmem y (by simp [hy])
    have hf2 : ∃ q, findM sh2 (kk (p.2, p.1)) es = some q := by
      have key : ∀ es' : List (AV × AV), (∀ y ∈ es', (decK y.1).isSome = true) → ∃ q, findM sh2 (kk (p.2, p.1)) es' = some q := by
        intro es'
        induction es' with
        | nil => intro _; exact ⟨_, rfl⟩
        | cons y es' ih =>
          intro hy
          obtain ⟨q, hq⟩ := ih fun z hz => hy z (by simp [hz])
          obtain ⟨r, hr⟩ := Option.isSome_iff_exists.1 (hy y (by simp))
          obtain ⟨h1, h2, h3⟩ := decK_some hr
          show ∃ q, bo (eqA sh2 (kk (p.2, p.1)) y.1) (fun b => Bool.rec (findM sh2 (kk (p.2, p.1)) es') (some (some y.2)) b) = some q
          rw [h1, x_eq2 hp2 hp1 h2 h3]
          cases decide ((p.2, p.1) = (r.1, r.2)) with
          | true => exact ⟨_, rfl⟩
          | false => exact ⟨q, hq⟩
      exact key es fun y hy => List.all_eq_true.1 hk y hy
    obtain ⟨q, hq⟩ := hf2
    have hbord : border es p = q.isNone := by
      unfold border; rw [hq]; cases q <;> rfl
    obtain ⟨s5, y, q1, q2, q3, q4⟩ := round (C := C) (LF := LF) hl (p := p) (v := v) (q := q) (by omega) (by omega) (by omega) (by rw [x_eq2 hp2 hp1 hp2 hp1]; simp) (by rw [x_eqI hp1 hp1]; simp) hq (fun e => by
      subst e
      rw [find_next (fun z hz => (hin z hz).1) hp1]
      have : look (bdr es d) p.1 = none := by
        cases hlk : look (bdr es d) p.1 with
        | none => rfl
        | some z =>
          exfalso
          have hm := look_mem hlk
          have hpm := (bdr_perm (es := es) hp).map (·.1)
          have hnd' := (hpm.nodup_iff).2 hnd
          have hs : bdr es (d ++ (kk p, v) :: l) = bdr es d ++ p :: bdr es l := by
            unfold bdr
            rw [List.map_append, List.filter_append, List.map_cons, List.filter_cons]
            simp only [hdec, hbord, Option.isNone_none, if_true]
          rw [hs, List.map_append, List.map_cons] at hnd'
          have := (List.nodup_append.1 hnd').2.2 p.1 (List.mem_map.2 ⟨_, hm, rfl⟩) p.1 (by simp)
          exact this rfl
      rw [this]; rfl)
    refine ⟨s5, y, q1, q2, ?_⟩
    have hlen : y.s.nx = nx + 3 + (d ++ [(kk p, v)]).length := by rw [q3, hnx]; simp; omega
    cases q with
    | some u =>
      obtain ⟨h1, h2⟩ := q4
      rw [h1]
      have : bdr es (d ++ [(kk p, v)]) = bdr es d := by rw [bdr_snoc, hdec, hbord]; rfl
      exact ⟨rfl, by rw [this]; exact h2, hlen⟩
    | none =>
      obtain ⟨h1, h2⟩ := q4
      rw [h1]
      have : bdr es (d ++ [(kk p, v)]) = bdr es d ++ [p] := by rw [bdr_snoc, hdec, hbord]; rfl
      refine ⟨?_, hlen⟩
      rw [this, firstOf_snoc]
      have e2 : nextOf (bdr es d ++ [p]) = nextOf (bdr es d) ++ [(ii p.1, ii p.2)] := by simp [nextOf]
      rw [e2]; exact h2
  · -- the walk
    obtain ⟨hl, hnx⟩ := hI
    have hpb := bdr_perm (es := es) hp
    have hdl : d.length = es.length := hp.length_eq
    have hin : ∀ y ∈ bdr es d, inR .i64 y.1 = true ∧ inR .i64 y.2 = true := mem_bdr hk fun y hy => hp.mem_iff.1 hy
    have hnd' : ((bdr es d).map (·.1)).Nodup := ((hpb.map _).nodup_iff).2 hnd
    have hfp : firstOf (bdr es d) = firstOf (bdr es es) := firstOf_perm hpb fun y hy => hnn y (hpb.mem_iff.1 hy)
    have hw' : walkL (bdr es d) (firstOf (bdr es d)) (bdr es d).length (firstOf (bdr es d)) [] = some res := by
      rw [hfp, walkL_perm hpb hnd', hpb.length_eq]; exact hw
    have hne' : bdr es d ≠ [] := fun e => hne (by rw [e] at hpb; exact hpb.nil_eq.symm)
    have hbl : (bdr es d).length ≤ es.length := by
      have := (List.filter_sublist (l := d.map fun x => decP x.1) (p := border es)).length_le
      rw [List.length_map, hdl] at this
      exact this
    obtain ⟨u1, u6, u7, u19, ub, um⟩ := hl
    have hfi' : inR .i64 (firstOf (bdr es d)) = true := by rw [hfp]; exact hfi
    generalize hL : bdr es d = l at *
    obtain ⟨s4, r4, d6, d7, d13, dm, d3⟩ : ∃ s4, runIC C LF (JC.code (JC.lft tailJ)) (overSt s' 20 21) = some ⟨.normal, s4⟩ ∧ s4.tm.get 6 = some (.map (nx + 1)) ∧ s4.tm.get 7 = some (.int .i64 (firstOf l)) ∧ s4.tm.get 13 = some (.nil .slice) ∧ s4.rows.get (nx + 1) = some (.map (nextOf l)) ∧ s4.nx = s'.nx := by
      obtain ⟨tm, rows1, nx1⟩ := s'
      simp only at u6 u7 um
      unfold tailJ
      simp only [I.J184, JC.rgt, JC.lft, JC.code, overSt]
      simp only [x_ops_nil, x_ops, x_g, s_g, x_nil, x_cons, x_c, s_ev, x_bo, x_gd, x_mv, s_box, s_store2, s_put2, s_asCells, s_load, s_idx, s_ext, s_build2, s_lookup, s_update, s_lenM, x_lss, x_gtr, x_eql, x_not, x_pick, s_rd1, s_rd2, s_mp1, s_mp2, s_want, s_b1, s_b2, s_cond, s_stA, s_stI, s_ceA, x_iops, x_iseq, s_icond, x_iblock, x_iexit, x_iret, x_iskip, T.get_set, Option.getD_some, reduceIte, Nat.reduceEqDiff, eq_self, ii, kk, if_true, if_false, List.getElem?_cons_zero, List.getElem?_cons_succ, Option.getD_none, Option.isSome_some, Option.isSome_none, beq_self_eq_true, Nat.reduceLT, Nat.reduceMul, Nat.reduceAdd, Nat.zero_add, Nat.one_mul, Nat.zero_mul, Bool.false_eq_true, Bool.not_false, Bool.not_true, decide_true, decide_false]
      refine ⟨_, rfl, ?_⟩
      simp only [T.get_set, Nat.reduceEqDiff, if_true, if_false, reduceIte, u6, u7, um, and_self]
    obtain ⟨s5, r5, e6, e7, e14, e13, em, e3⟩ : ∃ s5, runIC C LF (JC.code (JC.lft (JC.lft (JC.rgt tailJ)))) s4 = some ⟨.normal, s5⟩ ∧ s5.tm.get 6 = some (.map (nx + 1)) ∧ s5.tm.get 7 = some (.int .i64 (firstOf l)) ∧ s5.tm.get 14 = some (.int .i64 (firstOf l)) ∧ s5.tm.get 13 = some (.nil .slice) ∧ s5.rows.get (nx + 1) = some (.map (nextOf l)) ∧ s5.nx = s'.nx := by
      obtain ⟨tm, rows1, nx1⟩ := s4
      simp only at d6 d7 d13 dm d3
      unfold tailJ
      simp only [I.J184, JC.rgt, JC.lft, JC.code]
      simp only [x_ops_nil, x_ops, x_g, s_g, x_nil, x_cons, x_c, s_ev, x_bo, x_gd, x_mv, s_box, s_store2, s_put2, s_asCells, s_load, s_idx, s_ext, s_build2, s_lookup, s_update, s_lenM, x_lss, x_gtr, x_eql, x_not, x_pick, s_rd1, s_rd2, s_mp1, s_mp2, s_want, s_b1, s_b2, s_cond, s_stA, s_stI, s_ceA, x_iops, x_iseq, s_icond, x_iblock, x_iexit, x_iret, x_iskip, T.get_set, Option.getD_some, reduceIte, Nat.reduceEqDiff, eq_self, ii, kk, if_true, if_false, List.getElem?_cons_zero, List.getElem?_cons_succ, Option.getD_none, Option.isSome_some, Option.isSome_none, beq_self_eq_true, Nat.reduceLT, Nat.reduceMul, Nat.reduceAdd, Nat.zero_add, Nat.one_mul, Nat.zero_mul, Bool.false_eq_true, Bool.not_false, Bool.not_true, decide_true, decide_false, d7]
      refine ⟨_, rfl, ?_⟩
      simp only [T.get_set, Nat.reduceEqDiff, if_true, if_false, reduceIte, d6, d7, d13, dm, d3, and_self]
    have hW : Walk (nx + 1) (nextOf l) (firstOf l) (firstOf l) [] s5 := ⟨e6, e7, e14, em, .inl ⟨rfl, e13⟩, by omega⟩
    obtain ⟨s6, id, r6, f3, fid, f13, frow, flen⟩ := loop2 (C := C) (LF := LF) hin (by omega) l.length [] res (firstOf l) s5 LF hW (by simp) hne' hfi' hw' (by omega)
    obtain ⟨s7, r7, g4, g5', grow, g3⟩ : ∃ s7, runIC C LF (JC.code (JC.lft (JC.rgt (JC.rgt tailJ)))) s6 = some ⟨.normal, s7⟩ ∧ s7.tm.get 4 = some (.slice id 0 res.length (.op 1)) ∧ s7.tm.get 5 = some (.bool true) ∧ s7.rows = s6.rows ∧ s7.nx = s6.nx := by
      obtain ⟨tm, rows1, nx1⟩ := s6
      simp only at f13 frow f3
      have hpos : decide (Int.ofNat 0 < Int.ofNat res.length) = true := decide_eq_true (by
        have : 0 < l.length := List.length_pos_iff.2 hne'
        simp only [Int.ofNat_eq_natCast]; omega)
      unfold tailJ
      simp only [I.J184, JC.rgt, JC.lft, JC.code]
      simp only [x_ops_nil, x_ops, x_g, s_g, x_nil, x_cons, x_c, s_ev, x_bo, x_gd, x_mv, s_box, s_store2, s_put2, s_asCells, s_load, s_idx, s_ext, s_build2, s_lookup, s_update, s_lenM, x_lss, x_gtr, x_eql, x_not, x_pick, s_rd1, s_rd2, s_mp1, s_mp2, s_want, s_b1, s_b2, s_cond, s_stA, s_stI, s_ceA, x_iops, x_iseq, s_icond, x_iblock, x_iexit, x_iret, x_iskip, T.get_set, Option.getD_some, reduceIte, Nat.reduceEqDiff, eq_self, ii, kk, if_true, if_false, List.getElem?_cons_zero, List.getElem?_cons_succ, Option.getD_none, Option.isSome_some, Option.isSome_none, beq_self_eq_true, Nat.reduceLT, Nat.reduceMul, Nat.reduceAdd, Nat.zero_add, Nat.one_mul, Nat.zero_mul, Bool.false_eq_true, Bool.not_false, Bool.not_true, decide_true, decide_false, f13, x_lenS, hpos]
      refine ⟨_, rfl, ?_⟩
      simp only [T.get_set, Nat.reduceEqDiff, if_true, if_false, reduceIte, and_self]
    refine JR_ic (c := JC.code (JC.lft tailJ)) (b := JC.rgt tailJ) r4 ?_
    show JRuns C LF [b] (.seq (.seq (.ic (JC.code (JC.lft (JC.lft (JC.rgt tailJ))))) (.ic (.block 2 (.loop body2)))) (.seq (.ic (JC.code (JC.lft (JC.rgt (JC.rgt tailJ))))) (.ic .ret))) s4 X
    refine JR_ic (b := .ic (.block 2 (.loop body2))) r5 ⟨⟨.normal, s6⟩, ?_, ?_⟩
    · rw [x_iblock, x_iloop, r6]; rfl
    · exact JR_ic r7 ⟨_, rfl, hX s7 id (by omega) (by omega) (by rw [grow]; exact frow) g4 g5'⟩
end Ev.Ou
end

/- The border of a mesh as an oracle. -/
section
namespace Ev.Ou
open Go Ev
set_option maxRecDepth 100000

noncomputable def oOuter : Orc := fun args rows nx => match args with
  | x :: m :: l => (match m with
    | .map b => (match l with
      | [] => gd x.stored (bo (mpO (rows.get b)) fun es => gd (fits es) (match bdr es es with
        | [] => none
        | p :: ps => bo (walkL (p :: ps) (firstOf (p :: ps)) (ps.length + 1) (firstOf (p :: ps)) []) fun res =>
          some ⟨.tup [.slice (nx + 2 + es.length + 2 * res.length) 0 res.length (.op 1), .bool true], rows.set (nx + 2 + es.length + 2 * res.length) (some (.cells 4 (res.map ii))), nx + 3 + es.length + 2 * res.length⟩))
      | _ => none)
    | _ => none)
  | _ => none

theorem outer_at : jAt Go.Proofs.Tryz.prog 184 = some (93, I.J184, [(4, none), (5, none)]) := by kernel_rfl

theorem outer_ok (hm : Go.Proofs.Tryz.prog.follows .mixedOrders = true) (B : Base) : OrcOK B Go.Proofs.Tryz.prog 184 oOuter := by
  refine orc_J (K := fun _ => True) trivial (fun _ _ _ _ _ => trivial) (P := Go.Proofs.Tryz.prog) (f := 184) (n := 93) (j := I.J184) (rs := [(4, none), (5, none)]) hm outer_at noC 1000000 (fun _ _ => noC_ok) fun args rows nx r he => ?_
  unfold oOuter at he
  split at he <;> try (cases he; done)
  split at he <;> try (cases he; done)
  split at he <;> try (cases he; done)
  rename_i _ x _ _ b _
  obtain ⟨hx, he⟩ := gd_some.1 he
  obtain ⟨es, hes, he⟩ := bo_some.1 he
  obtain ⟨hfit, he⟩ := gd_some.1 he
  split at he <;> try (cases he; done)
  rename_i p ps hb
  obtain ⟨res, hw, he⟩ := bo_some.1 he
  simp only [Option.some.injEq] at he
  subst he
  refine ⟨b, es, ?_, by simp, fun hbn => ?_⟩
  · unfold mpO at hes
    split at hes
    · cases hes; exact .inl (by assumption)
    · cases hes; exact .inr (by assumption)
    · cases hes
  · have hsz : es.length < 1000000 := by
      simp only [fits, Bool.and_eq_true, ble_nat, decide_eq_true_eq] at hfit
      omega
    refine outer_J hx hbn (by rw [T.get_set, if_pos rfl]) hfit (by rw [hb]; simp) (by rw [hb]; exact hw) hsz fun s' id h1 h2 h3 h4 h5 => ?_
    have hid : id = nx + 2 + es.length + 2 * res.length := by omega
    subst hid
    refine ⟨fun id => by simp, [.slice (nx + 2 + es.length + 2 * res.length) 0 res.length (.op 1), .bool true], ?_, rfl, h1, fun b' q hq => ?_⟩
    · show bo (some ((Opd.t 4).ev s'.tm)) (fun v => bo (bo (some ((Opd.t 5).ev s'.tm)) fun v => bo (some []) fun r => some (v :: r)) fun r => some (v :: r)) = _
      rw [s_ev, s_ev, h4, h5]; rfl
    · simp only [T.get_set] at hq
      split at hq
      · rename_i hb'
        simp only [Option.some.injEq] at hq
        subst hq; subst hb'
        exact .inr ⟨h3, rfl⟩
      · exact .inl hq
end Ev.Ou
end

/- The sides of a mesh, each once, in plain lists; all orders of a list. -/
section
namespace Ev
open Go

noncomputable def edgK (es : List (AV × AV)) (p : Int × Int) : Bool := decide (p.1 < p.2) || border es p
def mm (p : Int × Int) : Int × Int := (if p.2 < p.1 then p.2 else p.1, if p.1 < p.2 then p.2 else p.1)
noncomputable def edg (es d : List (AV × AV)) : List (Int × Int) := ((d.map fun x => decP x.1).filter (edgK es)).map mm
def flat2 (l : List (Int × Int)) : List AV := l.flatMap fun p => [ii p.1, ii p.2]
theorem flat2_len (l : List (Int × Int)) : (flat2 l).length = l.length * 2 := by
  induction l with
  | nil => rfl
  | cons p l ih => simp [flat2] at ih ⊢; omega
theorem edg_snoc (es d : List (AV × AV)) (x : AV × AV) : edg es (d ++ [x]) = if edgK es (decP x.1) = true then edg es d ++ [mm (decP x.1)] else edg es d := by
  unfold edg
  rw [List.map_append, List.filter_append, List.map_append]
  cases h : edgK es (decP x.1) <;> simp [h]
theorem edg_perm {es d d' : List (AV × AV)} (h : d.Perm d') : (edg es d).Perm (edg es d') := ((h.map _).filter _).map _
theorem flat2_snoc (l : List (Int × Int)) (p : Int × Int) : flat2 (l ++ [p]) = flat2 l ++ [ii p.1, ii p.2] := by simp [flat2]

def insAll {α : Type} (x : α) : List α → List (List α)
  | [] => [[x]]
  | y :: l => (x :: y :: l) :: (insAll x l).map (y :: ·)
def perms {α : Type} : List α → List (List α)
  | [] => [[]]
  | x :: l => (perms l).flatMap (insAll x)
theorem mem_insAll {α : Type} (x : α) : ∀ l1 l2 : List α, l1 ++ x :: l2 ∈ insAll x (l1 ++ l2)
  | [], [] => by simp [insAll]
  | [], y :: l2 => by simp [insAll]
  | y :: l1, l2 => by
    simp only [List.cons_append, insAll]
    exact List.mem_cons_of_mem _ (List.mem_map.2 ⟨_, mem_insAll x l1 l2, rfl⟩)
theorem mem_perms {α : Type} : ∀ {L l : List α}, l.Perm L → l ∈ perms L
  | [], l, h => by rw [h.eq_nil]; simp [perms]
  | x :: L, l, h => by
    have hx : x ∈ l := h.mem_iff.2 (by simp)
    obtain ⟨l1, l2, rfl⟩ := List.append_of_mem hx
    have h2 : (l1 ++ l2).Perm L := (List.perm_middle.symm.trans h).cons_inv
    exact List.mem_flatMap.2 ⟨_, mem_perms h2, mem_insAll x l1 l2⟩

/-- The table of a sort. -/
def sortT (L s : List (Int × Int)) : List (List AV × List AV) := (perms L).map fun l => (flat2 l, flat2 s)

theorem sameL_ints : ∀ l : List (Int × Int), sameL (flat2 l) (flat2 l) = true
  | [] => rfl
  | p :: l => by
    show sameL (ii p.1 :: ii p.2 :: flat2 l) (ii p.1 :: ii p.2 :: flat2 l) = true
    have h : ∀ n : Int, sameV (ii n) (ii n) = true := fun n => by
      show (IntKind.i64 == .i64 && eqI n n) = true
      rw [eqI_eq]; simp
    show (sameV (ii p.1) (ii p.1) && (sameV (ii p.2) (ii p.2) && sameL (flat2 l) (flat2 l))) = true
    rw [h, h, sameL_ints l]; rfl
theorem lookR_sort {L l s : List (Int × Int)} (h : l.Perm L) : lookR (sortT L s) (flat2 l) = some (flat2 s) := by
  have key : ∀ t : List (List (Int × Int)), l ∈ t → lookR (t.map fun l => (flat2 l, flat2 s)) (flat2 l) = some (flat2 s) := by
    intro t
    induction t with
    | nil => intro h; cases h
    | cons a t ih =>
      intro hm
      show (match sameL (flat2 a) (flat2 l) with | true => some (flat2 s) | false => lookR (t.map fun l => (flat2 l, flat2 s)) (flat2 l)) = _
      cases hs : sameL (flat2 a) (flat2 l) with
      | true => rfl
      | false =>
        rcases List.mem_cons.1 hm with rfl | hm
        · rw [sameL_ints] at hs; cases hs
        · exact ih hm
  exact key _ (mem_perms h)
end Ev
end
