/- Equations of the evaluator, for runs with unknown values. -/
import Derived.Test.YtlbmmpefejjjpaaGreatDoorGEwN

set_option linter.unusedSimpArgs false
set_option linter.unusedVariables false
section
namespace Ev
open Go

section
variable {C : CallF} {LF : Nat} {rows : T ARow} {nx : Nat}

theorem x_ops_nil (s : St) : evOps C [] s = some s := rfl
theorem x_ops (g : GOp) (l : List GOp) (s : St) : evOps C (g :: l) s = bo (evG C g s) (evOps C l) := rfl
theorem x_g (d : Nat) (k : K) (xs : List Opd) (s : St) : evG C ⟨none, d, k, xs⟩ s = bo (evK (evList s.tm xs) s.rows s.nx C k) fun r => some ⟨s.tm.set d (some r.v), r.rows, r.nx⟩ := rfl
theorem x_gt {t : Nat} (d : Nat) (k : K) (xs : List Opd) (s : St) {b w : Bool} (h : s.tm.get t = some (.bool b)) : evG C ⟨some (t, w), d, k, xs⟩ s = if b = w then (bo (evK (evList s.tm xs) s.rows s.nx C k) fun r => some ⟨s.tm.set d (some r.v), r.rows, r.nx⟩) else some ⟨s.tm.set d (some .undef), s.rows, s.nx⟩ := by
  unfold evG wanted
  simp only [h]
  cases b <;> cases w <;> rfl
theorem x_nil (tm : T AV) : evList tm [] = [] := rfl
theorem x_cons (tm : T AV) (x : Opd) (l : List Opd) : evList tm (x :: l) = x.ev tm :: evList tm l := rfl
theorem x_c (tm : T AV) (v : AV) : (Opd.c v).ev tm = v := rfl
theorem x_t {tm : T AV} {n : Nat} {v : AV} (h : tm.get n = some v) : (Opd.t n).ev tm = v := by simp [Opd.ev, h]
theorem x_bo {α β : Type} (a : α) (f : α → Option β) : bo (some a) f = f a := rfl
theorem x_gd {β : Type} (x : Option β) : gd true x = x := rfl

theorem x_mv (x : AV) : evK [x] rows nx C .mv = some ⟨x, rows, nx⟩ := rfl
theorem x_ptr {β : Type} (b o : Nat) (f : Nat → Nat → Option β) : asPtr (.ptr b o) f = f b o := rfl
theorem x_box {x : AV} (g : Nat) (h : x.stored = true) : evK [x] rows nx C (.box g) = some ⟨.ptr nx 0, rows.set nx (some (.cells g x.cells)), nx + 1⟩ := by
  show gd x.stored _ = _
  rw [h]; rfl
theorem x_store2 {b g : Nat} {l : List AV} {p q : AV} (h : rows.get b = some (.cells g l)) (hl : l.length = 2) : evK [.ptr b 0, .agg [p, q]] rows nx C (.store (.many 2)) = some ⟨.undef, rows.set b (some (.cells g [p, q])), nx⟩ := by
  match l, hl with
  | [x, y], _ =>
    show asCells (rows.get b) (fun g l => bo (putN [p, q] 0 l) fun l => rset rows nx .undef b (.cells g l)) = _
    rw [h]; rfl
theorem x_load {b o : Nat} {q : ARow} {l : List AV} {v : AV} (h : rows.get b = some q) (hq : rdRow q = some l) (hv : l[o]? = some v) : evK [.ptr b o] rows nx C (.load .one) = some ⟨v, rows, nx⟩ := by
  show bo (loadAt rows .one (.ptr b o)) (fun v => rv rows nx v) = _
  have : loadAt rows .one (.ptr b o) = some v := by
    show asRead (rows.get b) (fun l => kd .one (dropN o l)) = some v
    rw [asRead_some]
    refine ⟨q, l, h, hq, ?_⟩
    show getN 0 (dropN o l) = some v
    rw [getN_eq, dropN_eq]
    simpa using hv
  rw [this]; rfl
theorem x_idx (b o n sz : Nat) (i : Nat) (k : IntKind) (h : i < n) : evK [.ptr b o, .int k (.ofNat i)] rows nx C (.indexAr n sz) = some ⟨.ptr b (o + i * sz), rows, nx⟩ := by
  show gd (Nat.blt i n) (rv rows nx (.ptr b (Nat.add o (Nat.mul i sz)))) = _
  rw [blt_nat, decide_eq_true h]; rfl
theorem x_ext {l : List AV} {i : Nat} {v : AV} (h : l[i]? = some v) : evK [.tup l] rows nx C (.extract i) = some ⟨v, rows, nx⟩ := by
  show rvo rows nx (getN i l) = _
  rw [getN_eq, h]; rfl
theorem x_not (b : Bool) : evK [.bool b] rows nx C .not = some ⟨.bool (!b), rows, nx⟩ := rfl
theorem x_pick (c : Bool) (a b : AV) : evK [.bool c, a, b] rows nx C .pick = some ⟨if c = true then a else b, rows, nx⟩ := by
  cases c <;> rfl
theorem x_build2 (z1 z2 a b : AV) (h1 : one a = some [a]) (h2 : one b = some [b]) : evK [a, b] rows nx C (.build [z1, z2] [(0, .one), (1, .one)]) = some ⟨.agg [a, b], rows, nx⟩ := by
  show bo (bo (one a) fun c => bo (putN c 0 [z1, z2]) fun z => bo (one b) fun c => bo (putN c 1 z) fun z => some z) (fun l => rv rows nx (.agg l)) = _
  rw [h1]
  show bo (bo (one b) fun c => bo (putN c 1 [a, z2]) fun z => some z) _ = _
  rw [h2]; rfl
theorem x_lookup {m k z : AV} {sh : Sh} {ok e : Bool} {es : List (AV × AV)} {q : Option AV} (h1 : eqA sh k k = some e) (h2 : mapRow rows m = some es) (h3 : findM sh k es = some q) :
    evK [m, k] rows nx C (.rare (.lookup sh z ok)) = some ⟨match ok with | true => .tup [q.getD z, .bool q.isSome] | false => q.getD z, rows, nx⟩ := by
  show bo (eqA sh k k) (fun _ => bo (mapRow rows m) fun es => bo (findM sh k es) fun q => match q with
    | some v => rv rows nx (match ok with | true => .tup [v, .bool true] | false => v)
    | none => rv rows nx (match ok with | true => .tup [z, .bool false] | false => z)) = _
  rw [h1, h2]
  show bo (findM sh k es) _ = _
  rw [h3]
  cases q <;> cases ok <;> rfl
theorem x_update {b : Nat} {k x : AV} {sh : Sh} {e : Bool} {es : List (AV × AV)} (h1 : eqA sh k k = some e) (h2 : rows.get b = some (.map es)) (h3 : findM sh k es = some none) :
    evK [.map b, k, x] rows nx C (.rare (.mapUpdate sh)) = some ⟨.undef, rows.set b (some (.map (es ++ [(k, x)]))), nx⟩ := by
  show bo (eqA sh k k) (fun _ => match rows.get b with
    | some (.map es) => bo (findM sh k es) fun q => (match q with
      | some _ => rset rows nx .undef b (.map (updM sh k x es))
      | none => rset rows nx .undef b (.map (appN es [(k, x)])))
    | _ => none) = _
  rw [h1, h2]
  show bo (findM sh k es) _ = _
  rw [h3, appN_eq]; rfl
theorem x_makeMap : evK [] rows nx C (.rare .makeMap) = some ⟨.map nx, rows.set nx (some (.map [])), nx + 1⟩ := rfl
theorem x_lenS (b o n : Nat) (c : Cap) : evK [.slice b o n c] rows nx C (.len .sl) = some ⟨.int .i64 (.ofNat n), rows, nx⟩ := rfl
theorem x_lenN : evK [.nil .slice] rows nx C (.len .sl) = some ⟨.int .i64 (.ofNat 0), rows, nx⟩ := rfl
theorem x_lenM {b : Nat} {es : List (AV × AV)} (h : rows.get b = some (.map es)) : evK [.map b] rows nx C (.len .map) = some ⟨.int .i64 (.ofNat es.length), rows, nx⟩ := by
  show bo (lenV rows .map (.map b)) (fun n => rv rows nx (.int .i64 (.ofNat n))) = _
  simp only [lenV, h, lenN_eq]; rfl
theorem x_lss (a b : Int) : evK [.int .i64 a, .int .i64 b] rows nx C (.binI .lss) = some ⟨.bool (decide (a < b)), rows, nx⟩ := by
  show rvo rows nx (gd (IntKind.i64 == .i64) (some (.bool (ltI a b)))) = _
  rw [ltI_eq]; rfl
theorem x_gtr (a b : Int) : evK [.int .i64 a, .int .i64 b] rows nx C (.binI .gtr) = some ⟨.bool (decide (b < a)), rows, nx⟩ := by
  show rvo rows nx (gd (IntKind.i64 == .i64) (some (.bool (ltI b a)))) = _
  rw [ltI_eq]; rfl
theorem x_eql (a b : Int) : evK [.int .i64 a, .int .i64 b] rows nx C (.binI .eql) = some ⟨.bool (decide (a = b)), rows, nx⟩ := by
  show rvo rows nx (gd (IntKind.i64 == .i64) (some (.bool (eqI a b)))) = _
  rw [eqI_eq]; rfl
theorem x_min (a b : Int) : evK [.int .i64 a, .int .i64 b] rows nx C (.rare .min) = some ⟨.int .i64 (if b < a then b else a), rows, nx⟩ := by
  show rvo rows nx (some (.int .i64 (match ltI b a with | true => b | false => a))) = _
  rw [ltI_eq]
  by_cases h : b < a <;> simp [h, rvo, bo]
theorem x_max (a b : Int) : evK [.int .i64 a, .int .i64 b] rows nx C (.rare .max) = some ⟨.int .i64 (if a < b then b else a), rows, nx⟩ := by
  show rvo rows nx (some (.int .i64 (match ltI a b with | true => b | false => a))) = _
  rw [ltI_eq]
  by_cases h : a < b <;> simp [h, rvo, bo]

theorem x_iops (l : List GOp) (s : St) : runIC C LF (.ops l) s = bo (evOps C l s) fun s => some ⟨.normal, s⟩ := rfl
theorem x_iseq (a b : IC) (s : St) : runIC C LF (.seq a b) s = bo (runIC C LF a s) fun x => match x.e with | .normal => runIC C LF b x.s | e => some ⟨e, x.s⟩ := rfl
theorem x_icond {s : St} {c : Nat} {b : Bool} (x y : IC) (h : s.tm.get c = some (.bool b)) : runIC C LF (.cond (.t c) x y) s = if b = true then runIC C LF x s else runIC C LF y s := by
  show asBool ((Opd.t c).ev s.tm) _ = _
  rw [x_t h]
  cases b <;> rfl
theorem x_iblock (id : Nat) (b : IC) (s : St) : runIC C LF (.block id b) s = bo (runIC C LF b s) fun x => match x.e with | .exit i => (match Nat.beq i id with | true => some ⟨.normal, x.s⟩ | false => some x) | _ => some x := rfl
theorem x_iexit (id : Nat) (s : St) : runIC C LF (.exit id) s = some ⟨.exit id, s⟩ := rfl
theorem x_iret (s : St) : runIC C LF .ret s = some ⟨.ret, s⟩ := rfl
theorem x_iskip (s : St) : runIC C LF .skip s = some ⟨.normal, s⟩ := rfl
theorem x_iloop (b : IC) (s : St) : runIC C LF (.loop b) s = iter (runIC C LF b) LF s := rfl
theorem x_iter (f : St → Option XS) (k : Nat) (s : St) : iter f (k+1) s = bo (f s) fun x => match x.e with | .normal => iter f k x.s | e => some ⟨e, x.s⟩ := rfl
theorem x_one (k : IntKind) (n : Int) : one (.int k n) = some [.int k n] := rfl

/-- Two ints of one kind. -/
theorem x_eqI {k : IntKind} {a b : Int} (ha : inR k a = true) (hb : inR k b = true) : eqA ⟨false, [.int k]⟩ (.int k a) (.int k b) = some (decide (a = b)) := by
  show gd ((k == k) && ((k == k) && (inR k a && inR k b))) (some (eqI a b)) = _
  simp [ha, hb, gd, eqI_eq]
theorem x_eq2 {k : IntKind} {a b c d : Int} (ha : inR k a = true) (hb : inR k b = true) (hc : inR k c = true) (hd : inR k d = true) :
    eqA ⟨true, [.int k, .int k]⟩ (.agg [.int k a, .int k b]) (.agg [.int k c, .int k d]) = some (decide ((a, b) = (c, d))) := by
  show bo (eq1 (.int k) (.int k a) (.int k c)) (fun e => bo (bo (eq1 (.int k) (.int k b) (.int k d)) fun e => bo (some true) fun r => some (match e with | true => r | false => false)) fun r => some (match e with | true => r | false => false)) = _
  have e1 : ∀ {x y : Int}, inR k x = true → inR k y = true → eq1 (.int k) (.int k x) (.int k y) = some (decide (x = y)) := fun {x y} hx hy => by
    show gd ((k == k) && ((k == k) && (inR k x && inR k y))) (some (eqI x y)) = _
    simp [hx, hy, gd, eqI_eq]
  rw [e1 ha hc, e1 hb hd]
  by_cases h1 : a = c <;> by_cases h2 : b = d <;> simp [bo, h1, h2]

theorem x_findI {k : IntKind} {α : Type} (key : α → Int) (val : α → AV) (a : Int) (ha : inR k a = true) : ∀ (l : List α), (∀ x ∈ l, inR k (key x) = true) →
    findM ⟨false, [.int k]⟩ (.int k a) (l.map fun x => (.int k (key x), val x)) = some ((l.find? fun x => decide (a = key x)).map val)
  | [], _ => rfl
  | x :: l, h => by
    show bo (eqA ⟨false, [.int k]⟩ (.int k a) (.int k (key x))) (fun b => Bool.rec (findM ⟨false, [.int k]⟩ (.int k a) (l.map fun x => (.int k (key x), val x))) (some (some (val x))) b) = _
    rw [x_eqI ha (h x (by simp)), x_findI key val a ha l fun y hy => h y (by simp [hy])]
    by_cases hx : a = key x <;> simp [bo, hx]
theorem x_find2 {k : IntKind} {α : Type} (key : α → Int × Int) (val : α → AV) (p : Int × Int) (h1 : inR k p.1 = true) (h2 : inR k p.2 = true) : ∀ (l : List α), (∀ x ∈ l, inR k (key x).1 = true ∧ inR k (key x).2 = true) →
    findM ⟨true, [.int k, .int k]⟩ (.agg [.int k p.1, .int k p.2]) (l.map fun x => (.agg [.int k (key x).1, .int k (key x).2], val x)) = some ((l.find? fun x => decide (p = key x)).map val)
  | [], _ => rfl
  | x :: l, h => by
    show bo (eqA ⟨true, [.int k, .int k]⟩ (.agg [.int k p.1, .int k p.2]) (.agg [.int k (key x).1, .int k (key x).2])) (fun b => Bool.rec (findM ⟨true, [.int k, .int k]⟩ (.agg [.int k p.1, .int k p.2]) (l.map fun x => (.agg [.int k (key x).1, .int k (key x).2], val x))) (some (some (val x))) b) = _
    obtain ⟨g1, g2⟩ := h x (by simp)
    rw [x_eq2 h1 h2 g1 g2, x_find2 key val p h1 h2 l fun y hy => h y (by simp [hy])]
    by_cases hx : p = key x
    · have : decide ((p.1, p.2) = ((key x).1, (key x).2)) = true := decide_eq_true hx
      rw [this]
      simp [bo, hx]
    · have : decide ((p.1, p.2) = ((key x).1, (key x).2)) = false := decide_eq_false hx
      rw [this]
      simp [bo, hx]

/-- An element laid into a new row, appended. -/
theorem x_lit1 {x : AV} (z : AV) (h : one x = some [x]) : evK [x] rows nx C (.rare (.buildSlice [z] 1 [(0, .one)])) = some ⟨.slice nx 0 1 (.ex 1), rows.set nx (some (.cells 0 [x])), nx + 1⟩ := by
  show bo (bo (one x) fun c => bo (putN c 0 [z]) fun z => some z) (fun l => rnew rows nx (.slice nx 0 1 (.ex 1)) (.cells 0 l)) = _
  rw [h]; rfl
theorem x_lit2 {x y : AV} (z1 z2 : AV) : evK [.agg [x, y]] rows nx C (.rare (.buildSlice [z1, z2] 1 [(0, .many 2)])) = some ⟨.slice nx 0 1 (.ex 1), rows.set nx (some (.cells 0 [x, y])), nx + 1⟩ := rfl
theorem x_appN {b sz bytes t : Nat} {l : List AV} (h : rows.get b = some (.cells 0 l)) (hl : l ≠ []) (hlen : l.length = sz) (hsz : 0 < sz) (hb : bytes ≤ 1000) :
    evK [.nil .slice, .slice b 0 1 (.ex 1)] rows nx C (.rare (.append sz bytes t)) = some ⟨.slice nx 0 1 (.op sz), rows.set nx (some (.cells t l)), nx + 1⟩ := by
  show bo (asRead (rows.get b) fun l => takeN (Nat.mul 1 sz) (dropN 0 l)) (fun src => appNil rows nx sz bytes t src) = _
  have e1 : (asRead (rows.get b) fun l => takeN (Nat.mul 1 sz) (dropN 0 l)) = some l := by
    rw [asRead_some]
    refine ⟨_, l, h, rfl, ?_⟩
    rw [dropN_eq, takeN_some]
    simp only [List.drop_zero, Nat.mul_eq, Nat.one_mul, ← hlen]
    exact ⟨Nat.le_refl _, (List.take_length).symm⟩
  rw [e1]
  show appNil rows nx sz bytes t l = _
  have hd : Nat.div (lenN l) sz = 1 := by rw [lenN_eq, hlen]; exact Nat.div_self hsz
  unfold appNil
  split
  · exact absurd rfl hl
  · rw [hd]
    have : small 1 bytes = true := by unfold small; rw [ble_nat]; simp; omega
    rw [this]; rfl
theorem x_appS {b b' n sz bytes t : Nat} {l m : List AV} (h : rows.get b = some (.cells 0 l)) (h' : rows.get b' = some (.cells t m)) (hl : l ≠ []) (hlen : l.length = sz) (hm : m.length = n * sz) (hsz : 0 < sz) (hb : bytes ≤ 1000) (hn : n ≤ 1000000) :
    evK [.slice b' 0 n (.op sz), .slice b 0 1 (.ex 1)] rows nx C (.rare (.append sz bytes t)) = some ⟨.slice nx 0 (n + 1) (.op sz), (rows.set b' none).set nx (some (.cells t (m ++ l))), nx + 1⟩ := by
  show bo (asRead (rows.get b) fun l => takeN (Nat.mul 1 sz) (dropN 0 l)) (fun src => asCells (rows.get b') fun g l => (match src with
      | [] => rv rows nx (.slice b' 0 n (.op sz))
      | src => gd (Nat.beq sz sz) (appOp rows nx sz bytes t g b' 0 n src l))) = _
  have e1 : (asRead (rows.get b) fun l => takeN (Nat.mul 1 sz) (dropN 0 l)) = some l := by
    rw [asRead_some]
    refine ⟨_, l, h, rfl, ?_⟩
    rw [dropN_eq, takeN_some]
    simp only [List.drop_zero, Nat.mul_eq, Nat.one_mul, ← hlen]
    exact ⟨Nat.le_refl _, (List.take_length).symm⟩
  rw [e1, h']
  show (match l with
      | [] => rv rows nx (.slice b' 0 n (.op sz))
      | src => gd (Nat.beq sz sz) (appOp rows nx sz bytes t t b' 0 n src m)) = _
  have hd : Nat.div (lenN l) sz = 1 := by rw [lenN_eq, hlen]; exact Nat.div_self hsz
  split
  · exact absurd rfl hl
  · rw [beq_nat, decide_eq_true rfl]
    unfold appOp
    rw [hd]
    have hs : small (Nat.add n 1) bytes = true := by
      unfold small; rw [ble_nat]
      have : (n + 1) * bytes ≤ 1000001 * 1000 := Nat.mul_le_mul (by omega) hb
      exact decide_eq_true (by show (n + 1) * bytes ≤ _; omega)
    rw [hs]
    have e2 : takeN (Nat.mul n sz) (dropN 0 m) = some m := by
      rw [dropN_eq, takeN_some]
      have : (List.drop 0 m).length = Nat.mul n sz := by simpa using hm
      exact ⟨by omega, by rw [List.take_of_length_le (by omega)]; rfl⟩
    rw [e2]
    have : tagR t t 0 = t := by unfold tagR; rw [beq_nat, beq_nat]; simp
    show some (R.mk (.slice nx 0 (n + 1) (.op sz)) ((rows.set b' none).set nx (some (.cells (tagR t t 0) (appN m l)))) (nx + 1)) = _
    rw [this, appN_eq]
end
end Ev
end

/- The same, as rules for simp; ints as keys. -/
section
namespace Ev
open Go

def rdO (o : Option ARow) : Option (List AV) := match o with | some (.cells _ l) => some l | some (.ro _ l) => some l | _ => none
def mpO (o : Option ARow) : Option (List (AV × AV)) := match o with | some (.map l) => some l | some (.roM l) => some l | _ => none
def wantB (o : Option AV) (w : Bool) : Bool := match o with | some (.bool b) => b == w | _ => false
def condB (o : Option AV) : Option Bool := match o with | some (.bool b) => some b | _ => none

theorem s_b1 : (false == true) = false := rfl
theorem s_b2 : (true == false) = false := rfl

section
variable {C : CallF} {LF : Nat} {rows : T ARow} {nx : Nat}
theorem s_rd1 (g : Nat) (l : List AV) : rdO (some (.cells g l)) = some l := rfl
theorem s_rd2 (g : Nat) (l : List AV) : rdO (some (.ro g l)) = some l := rfl
theorem s_mp1 (l : List (AV × AV)) : mpO (some (.map l)) = some l := rfl
theorem s_mp2 (l : List (AV × AV)) : mpO (some (.roM l)) = some l := rfl
theorem s_want (b w : Bool) : wantB (some (.bool b)) w = (b == w) := rfl
theorem s_cond (b : Bool) : condB (some (.bool b)) = some b := rfl
theorem s_ev (tm : T AV) (n : Nat) : (Opd.t n).ev tm = (tm.get n).getD .undef := by
  cases h : tm.get n <;> simp [Opd.ev, h]
theorem s_g (t d : Nat) (w : Bool) (k : K) (xs : List Opd) (s : St) : evG C ⟨some (t, w), d, k, xs⟩ s = if wantB (s.tm.get t) w = true then (bo (evK (evList s.tm xs) s.rows s.nx C k) fun r => some ⟨s.tm.set d (some r.v), r.rows, r.nx⟩) else some ⟨s.tm.set d (some .undef), s.rows, s.nx⟩ := by
  unfold evG wanted wantB
  simp only
  cases h : s.tm.get t with
  | none => rfl
  | some v =>
    cases v <;> try rfl
    rename_i b
    cases b <;> cases w <;> rfl
theorem s_box (x : AV) (g : Nat) : evK [x] rows nx C (.box g) = gd x.stored (some ⟨.ptr nx 0, rows.set nx (some (.cells g x.cells)), nx + 1⟩) := rfl
theorem s_store2 (b : Nat) (p q : AV) : evK [.ptr b 0, .agg [p, q]] rows nx C (.store (.many 2)) = asCells (rows.get b) (fun g l => bo (putN [p, q] 0 l) fun l => some ⟨.undef, rows.set b (some (.cells g l)), nx⟩) := rfl
theorem s_put2 (p q x y : AV) : putN [p, q] 0 [x, y] = some [p, q] := rfl
theorem s_asCells {β : Type} (g : Nat) (l : List AV) (f : Nat → List AV → Option β) : asCells (some (.cells g l)) f = f g l := rfl
theorem s_load (b o : Nat) : evK [.ptr b o] rows nx C (.load .one) = bo (rdO (rows.get b)) fun l => bo l[o]? fun v => some ⟨v, rows, nx⟩ := by
  show bo (asRead (rows.get b) fun l => kd .one (dropN o l)) (fun v => rv rows nx v) = _
  have key : ∀ l : List AV, kd .one (dropN o l) = l[o]? := fun l => by
    show getN 0 (dropN o l) = _
    rw [getN_eq, dropN_eq]; simp
  cases h : rows.get b with
  | none => rfl
  | some q => cases q <;> first
    | rfl
    | (show bo (kd .one (dropN o _)) _ = bo _ _; rw [key]; rfl)
theorem s_idx (b o n sz i : Nat) (k : IntKind) : evK [.ptr b o, .int k (.ofNat i)] rows nx C (.indexAr n sz) = if i < n then some ⟨.ptr b (o + i * sz), rows, nx⟩ else none := by
  show gd (Nat.blt i n) (rv rows nx (.ptr b (Nat.add o (Nat.mul i sz)))) = _
  rw [blt_nat]
  by_cases h : i < n <;> simp [h, gd] <;> rfl
theorem s_ext (l : List AV) (i : Nat) : evK [.tup l] rows nx C (.extract i) = bo l[i]? fun v => some ⟨v, rows, nx⟩ := by
  show rvo rows nx (getN i l) = _
  rw [getN_eq]; rfl
theorem s_build2 (z1 z2 : AV) (a b : Int) (k : IntKind) : evK [.int k a, .int k b] rows nx C (.build [z1, z2] [(0, .one), (1, .one)]) = some ⟨.agg [.int k a, .int k b], rows, nx⟩ := rfl
theorem s_lookup (r : Nat) (k z : AV) (sh : Sh) (ok : Bool) : evK [.map r, k] rows nx C (.rare (.lookup sh z ok)) = bo (eqA sh k k) fun _ => bo (mpO (rows.get r)) fun es => bo (findM sh k es) fun q => some ⟨match ok with | true => .tup [q.getD z, .bool q.isSome] | false => q.getD z, rows, nx⟩ := by
  show bo (eqA sh k k) (fun _ => bo (mapRow rows (.map r)) fun es => bo (findM sh k es) fun q => match q with
    | some v => rv rows nx (match ok with | true => .tup [v, .bool true] | false => v)
    | none => rv rows nx (match ok with | true => .tup [z, .bool false] | false => z)) = _
  have e1 : mapRow rows (.map r) = mpO (rows.get r) := rfl
  rw [e1]
  congr 1
  funext _
  congr 1
  funext es
  congr 1
  funext q
  cases q <;> cases ok <;> rfl
theorem s_update (b : Nat) (k x : AV) (sh : Sh) : evK [.map b, k, x] rows nx C (.rare (.mapUpdate sh)) = bo (eqA sh k k) fun _ => (match rows.get b with
    | some (.map es) => bo (findM sh k es) fun q => (match q with
      | some _ => some ⟨.undef, rows.set b (some (.map (updM sh k x es))), nx⟩
      | none => some ⟨.undef, rows.set b (some (.map (es ++ [(k, x)]))), nx⟩)
    | _ => none) := by
  show bo (eqA sh k k) (fun _ => match rows.get b with
    | some (.map es) => bo (findM sh k es) fun q => (match q with
      | some _ => rset rows nx .undef b (.map (updM sh k x es))
      | none => rset rows nx .undef b (.map (appN es [(k, x)])))
    | _ => none) = _
  congr 1
  funext _
  split
  · rename_i es _
    congr 1
    funext q
    cases q with
    | none => simp only [appN_eq]; rfl
    | some v => rfl
  · rfl
theorem s_lenM (b : Nat) : evK [.map b] rows nx C (.len .map) = bo (mpO (rows.get b)) fun es => some ⟨.int .i64 (.ofNat es.length), rows, nx⟩ := by
  show bo (lenV rows .map (.map b)) (fun n => rv rows nx (.int .i64 (.ofNat n))) = _
  unfold lenV mpO
  simp only
  cases h : rows.get b with
  | none => rfl
  | some q => cases q <;> simp [lenN_eq, bo, rv]
theorem s_icond (c : Nat) (x y : IC) (s : St) : runIC C LF (.cond (.t c) x y) s = bo (condB (s.tm.get c)) fun b => if b = true then runIC C LF x s else runIC C LF y s := by
  show asBool ((Opd.t c).ev s.tm) _ = _
  rw [s_ev]
  cases h : s.tm.get c with
  | none => rfl
  | some v => cases v <;> try rfl
              rename_i b
              cases b <;> rfl
theorem s_stA (l : List AV) : (AV.agg l).stored = true := rfl
theorem s_stI (k : IntKind) (n : Int) : (AV.int k n).stored = true := rfl
theorem s_ceA (l : List AV) : (AV.agg l).cells = l := rfl
theorem s_bon {α β : Type} (f : α → Option β) : bo none f = none := rfl
end
end Ev
end

/- More rules for runs with unknown values. -/
section
namespace Ev
open Go

theorem y_wantU (w : Bool) : wantB (some .undef) w = false := rfl

section
variable {C : CallF} {LF : Nat} {rows : T ARow} {nx : Nat}
theorem y_leq (k : IntKind) (a b : Int) : evK [.int k a, .int k b] rows nx C (.binI .leq) = some ⟨.bool (decide (a ≤ b)), rows, nx⟩ := by
  show rvo rows nx (gd (k == k) (some (.bool (!ltI b a)))) = _
  rw [ltI_eq]
  simp only [beq_self_eq_true, gd, rvo, bo]
  by_cases h : a ≤ b
  · rw [decide_eq_true h, decide_eq_false (by omega)]; rfl
  · rw [decide_eq_false h, decide_eq_true (by omega)]; rfl
theorem y_lss (k : IntKind) (a b : Int) : evK [.int k a, .int k b] rows nx C (.binI .lss) = some ⟨.bool (decide (a < b)), rows, nx⟩ := by
  show rvo rows nx (gd (k == k) (some (.bool (ltI a b)))) = _
  rw [ltI_eq]; simp [gd, rvo, bo]
theorem y_gtr (k : IntKind) (a b : Int) : evK [.int k a, .int k b] rows nx C (.binI .gtr) = some ⟨.bool (decide (b < a)), rows, nx⟩ := by
  show rvo rows nx (gd (k == k) (some (.bool (ltI b a)))) = _
  rw [ltI_eq]; simp [gd, rvo, bo]
theorem y_eql (k : IntKind) (a b : Int) : evK [.int k a, .int k b] rows nx C (.binI .eql) = some ⟨.bool (decide (a = b)), rows, nx⟩ := by
  show rvo rows nx (gd (k == k) (some (.bool (eqI a b)))) = _
  rw [eqI_eq]; simp [gd, rvo, bo]
theorem y_neq (k : IntKind) (a b : Int) : evK [.int k a, .int k b] rows nx C (.binI .neq) = some ⟨.bool (!decide (a = b)), rows, nx⟩ := by
  show rvo rows nx (gd (k == k) (some (.bool (!eqI a b)))) = _
  rw [eqI_eq]; simp [gd, rvo, bo]
theorem y_add1 (i : Nat) (h : i < 1000000) : evK [.int .i64 (.ofNat i), .int .i64 (.ofNat 1)] rows nx C (.binI .add) = some ⟨.int .i64 (.ofNat (i + 1)), rows, nx⟩ := by
  show rvo rows nx (some (.int .i64 (wrapI .i64 (Int.add (.ofNat i) (.ofNat 1))))) = _
  have e1 : Int.add (.ofNat i) (.ofNat 1) = .ofNat (i + 1) := rfl
  rw [e1]
  have : wrapI .i64 (.ofNat (i+1)) = .ofNat (i+1) := by
    unfold wrapI
    simp only [limP, blt_nat]
    rw [decide_eq_true (by omega)]
  rw [this]; rfl
theorem y_eqS (a b : List UInt8) : evK [.str a, .str b] rows nx C (.binS .eql) = some ⟨.bool (decide (a = b)), rows, nx⟩ := by
  show rvo rows nx (some (.bool (beqB a b))) = _
  rw [beqB_eq]; rfl
theorem y_lenStr (l : List UInt8) : evK [.str l] rows nx C (.len .str) = some ⟨.int .i64 (.ofNat l.length), rows, nx⟩ := by
  show bo (asStr (.str l) fun l => some (lenN l)) (fun n => rv rows nx (.int .i64 (.ofNat n))) = _
  show rv rows nx (.int .i64 (.ofNat (lenN l))) = _
  rw [lenN_eq]; rfl
def bytesAV (l : List UInt8) : List AV := l.map fun c => .int .u8 (.ofNat c.toNat)
theorem y_toBytes (l : List UInt8) : evK [.str l] rows nx C (.rare .toBytes) = some ⟨.slice nx 0 l.length (.op 1), rows.set nx (some (.cells 0 (bytesAV l))), nx + 1⟩ := by
  show rnew rows nx (.slice nx 0 (lenN l) (.op 1)) (.cells 0 (mapN (fun c => .int .u8 (.ofNat c.toNat)) l)) = _
  rw [lenN_eq, mapN_eq]; rfl
theorem y_idxSl (b o n : Nat) (c : Cap) (k : IntKind) (i sz : Nat) : evK [.slice b o n c, .int k (.ofNat i)] rows nx C (.indexSl sz) = if i < n then some ⟨.ptr b (o + i * sz), rows, nx⟩ else none := by
  show gd (Nat.blt i n) (rv rows nx (.ptr b (Nat.add o (Nat.mul i sz)))) = _
  rw [blt_nat]
  by_cases h : i < n <;> simp [h, gd] <;> rfl
theorem y_fieldAddr (b o off : Nat) : evK [.ptr b o] rows nx C (.fieldAddr off) = some ⟨.ptr b (o + off), rows, nx⟩ := rfl
theorem y_call (f : Nat) (vs : List AV) : evK vs rows nx C (.call f) = C (.f f) vs rows nx := rfl
end

/-- What is said of a byte of a name. -/
def nameB (c : Nat) (first : Bool) : Bool :=
  let letter := (decide ((97 : Int) ≤ c) && decide ((c : Int) ≤ 122)) || (decide ((65 : Int) ≤ c) && decide ((c : Int) ≤ 90))
  let digit := (decide ((48 : Int) ≤ c) && decide ((c : Int) ≤ 57)) || decide ((c : Int) = 95)
  letter || (!first && digit)
end Ev
end
