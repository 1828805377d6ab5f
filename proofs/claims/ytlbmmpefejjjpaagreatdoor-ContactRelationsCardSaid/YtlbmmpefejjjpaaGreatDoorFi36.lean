/- ContactRelations: for every contact the law returns true, and the contact reads behind the call as it read before. Conditions: those of the given row; the listed variables are tied to the program's text by the given tie. -/
import Derived.Test.YtlbmmpefejjjpaaGreatDoorCm36
import Derived.Test.YtlbmmpefejjjpaaGreatDoorCards
import Derived.Test.YtlbmmpefejjjpaaGreatDoorTie
import Derived.ProofKit
import Derived.LaidMore
import Derived.OpenShut
import Derived.Stop.Joined
import Derived.SevenTiedAt
import Derived.Lib.SmallJoins

set_option linter.unusedSimpArgs false
set_option linter.unusedVariables false
section
namespace Go.Proofs.YtlbmmpefejjjpaaGreatDoor
open Go.ChangeShapes Go.WideShapes Go.ChangeAt Go.WideMaps Go.WideElems Go.RowKit
open Ev Ev.Or
set_option maxRecDepth 100000

theorem own : ownKnob Tryz.prog.godebug = none := by kernel_rfl
theorem laidOut : laidOutB Tryz.prog = true := by kernel_rfl
theorem gPow : Tryz.prog.globalNamed "internal/strconv.uint64pow10" = some 1 := by kernel_rfl
theorem door_met (os : Os) (args : Array Value) : laidMetH Tryz.prog Rows.contactRelationsRow.laid ((World.doorLaid Tryz.prog 400 os).forCall (fun _ _ => 0) ⟨#[], args, []⟩).memory :=
  laidMetH_of_parts3 (fuel := 8) (laidMet_of_run' 8 (by kernel_rfl) (by kernel_rfl)) (by kernel_rfl) (by kernel_rfl)

theorem cells_of_arr {H : Type} {enc : TypeId × Value → H} {P : Program} {w : World} {sp : Nat → Bool} {held : Bool} {f : Nat} {t e : TypeId} {n : Nat} {k : IntKind} {cs : List Value} {l : List Int} {p : List MemPlace} (ht : P.underlying t = some (.array n e)) (he : P.underlying e = some (.int k)) (hc : P.cellsOf e = 1)
    (hd : DataW.trod enc P w 0 sp held f t cs = some (.agg (l.map fun x => .lit (.int k x)), p)) : ∀ (i : Nat) (x : Int), l[i]? = some x → cs[i]? = some (.int k x) := by
  intro i x hi
  obtain ⟨xs, m, _, hx, _, hn, hel⟩ := DataW.trod_array ht hd
  simp only [Prod.mk.injEq, DataW.agg.injEq] at hx
  have hl : l.length = n := by
    have := congrArg List.length hx.1
    simpa [hn] using this
  have hin : i < n := by rw [← hl]; exact (List.getElem?_eq_some_iff.1 hi).1
  have h1 := hel i hin
  have hy : xs[i]? = some (xs[i]'(by omega)) := List.getElem?_eq_getElem (by omega)
  rw [hy, hc, Nat.mul_one] at h1
  obtain ⟨y, e1, e2, _⟩ := DataW.trod_int he h1
  have h2 : (l.map fun x => (DataW.lit (.int k x) : DataW H))[i]? = some (.lit (.int k x)) := by rw [List.getElem?_map, hi]; rfl
  rw [hx.1, List.getElem?_map, hy, e2] at h2
  simp only [Option.map_some, Option.some.injEq, DataW.lit.injEq, Lit.int.injEq, true_and] at h2
  subst h2
  have := congrArg (fun l => l[0]?) e1
  simpa using this

theorem pow_of_laid {W : World} (h : laidMetH Tryz.prog Rows.contactRelationsRow.laid W) : PowW 1 pow W := by
  rw [MakeChecks.laidMetH_plain _ _ _ (by kernel_rfl)] at h
  obtain ⟨ps, ⟨g0, t0, cs0, f0, p0, q0, _, _, _, _, ⟨g1, t1, cs1, f1, p1, q1, _, _, _, _, ⟨g, t, cs, fu, p, q, hg, ht, hv, hd, _, _⟩, _⟩, _⟩, _, _⟩ := h
  obtain rfl := Option.some.inj (gPow.symm.trans hg)
  obtain rfl := Option.some.inj ((show (Tryz.prog.globals[1]?).map (·.type) = some 358 by kernel_rfl).symm.trans ht)
  have hd : DataW.trod (fun _ => ()) Tryz.prog W 0 (fun _ => true) false fu 358 cs.toList = some (.agg (([1, 10, 100, 1000, 10000, 100000, 1000000, 10000000, 100000000, 1000000000, 10000000000, 100000000000, 1000000000000, 10000000000000, 100000000000000, 1000000000000000, 10000000000000000, 100000000000000000, 1000000000000000000, 10000000000000000000] : List Int).map fun x => .lit (.int .u64 x)), p) := hd
  have hc := cells_of_arr Tryz.underlying358 (show Tryz.prog.underlying 179 = some (.int .u64) by kernel_rfl) (by kernel_rfl) hd
  simp only [World.var?, hg, Option.bind_some] at hv
  split at hv
  · rename_i cs' e fz hh
    simp only [Option.some.injEq] at hv
    subst hv
    refine ⟨_, e, fz, hh, fun i a hi => ?_⟩
    unfold pow at hi
    rw [List.getElem?_map] at hi
    simp only [Option.map_eq_some_iff] at hi
    obtain ⟨n, h1, rfl⟩ := hi
    refine ⟨.int .u64 (.ofNat n), ?_, .int _ _, rfl⟩
    have h2 := hc i (.ofNat n) (by
      have e1 : ([1, 10, 100, 1000, 10000, 100000, 1000000, 10000000, 100000000, 1000000000, 10000000000, 100000000000, 1000000000000, 10000000000000, 100000000000000, 1000000000000000, 10000000000000000, 100000000000000000, 1000000000000000000, 10000000000000000000] : List Int) = ([1, 10, 100, 1000, 10000, 100000, 1000000, 10000000, 100000000, 1000000000, 10000000000, 100000000000, 1000000000000, 10000000000000, 100000000000000, 1000000000000000, 10000000000000000, 100000000000000000, 1000000000000000000, 10000000000000000000] : List Nat).map Int.ofNat := rfl
      rw [e1, List.getElem?_map, h1]; rfl)
    simpa using h2
  · cases hv

theorem four {α : Type} {l : List α} (h : l.length = 4) : ∃ a b c d, l = [a, b, c, d] := by
  match l, h with
  | [a, b, c, d], _ => exact ⟨a, b, c, d, rfl⟩
/-- A contact that came in. -/
theorem open_contact {H : Type} {enc : TypeId × Value → H} {W : World} {base : Nat} {v : Value} {d : DataW H} {p : List MemPlace} (hv : Value.okWide Tryz.prog W .any base 23 v) (h : DataW.Trod enc Tryz.prog W 0 (fun _ => true) true 23 v d p) :
    ∃ (k m : Int) (u s : List UInt8), v = .agg #[.int .i64 k, .int .i64 m, .string ⟨⟨u⟩⟩, .string ⟨⟨s⟩⟩] := by
  obtain ⟨cs, rfl, _⟩ := okWide_struct Tryz.underlying23 hv
  obtain ⟨fuel, hf⟩ := h
  obtain ⟨y0, y1, y2, y3, n, _, hcl, e0, e1, e2, e3⟩ := Joins.trod_struct4 Tryz.underlying23 hf
  have c3 : Tryz.prog.cellsOf 3 = 1 := by kernel_rfl
  have c9 : Tryz.prog.cellsOf 9 = 1 := by kernel_rfl
  have c23 : Tryz.prog.cellsOf 23 = 4 := by kernel_rfl
  rw [c23] at hcl
  obtain ⟨l⟩ := cs
  have hcl : l.length = 4 := hcl
  obtain ⟨a, b, u, s, rfl⟩ := four hcl
  have e0 : DataW.trod enc Tryz.prog W 0 (fun _ => true) true n 3 [a] = some y0 := by rw [c3] at e0; exact e0
  have e1 : DataW.trod enc Tryz.prog W 0 (fun _ => true) true n 3 [b] = some y1 := by rw [c3] at e1; exact e1
  have e2 : DataW.trod enc Tryz.prog W 0 (fun _ => true) true n 9 [u] = some y2 := by rw [c9] at e2; exact e2
  have e3 : DataW.trod enc Tryz.prog W 0 (fun _ => true) true n 9 [s] = some y3 := by rw [c9] at e3; exact e3
  obtain ⟨k, h1, _, _⟩ := DataW.trod_int Tryz.underlying3 e0
  obtain ⟨m, h2, _, _⟩ := DataW.trod_int Tryz.underlying3 e1
  obtain ⟨⟨⟨u'⟩⟩, h3, _, _⟩ := DataW.trod_string Tryz.underlying9 e2
  obtain ⟨⟨⟨s'⟩⟩, h4, _, _⟩ := DataW.trod_string Tryz.underlying9 e3
  simp only [List.cons.injEq, and_true] at h1 h2 h3 h4
  subst h1; subst h2; subst h3; subst h4
  exact ⟨k, m, u', s', rfl⟩

theorem lifted (os : Os) (started : os.Started) (H : Type) (enc : TypeId × Value → H) :
    ReturnsInHanded {} Tryz.checked os 3 .any (fun w args => (Rows.contactRelationsSpec.pre enc Tryz.prog Tryz.f3 [] false w args ∧ laidMetH Tryz.prog Rows.contactRelationsRow.laid w) ∧ sizedMet enc Tryz.prog Tryz.f3 (OpenSpec.ofChange Rows.contactRelationsSpec) false w args)
      (Rows.contactRelationsSpec.post enc Tryz.prog Tryz.f3 false true false false) := by
  refine returnsInHanded_of_change_and (C := Tryz.checked) (X := fun w _ => laidMetH Tryz.prog Rows.contactRelationsRow.laid w) (fun _ _ _ hh h => h.of_heap hh) own started (by kernel_rfl) Tryz.func3
    (ChangeSpec.witness_shaped (enc := enc) (C := Tryz.checked) (os := os) (X := fun w _ => laidMetH Tryz.prog Rows.contactRelationsRow.laid w) false (World.doorLaid Tryz.prog 400 os) #[.agg #[.int .i64 0, .int .i64 0, .string ByteArray.empty, .string ByteArray.empty]] 8 rfl (World.shaped_of_RefB (by kernel_rfl) (by kernel_rfl)) (by kernel_rfl) (by kernel_rfl) (by kernel_rfl) (door_met os _)) ?_
  intro W base args ds gs before hval0 hW _ _ hL _
  have hval : ∀ (j : Nat) t v, Tryz.f3.params[j]? = some t → args[j]? = some v → Value.okWide Tryz.prog W .any base t v := hval0
  have hW' := hW
  obtain ⟨p, q, hA0, hV, rfl, hfz, hnd⟩ := hW
  have hA : DataW.TrodAll enc Tryz.prog W 0 (fun _ => true) true Tryz.f3.params.toList args.toList ds p := hA0
  rw [Tryz.params3] at hA hval
  obtain ⟨v0, d0, rfl, rfl, h0⟩ := trodAll_one hA
  obtain ⟨rfl, rfl⟩ := trodVars_none hV
  clear hA0 hval0
  simp only [List.append_nil] at hW'
  have h0k := h0
  obtain ⟨k, m, u, s, rfl⟩ := open_contact (hval 0 23 v0 rfl rfl) h0
  have key := (Rl.law_row k m u s (fun _ => none) [.agg #[.int .i64 k, .int .i64 m, .string ⟨⟨u⟩⟩, .string ⟨⟨s⟩⟩]] W (pow_of_laid hL) (.cons (.agg (.cons (.int _ _) (.cons (.int _ _) (.cons (.str _) (.cons (.str _) .nil)))) (fun v hv => by simp at hv; rcases hv with rfl | rfl | rfl | rfl <;> rfl)) .nil)).2
  refine Calls.mono key fun e W' he => ?_
  obtain ⟨r, rfl, hr, hb⟩ := he
  cases hr
  have hlt : ∀ x ∈ p, x.block < W.heap.size := fun x hx => by simpa using hW'.lt x hx
  refine ⟨_, rfl, _, _, _, [], p, [], hW', trodAll_mk1 (shut_bool Tryz.underlying4 true), trodAll_mk1 (Below.trod laidOut (by kernel_rfl) (of_decide_eq_true (by kernel_rfl)) h0k hb hlt), rfl, hb.frame _, fun h => by cases h⟩

end Go.Proofs.YtlbmmpefejjjpaaGreatDoor
end
