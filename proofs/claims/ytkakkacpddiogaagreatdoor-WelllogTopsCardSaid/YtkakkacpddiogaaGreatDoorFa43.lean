/- What every law of this seat needs: the package variable's table, slices of bits and of intervals that came in. -/
import Derived.Test.YtkakkacpddiogaaGreatDoorGEyC
import Derived.Test.YtkakkacpddiogaaGreatDoorCards
import Derived.Test.YtkakkacpddiogaaGreatDoorTie
import Derived.ProofKit
import Derived.LaidMore
import Derived.OpenShut
import Derived.Stop.Joined
import Derived.SevenTiedAt
import Derived.Lib.SmallJoins
import Derived.Deep.Strs

set_option linter.unusedSimpArgs false
set_option linter.unusedVariables false
section
namespace Go.Proofs.YtkakkacpddiogaaGreatDoor
open Go.ChangeShapes Go.WideShapes Go.ChangeAt Go.WideMaps Go.WideElems Go.RowKit
open Ev Ev.Or
set_option maxRecDepth 100000

theorem own : ownKnob Tryz.prog.godebug = none := by kernel_rfl
theorem laidOut : laidOutB Tryz.prog = true := by kernel_rfl
theorem gPow : Tryz.prog.globalNamed "internal/strconv.uint64pow10" = some 1 := by kernel_rfl
theorem door_met (os : Os) (args : Array Value) : laidMetH Tryz.prog Rows.welllogTopsRow.laid ((World.doorLaid Tryz.prog 400 os).forCall (fun _ _ => 0) ⟨#[], args, []⟩).memory :=
  laidMetH_of_parts3 (fuel := 8) (laidMet_of_run' 8 (by kernel_rfl) (by kernel_rfl)) (by kernel_rfl) (by kernel_rfl)

theorem cells_of_arr {H : Type} {enc : TypeId × Value → H} {P : Program} {w : World} {sp : Nat → Bool} {held : Bool} {f : Nat} {t e : TypeId} {n : Nat} {k : IntKind} {cs : List Value} {l : List Int} {p : List MemPlace} (ht : P.underlying t = some (.array n e)) (he : P.underlying e = some (.int k)) (hc : P.cellsOf e = 1)
    (hd : DataW.trod enc P w 0 sp held f t cs = some (.agg (l.map fun x => .lit (.int k x)), p)) : ∀ (i : Nat) (x : Int), l[i]? = some x → cs[i]? = some (.int k x) := by
  intro i x hi
  obtain ⟨xs, m, _, hx, _, hn, hel⟩ := DataW.trod_array ht hd
  simp only [Prod.mk.injEq, DataW.agg.injEq] at hx
  have hl : l.length = n := by
    have := congrArg List.length hx.1
    simpa [hn] using this
  have hin : i < n := by rw [← hl]; exact (List.getElem?_eq_some_iff.1 hi).1
  have h1 := hel i hin
  have hy : xs[i]? = some (xs[i]'(by omega)) := List.getElem?_eq_getElem (by omega)
  rw [hy, hc, Nat.mul_one] at h1
  obtain ⟨y, e1, e2, _⟩ := DataW.trod_int he h1
  have h2 : (l.map fun x => (DataW.lit (.int k x) : DataW H))[i]? = some (.lit (.int k x)) := by rw [List.getElem?_map, hi]; rfl
  rw [hx.1, List.getElem?_map, hy, e2] at h2
  simp only [Option.map_some, Option.some.injEq, DataW.lit.injEq, Lit.int.injEq, true_and] at h2
  subst h2
  have := congrArg (fun l => l[0]?) e1
  simpa using this

theorem pow_of_laid {W : World} (h : laidMetH Tryz.prog Rows.welllogTopsRow.laid W) : PowW 1 pow W := by
  rw [MakeChecks.laidMetH_plain _ _ _ (by kernel_rfl)] at h
  obtain ⟨ps, ⟨g0, t0, cs0, f0, p0, q0, _, _, _, _, ⟨g1, t1, cs1, f1, p1, q1, _, _, _, _, ⟨g, t, cs, fu, p, q, hg, ht, hv, hd, _, _⟩, _⟩, _⟩, _, _⟩ := h
  obtain rfl := Option.some.inj (gPow.symm.trans hg)
  obtain rfl := Option.some.inj ((show (Tryz.prog.globals[1]?).map (·.type) = some 335 by kernel_rfl).symm.trans ht)
  have hd : DataW.trod (fun _ => ()) Tryz.prog W 0 (fun _ => true) false fu 335 cs.toList = some (.agg (([1, 10, 100, 1000, 10000, 100000, 1000000, 10000000, 100000000, 1000000000, 10000000000, 100000000000, 1000000000000, 10000000000000, 100000000000000, 1000000000000000, 10000000000000000, 100000000000000000, 1000000000000000000, 10000000000000000000] : List Int).map fun x => .lit (.int .u64 x)), p) := hd
  have hc := cells_of_arr Tryz.underlying335 (show Tryz.prog.underlying 187 = some (.int .u64) by kernel_rfl) (by kernel_rfl) hd
  simp only [World.var?, hg, Option.bind_some] at hv
  split at hv
  · rename_i cs' e fz hh
    simp only [Option.some.injEq] at hv
    subst hv
    refine ⟨_, e, fz, hh, fun i a hi => ?_⟩
    unfold pow at hi
    rw [List.getElem?_map] at hi
    simp only [Option.map_eq_some_iff] at hi
    obtain ⟨n, h1, rfl⟩ := hi
    refine ⟨.int .u64 (.ofNat n), ?_, .int _ _, rfl⟩
    have h2 := hc i (.ofNat n) (by
      have e1 : ([1, 10, 100, 1000, 10000, 100000, 1000000, 10000000, 100000000, 1000000000, 10000000000, 100000000000, 1000000000000, 10000000000000, 100000000000000, 1000000000000000, 10000000000000000, 100000000000000000, 1000000000000000000, 10000000000000000000] : List Int) = ([1, 10, 100, 1000, 10000, 100000, 1000000, 10000000, 100000000, 1000000000, 10000000000, 100000000000, 1000000000000, 10000000000000, 100000000000000, 1000000000000000, 10000000000000000, 100000000000000000, 1000000000000000000, 10000000000000000000] : List Nat).map Int.ofNat := rfl
      rw [e1, List.getElem?_map, h1]; rfl)
    simpa using h2
  · cases hv


theorem three {α : Type} {l : List α} (h : l.length = 3) : ∃ a b c, l = [a, b, c] := by
  match l, h with
  | [a, b, c], _ => exact ⟨a, b, c, rfl⟩

/-- A slice of structs of three cells, as it came in. -/
theorem open3 {H : Type} {enc : TypeId × Value → H} {P : Program} {w : World} {base : Nat} {sp : Nat → Bool} {held : Bool} {fuel : Nat} {t e : TypeId} {f0 f1 f2 : Field} {v : Value} {x : DataW H × List MemPlace} (ht : P.underlying t = some (.slice e)) (he : P.underlying e = some (.struct #[f0, f1, f2]))
    (hc : P.cellsOf e = 3) (o0 : f0.offset = 0) (o1 : f1.offset = 1) (o2 : f2.offset = 2) (c0 : P.cellsOf f0.type = 1) (c1 : P.cellsOf f1.type = 1) (c2 : P.cellsOf f2.type = 1) (h : DataW.trod enc P w base sp held fuel t [v] = some x) :
    v = .slice none 0 0 ∨ (∃ p cap, v = .slice p 0 cap) ∨ ∃ a len cap cs el fz, v = .slice (some a) len cap ∧ len ≤ cap ∧ a.spot = none ∧ w.heap[a.block]? = some (.cells cs el fz) ∧
      ∀ i, i < len → ∃ u0 u1 u2 y0 y1 y2 n, cs[a.off + (i * 3 + 0)]? = some u0 ∧ cs[a.off + (i * 3 + 1)]? = some u1 ∧ cs[a.off + (i * 3 + 2)]? = some u2 ∧
        DataW.trod enc P w base sp held n f0.type [u0] = some y0 ∧ DataW.trod enc P w base sp held n f1.type [u1] = some y1 ∧ DataW.trod enc P w base sp held n f2.type [u2] = some y2 := by
  rcases DataW.trod_slice ht h with ⟨h1, _⟩ | ⟨a, len, cap, elems, rest, n, _, h1, _, _, hl, _, hlen, hel, _⟩
  · simp only [List.cons.injEq, and_true] at h1
    exact .inl h1
  simp only [List.cons.injEq, and_true] at h1
  by_cases hz : len = 0
  · subst hz; exact .inr (.inl ⟨_, _, h1⟩)
  refine .inr (.inr ?_)
  have each : ∀ i, i < len → ∃ u0 u1 u2 y0 y1 y2 n, w.cell? ((a.add (i * 3)).add 0) = some u0 ∧ w.cell? ((a.add (i * 3)).add 1) = some u1 ∧ w.cell? ((a.add (i * 3)).add 2) = some u2 ∧
        DataW.trod enc P w base sp held n f0.type [u0] = some y0 ∧ DataW.trod enc P w base sp held n f1.type [u1] = some y1 ∧ DataW.trod enc P w base sp held n f2.type [u2] = some y2 := by
    intro i hi
    have := hel i hi
    rw [List.getElem?_eq_getElem (by omega), Option.bind_eq_some_iff, hc] at this
    obtain ⟨cs, hcs, hy⟩ := this
    obtain ⟨_, hcl, hcell⟩ := World.cells?_some hcs
    obtain ⟨y0, y1, y2, n', _, _, e0, e1, e2⟩ := Go.Deep.trod_struct3 he hy
    obtain ⟨u0, u1, u2, rfl⟩ := three hcl
    rw [o0, c0] at e0
    rw [o1, c1] at e1
    rw [o2, c2] at e2
    exact ⟨u0, u1, u2, y0, y1, y2, n', hcell 0 (by omega), hcell 1 (by omega), hcell 2 (by omega), e0, e1, e2⟩
  obtain ⟨u0, _, _, _, _, _, _, k0, _⟩ := each 0 (by omega)
  obtain ⟨cs, el, fz, hh, _, hs⟩ := cell_heap k0
  rw [add_block, add_block] at hh
  have hs : a.spot = none := by
    have e1 : (a.add (0 * 3)).add 0 = a := by simp [Addr.add]
    rw [e1] at hs; exact hs
  have at_ : ∀ {m j : Nat} {u : Value}, w.cell? ((a.add m).add j) = some u → cs[a.off + (m + j)]? = some u := fun {m j u} hu => by
    obtain ⟨cs', el', fz', h1, h2, _⟩ := cell_heap hu
    rw [add_block, add_block, hh] at h1
    simp only [Option.some.injEq, Obj.cells.injEq] at h1
    rw [add_off, add_off, ← h1.1, Nat.add_assoc] at h2
    exact h2
  refine ⟨a, len, cap, cs, el, fz, h1, hl, hs, hh, fun i hi => ?_⟩
  obtain ⟨v0, v1, v2, y0, y1, y2, n', q0, q1, q2, q3, q4, q5⟩ := each i hi
  exact ⟨v0, v1, v2, y0, y1, y2, n', at_ q0, at_ q1, at_ q2, q3, q4, q5⟩

theorem byte_of {H : Type} {enc : TypeId × Value → H} {w : World} {base : Nat} {sp : Nat → Bool} {held : Bool} {n : Nat} {u : Value} {y : DataW H × List MemPlace} (h : DataW.trod enc Tryz.prog w base sp held n 5 [u] = some y) : ∃ k : Nat, k < 256 ∧ u = .int .u8 (.ofNat k) := by
  obtain ⟨m, h1, _, h2⟩ := DataW.trod_int (show Tryz.prog.underlying 5 = some (.int .u8) by kernel_rfl) h
  simp only [List.cons.injEq, and_true] at h1
  simp only [Lit.wf, Bool.and_eq_true, decide_eq_true_eq] at h2
  obtain ⟨h2, h3⟩ := h2
  have h2 : (0 : Int) ≤ m := h2
  have h3 : m ≤ 255 := h3
  exact ⟨m.toNat, by omega, by rw [h1]; congr 1; exact (Int.toNat_of_nonneg h2).symm⟩

theorem bits_arg {H : Type} {enc : TypeId × Value → H} {w : World} {base : Nat} {sp : Nat → Bool} {held : Bool} {fuel : Nat} {v : Value} {x : DataW H × List MemPlace} (b : Nat) (h : DataW.trod enc Tryz.prog w base sp held fuel 22 [v] = some x) :
    ∃ n av L c, ∃ bits : List Tp.Bit, SlArg w b 3 n v av L c (Tp.encBs bits) ∧ bits.length = n ∧ ∀ x ∈ bits, Tp.BitOK x := by
  rcases open3 Tryz.underlying22 Tryz.underlying77 (by kernel_rfl) rfl rfl rfl (by kernel_rfl) (by kernel_rfl) (by kernel_rfl) h with rfl | ⟨p, cap, rfl⟩ | ⟨a, len, cap, cs, el, fz, rfl, hl, hs, hh, hel⟩
  · exact ⟨0, _, _, _, [], slArg_nil, rfl, fun x hx => by cases hx⟩
  · exact ⟨0, _, _, _, [], slArg_empty, rfl, fun x hx => by cases hx⟩
  have each : ∀ i, i < len → ∃ q : Tp.Bit, Tp.BitOK q ∧ ∀ j, j < 3 → ∃ a' u, (Tp.encB q)[j]? = some a' ∧ cs[a.off + (i * 3 + j)]? = some u ∧ VRel (fun _ => none) a' u ∧ u.oneCell' = true := by
    intro i hi
    obtain ⟨u0, u1, u2, y0, y1, y2, n, k0, k1, k2, q0, q1, q2⟩ := hel i hi
    obtain ⟨g, hg, rfl⟩ := byte_of q0
    obtain ⟨t, ht, rfl⟩ := byte_of q1
    obtain ⟨u, hu, rfl⟩ := byte_of q2
    refine ⟨⟨g, t, u⟩, ⟨hg, ht, hu⟩, fun j hj => ?_⟩
    have : j = 0 ∨ j = 1 ∨ j = 2 := by omega
    rcases this with rfl | rfl | rfl
    · exact ⟨_, _, rfl, k0, .int _ _, rfl⟩
    · exact ⟨_, _, rfl, k1, .int _ _, rfl⟩
    · exact ⟨_, _, rfl, k2, .int _ _, rfl⟩
  classical
  let f : Nat → Tp.Bit := fun i => if hi : i < len then Classical.choose (each i hi) else ⟨0, 0, 0⟩
  have hf : ∀ i, (hi : i < len) → Tp.BitOK (f i) ∧ ∀ j, j < 3 → ∃ a' u, (Tp.encB (f i))[j]? = some a' ∧ cs[a.off + (i * 3 + j)]? = some u ∧ VRel (fun _ => none) a' u ∧ u.oneCell' = true := fun i hi => by
    have : f i = Classical.choose (each i hi) := dif_pos hi
    rw [this]; exact Classical.choose_spec (each i hi)
  refine ⟨len, _, _, _, (List.range len).map f, slArg_some hs hl (by rw [Tp.encBs_len]; simp) hh ?_, by simp, fun x hx => ?_⟩
  · intro i a' ha
    have hi : i < (Tp.encBs ((List.range len).map f)).length := (List.getElem?_eq_some_iff.1 ha).1
    rw [Tp.encBs_len] at hi
    simp only [List.length_map, List.length_range] at hi
    have h1 : ((List.range len).map f)[i / 3]? = some (f (i / 3)) := by
      rw [List.getElem?_map, List.getElem?_range (by omega)]; rfl
    have h2 := Tp.encBs_get _ (i / 3) (i % 3) _ h1 (Nat.mod_lt _ (by omega))
    have e1 : i / 3 * 3 + i % 3 = i := by omega
    obtain ⟨a'', u, k1, k2, k3, k4⟩ := (hf (i / 3) (by omega)).2 (i % 3) (Nat.mod_lt _ (by omega))
    rw [e1, ha, k1] at h2
    cases h2
    rw [e1] at k2
    exact ⟨u, k2, k3, k4⟩
  · obtain ⟨i, hi, rfl⟩ := List.mem_map.1 hx
    exact (hf i (List.mem_range.1 hi)).1
end Go.Proofs.YtkakkacpddiogaaGreatDoor
end
