/- WelllogTops, lifted to the model's form. -/
import Derived.Test.YtkakkacpddiogaaGreatDoorFa43

set_option linter.unusedSimpArgs false
set_option linter.unusedVariables false
section
namespace Go.Proofs.YtkakkacpddiogaaGreatDoor
open Go.ChangeShapes Go.WideShapes Go.ChangeAt Go.WideMaps Go.WideElems Go.RowKit
open Ev Ev.Or
set_option maxRecDepth 100000

theorem lifted (os : Os) (started : os.Started) (H : Type) (enc : TypeId × Value → H) :
    ReturnsInHanded {} Tryz.checked os 3 .any (fun w args => (Rows.welllogTopsSpec.pre enc Tryz.prog Tryz.f3 [] false w args ∧ laidMetH Tryz.prog Rows.welllogTopsRow.laid w) ∧ sizedMet enc Tryz.prog Tryz.f3 (OpenSpec.ofChange Rows.welllogTopsSpec) false w args)
      (Rows.welllogTopsSpec.post enc Tryz.prog Tryz.f3 false true false false) := by
  refine returnsInHanded_of_change_and (C := Tryz.checked) (X := fun w _ => laidMetH Tryz.prog Rows.welllogTopsRow.laid w) (fun _ _ _ hh h => h.of_heap hh) own started (by kernel_rfl) Tryz.func3
    (ChangeSpec.witness_shaped (enc := enc) (C := Tryz.checked) (os := os) (X := fun w _ => laidMetH Tryz.prog Rows.welllogTopsRow.laid w) false (World.doorLaid Tryz.prog 400 os) #[.slice none 0 0] 8 rfl (World.shaped_of_RefB (by kernel_rfl) (by kernel_rfl)) (by kernel_rfl) (by kernel_rfl) (by kernel_rfl) (door_met os _)) ?_
  intro W base args ds gs before hval0 hW _ _ hL _
  have hval : ∀ (j : Nat) t v, Tryz.f3.params[j]? = some t → args[j]? = some v → Value.okWide Tryz.prog W .any base t v := hval0
  have hW' := hW
  obtain ⟨p, q, hA0, hV, rfl, hfz, hnd⟩ := hW
  have hA : DataW.TrodAll enc Tryz.prog W 0 (fun _ => true) true Tryz.f3.params.toList args.toList ds p := hA0
  rw [Tryz.params3] at hA hval
  obtain ⟨v0, d0, rfl, rfl, h0⟩ := trodAll_one hA
  obtain ⟨rfl, rfl⟩ := trodVars_none hV
  clear hA0 hval0
  simp only [List.append_nil] at hW'
  have h0k := h0
  obtain ⟨a0, len0, cap0, hv0⟩ := okWide_slice Tryz.underlying22 (hval 0 22 v0 rfl rfl)
  obtain ⟨fuel, hf⟩ := h0
  rw [show v0.cells.toList = [v0] by rw [hv0]; rfl] at hf
  obtain ⟨n, av, L, c, bits, hS, hb, hB⟩ := bits_arg 2 hf
  have key : Calls Tryz.prog 3 ⟨[v0]⟩ W fun e w' => e = .returned (.bool true) ∧ Below W.heap.size W w' := by
    have hR := hS.rd (rows3 pow c none) 4 (by omega) (by unfold rows3; rw [T.get_set, if_neg (by omega), T.get_set, if_pos rfl])
    refine calls3 (orc := orcL Tp.lT) (fns := fns43) (LF := 100000) (fuel := 6) mixed Td.tied Tp.lT_ok (pow_of_laid hL) (L2 := L) (L3 := none) (c2 := c) (c3 := none) hS.ro (.inl rfl) (args := [av]) (.cons (hS.rel _ rfl) .nil) ?_
    show oR (bo (fns43.get 3) fun fn => evFn (Tp.CT 5) 100000 fn [av] (rows3 pow c none) 4) _
    rw [show fns43.get 3 = some I.I3 from rfl]
    show oR (evFn (Tp.CT 5) 100000 I.I3 [av] (rows3 pow c none) 4) _
    by_cases hn : n ≤ 8
    · exact Tp.law_all (l := bits) (fun rows' nx' => hR.len) (by omega) hB (fun _ => ⟨hb, hR⟩)
    · exact Tp.law_all (l := []) (fun rows' nx' => hR.len) (by simp) (fun x hx => by cases hx) (fun h => absurd h hn)
  refine Calls.mono key fun e W' he => ?_
  obtain ⟨rfl, hb⟩ := he
  have hlt : ∀ x ∈ p, x.block < W.heap.size := fun x hx => by simpa using hW'.lt x hx
  refine ⟨_, rfl, _, _, _, [], p, [], hW', trodAll_mk1 (shut_bool Tryz.underlying4 true), trodAll_mk1 (Below.trod laidOut (by kernel_rfl) (of_decide_eq_true (by kernel_rfl)) h0k hb hlt), rfl, hb.frame _, fun h => by cases h⟩

end Go.Proofs.YtkakkacpddiogaaGreatDoor
end
