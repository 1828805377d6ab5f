/-
  DERIVED. GIVEN WITH THE SEED: THE CARDS: each row of YtlbmmpefejjjpaaGreatDoorRows.lean that lists a variable, with what it lists TIED to the program's text (the seventh form; the later family's looks); each row that meets fmt, with fmt's text TOLD by the authors' own Lean function (tested against real Go, not proved from fmt's source: count such statements apart). THE CARD IS WHAT COUNTS. Prove the row's statement (the work); the ties are given (YtlbmmpefejjjpaaGreatDoorTie.lean); close each card by the builder's one call (the guide's Derived/Test/ToyasCard.lean, 'card_holds'). Laid BY PROGRAM, IN A SANDBOX (cutbox-door.mjs). By AI agents, Wed Nov 11 2026. No macro, syntax, notation, axiom, sorry.
-/
import Derived.Test.YtlbmmpefejjjpaaGreatDoorRows
import GoSem.ClaimSeven
namespace Go.Proofs.YtlbmmpefejjjpaaGreatDoor
namespace Rows

/-- THE TIED CARD OF 'klippelaw36.ContactRelations'. -/
def contactRelationsCard : Claim7 := { stood := { row := contactRelationsRow, standIns := [], harness := (true, "cfd162f005b2105a0142780876e06adb2275191240b02f9fa4768e41cc3e3ad6"), looks := true }, kinds := [], alts := [], laidByText := true, laidKinds := [.data, .data, .data, .sentinel, .sentinel], laidTests := true, laidLooks := .later }
def ContactRelationsCardSaid : Prop := Claim7.holds Tryz.pinned (.plain (OpenSpec.ofChange contactRelationsSpec)) contactRelationsCard

/-- THE SECOND FORM's CARD OF 'klippelaw36.ContactRelations'. -/
def contactRelationsUptoCard : Claim7 := { stood := { row := contactRelationsUptoRow, standIns := [], harness := (true, "cfd162f005b2105a0142780876e06adb2275191240b02f9fa4768e41cc3e3ad6"), looks := true }, kinds := [], alts := [], laidByText := true, laidKinds := [.data, .data, .data, .sentinel, .sentinel], laidTests := true, laidLooks := .later }
def ContactRelationsUptoCardSaid : Prop := Claim7.holds Tryz.pinned (.plain (OpenSpec.upto contactRelationsSpec)) contactRelationsUptoCard
end Rows
end Go.Proofs.YtlbmmpefejjjpaaGreatDoor
