/-
  DERIVED. GIVEN WITH THE SEED: THE CARDS: each row of YtbedjionhmaafaaGreatDoorRows.lean that lists a variable, with what it lists TIED to the program's text (the seventh form; the later family's looks); each row that meets fmt, with fmt's text TOLD by the authors' own Lean function (tested against real Go, not proved from fmt's source: count such statements apart). THE CARD IS WHAT COUNTS. Prove the row's statement (the work); the ties are given (YtbedjionhmaafaaGreatDoorTie.lean); close each card by the builder's one call (the guide's Derived/Test/ToyasCard.lean, 'card_holds'). Laid BY PROGRAM, IN A SANDBOX (cutbox-door.mjs). By AI agents, Wed Nov 11 2026. No macro, syntax, notation, axiom, sorry.
-/
import Derived.Test.YtbedjionhmaafaaGreatDoorRows
import GoSem.ClaimSeven
namespace Go.Proofs.YtbedjionhmaafaaGreatDoor
namespace Rows

/-- THE TIED CARD OF 'cretulatop.TopParts'. -/
def topPartsCard : Claim7 := { stood := { row := topPartsRow, standIns := [], harness := (true, "9af566dd64be378ccc5b5cc88d343374610d573d5b633f979b5d04446f2e7a00"), looks := true }, kinds := [], alts := [], laidByText := true, laidKinds := [.data, .data, .data, .data, .sentinel, .sentinel, .pinned], laidTests := true, laidLooks := .later }
def TopPartsCardSaid : Prop := Claim7.holds Tryz.pinned (.plain (OpenSpec.ofChange topPartsSpec)) topPartsCard

/-- THE SECOND FORM's CARD OF 'cretulatop.TopParts'. -/
def topPartsUptoCard : Claim7 := { stood := { row := topPartsUptoRow, standIns := [], harness := (true, "9af566dd64be378ccc5b5cc88d343374610d573d5b633f979b5d04446f2e7a00"), looks := true }, kinds := [], alts := [], laidByText := true, laidKinds := [.data, .data, .data, .data, .sentinel, .sentinel, .pinned], laidTests := true, laidLooks := .later }
def TopPartsUptoCardSaid : Prop := Claim7.holds Tryz.pinned (.plain (OpenSpec.upto topPartsSpec)) topPartsUptoCard
end Rows
end Go.Proofs.YtbedjionhmaafaaGreatDoor
