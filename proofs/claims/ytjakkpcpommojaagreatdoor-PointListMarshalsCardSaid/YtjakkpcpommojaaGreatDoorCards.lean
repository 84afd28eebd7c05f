/-
  DERIVED. GIVEN WITH THE SEED: THE CARDS: each row of YtjakkpcpommojaaGreatDoorRows.lean that lists a variable, with what it lists TIED to the program's text (the seventh form; the later family's looks); each row that meets fmt, with fmt's text TOLD by the authors' own Lean function (tested against real Go, not proved from fmt's source: count such statements apart). THE CARD IS WHAT COUNTS. Prove the row's statement (the work); the ties are given (YtjakkpcpommojaaGreatDoorTie.lean); close each card by the builder's one call (the guide's Derived/Test/ToyasCard.lean, 'card_holds'). Laid BY PROGRAM, IN A SANDBOX (cutbox-door.mjs). By AI agents, Wed Nov 11 2026. No macro, syntax, notation, axiom, sorry.
-/
import Derived.Test.YtjakkpcpommojaaGreatDoorRows
import GoSem.ClaimSeven
namespace Go.Proofs.YtjakkpcpommojaaGreatDoor
namespace Rows

/-- THE TIED CARD OF 'cretulalaw19.PointMarshals'. -/
def pointMarshalsCard : Claim7 := { stood := { row := pointMarshalsRow, standIns := [], harness := (true, "8eb4ad114de4b4c9cb75eac84a7cfa8f62d7e64b956500d5bf046590b37fe830"), looks := true }, kinds := [], alts := [], laidByText := true, laidKinds := [.data, .data, .data, .data, .sentinel, .sentinel, .pinned], laidTests := true, laidLooks := .later }
def PointMarshalsCardSaid : Prop := Claim7.holds Tryz.pinned (.plain (OpenSpec.ofChange pointMarshalsSpec)) pointMarshalsCard

/-- THE TIED CARD OF 'cretulalaw19.PointIssuingMarshals'. -/
def pointIssuingMarshalsCard : Claim7 := { stood := { row := pointIssuingMarshalsRow, standIns := [], harness := (true, "8eb4ad114de4b4c9cb75eac84a7cfa8f62d7e64b956500d5bf046590b37fe830"), looks := true }, kinds := [], alts := [], laidByText := true, laidKinds := [.data, .data, .data, .data, .sentinel, .sentinel, .pinned], laidTests := true, laidLooks := .later }
def PointIssuingMarshalsCardSaid : Prop := Claim7.holds Tryz.pinned (.plain (OpenSpec.ofChange pointIssuingMarshalsSpec)) pointIssuingMarshalsCard

/-- THE TIED CARD OF 'cretulalaw19.PointListMarshals'. -/
def pointListMarshalsCard : Claim7 := { stood := { row := pointListMarshalsRow, standIns := [], harness := (true, "8eb4ad114de4b4c9cb75eac84a7cfa8f62d7e64b956500d5bf046590b37fe830"), looks := true }, kinds := [], alts := [], laidByText := true, laidKinds := [.data, .data, .data, .data, .sentinel, .sentinel, .pinned], laidTests := true, laidLooks := .later }
def PointListMarshalsCardSaid : Prop := Claim7.holds Tryz.pinned (.plain (OpenSpec.ofChange pointListMarshalsSpec)) pointListMarshalsCard

/-- THE SECOND FORM's CARD OF 'cretulalaw19.PointMarshals'. -/
def pointMarshalsUptoCard : Claim7 := { stood := { row := pointMarshalsUptoRow, standIns := [], harness := (true, "8eb4ad114de4b4c9cb75eac84a7cfa8f62d7e64b956500d5bf046590b37fe830"), looks := true }, kinds := [], alts := [], laidByText := true, laidKinds := [.data, .data, .data, .data, .sentinel, .sentinel, .pinned], laidTests := true, laidLooks := .later }
def PointMarshalsUptoCardSaid : Prop := Claim7.holds Tryz.pinned (.plain (OpenSpec.upto pointMarshalsSpec)) pointMarshalsUptoCard

/-- THE SECOND FORM's CARD OF 'cretulalaw19.PointIssuingMarshals'. -/
def pointIssuingMarshalsUptoCard : Claim7 := { stood := { row := pointIssuingMarshalsUptoRow, standIns := [], harness := (true, "8eb4ad114de4b4c9cb75eac84a7cfa8f62d7e64b956500d5bf046590b37fe830"), looks := true }, kinds := [], alts := [], laidByText := true, laidKinds := [.data, .data, .data, .data, .sentinel, .sentinel, .pinned], laidTests := true, laidLooks := .later }
def PointIssuingMarshalsUptoCardSaid : Prop := Claim7.holds Tryz.pinned (.plain (OpenSpec.upto pointIssuingMarshalsSpec)) pointIssuingMarshalsUptoCard

/-- THE SECOND FORM's CARD OF 'cretulalaw19.PointListMarshals'. -/
def pointListMarshalsUptoCard : Claim7 := { stood := { row := pointListMarshalsUptoRow, standIns := [], harness := (true, "8eb4ad114de4b4c9cb75eac84a7cfa8f62d7e64b956500d5bf046590b37fe830"), looks := true }, kinds := [], alts := [], laidByText := true, laidKinds := [.data, .data, .data, .data, .sentinel, .sentinel, .pinned], laidTests := true, laidLooks := .later }
def PointListMarshalsUptoCardSaid : Prop := Claim7.holds Tryz.pinned (.plain (OpenSpec.upto pointListMarshalsSpec)) pointListMarshalsUptoCard
end Rows
end Go.Proofs.YtjakkpcpommojaaGreatDoor
