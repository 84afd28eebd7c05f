/-
  DERIVED. GIVEN WITH THE SEED: THE CARDS: each row of YtgpaehhbdbgeaaaGreatDoorRows.lean that lists a variable, with what it lists TIED to the program's text (the seventh form; the later family's looks); each row that meets fmt, with fmt's text TOLD by the authors' own Lean function (tested against real Go, not proved from fmt's source: count such statements apart). THE CARD IS WHAT COUNTS. Prove the row's statement (the work); the ties are given (YtgpaehhbdbgeaaaGreatDoorTie.lean); close each card by the builder's one call (the guide's Derived/Test/ToyasCard.lean, 'card_holds'). Laid BY PROGRAM, IN A SANDBOX (cutbox-door.mjs). By AI agents, Wed Nov 11 2026. No macro, syntax, notation, axiom, sorry.
-/
import Derived.Test.YtgpaehhbdbgeaaaGreatDoorRows
import GoSem.ClaimSeven
namespace Go.Proofs.YtgpaehhbdbgeaaaGreatDoor
namespace Rows

/-- THE TIED CARD OF 'cretulalaw19.PointCovers'. -/
def pointCoversCard : Claim7 := { stood := { row := pointCoversRow, standIns := [], harness := (true, "1cf83d020dcc7b268892ad79a1da7ca62d8a89a8ba4cca745bcfdafabb9347b7"), looks := true }, kinds := [], alts := [], laidByText := true, laidKinds := [.data, .data, .data, .data, .sentinel, .sentinel, .pinned], laidTests := true, laidLooks := .later }
def PointCoversCardSaid : Prop := Claim7.holds Tryz.pinned (.plain (OpenSpec.ofChange pointCoversSpec)) pointCoversCard

/-- THE TIED CARD OF 'cretulalaw19.PointMarshals'. -/
def pointMarshalsCard : Claim7 := { stood := { row := pointMarshalsRow, standIns := [], harness := (true, "1cf83d020dcc7b268892ad79a1da7ca62d8a89a8ba4cca745bcfdafabb9347b7"), looks := true }, kinds := [], alts := [], laidByText := true, laidKinds := [.data, .data, .data, .data, .sentinel, .sentinel, .pinned], laidTests := true, laidLooks := .later }
def PointMarshalsCardSaid : Prop := Claim7.holds Tryz.pinned (.plain (OpenSpec.ofChange pointMarshalsSpec)) pointMarshalsCard

/-- THE TIED CARD OF 'cretulalaw19.PointParses'. -/
def pointParsesCard : Claim7 := { stood := { row := pointParsesRow, standIns := [], harness := (true, "1cf83d020dcc7b268892ad79a1da7ca62d8a89a8ba4cca745bcfdafabb9347b7"), looks := true }, kinds := [], alts := [], laidByText := true, laidKinds := [.data, .data, .data, .data, .sentinel, .sentinel, .pinned], laidTests := true, laidLooks := .later }
def PointParsesCardSaid : Prop := Claim7.holds Tryz.pinned (.plain (OpenSpec.ofChange pointParsesSpec)) pointParsesCard

/-- THE TIED CARD OF 'cretulalaw19.PointChanges'. -/
def pointChangesCard : Claim7 := { stood := { row := pointChangesRow, standIns := [], harness := (true, "1cf83d020dcc7b268892ad79a1da7ca62d8a89a8ba4cca745bcfdafabb9347b7"), looks := true }, kinds := [], alts := [], laidByText := true, laidKinds := [.data, .data, .data, .data, .sentinel, .sentinel, .pinned], laidTests := true, laidLooks := .later }
def PointChangesCardSaid : Prop := Claim7.holds Tryz.pinned (.plain (OpenSpec.ofChange pointChangesSpec)) pointChangesCard

/-- THE TIED CARD OF 'cretulalaw19.PointEnds'. -/
def pointEndsCard : Claim7 := { stood := { row := pointEndsRow, standIns := [], harness := (true, "1cf83d020dcc7b268892ad79a1da7ca62d8a89a8ba4cca745bcfdafabb9347b7"), looks := true }, kinds := [], alts := [], laidByText := true, laidKinds := [.data, .data, .data, .data, .sentinel, .sentinel, .pinned], laidTests := true, laidLooks := .later }
def PointEndsCardSaid : Prop := Claim7.holds Tryz.pinned (.plain (OpenSpec.ofChange pointEndsSpec)) pointEndsCard

/-- THE TIED CARD OF 'cretulalaw19.PointCopies'. -/
def pointCopiesCard : Claim7 := { stood := { row := pointCopiesRow, standIns := [], harness := (true, "1cf83d020dcc7b268892ad79a1da7ca62d8a89a8ba4cca745bcfdafabb9347b7"), looks := true }, kinds := [], alts := [], laidByText := true, laidKinds := [.data, .data, .data, .data, .sentinel, .sentinel, .pinned], laidTests := true, laidLooks := .later }
def PointCopiesCardSaid : Prop := Claim7.holds Tryz.pinned (.plain (OpenSpec.ofChange pointCopiesSpec)) pointCopiesCard

/-- THE TIED CARD OF 'cretulalaw19.PointIssuingMarshals'. -/
def pointIssuingMarshalsCard : Claim7 := { stood := { row := pointIssuingMarshalsRow, standIns := [], harness := (true, "1cf83d020dcc7b268892ad79a1da7ca62d8a89a8ba4cca745bcfdafabb9347b7"), looks := true }, kinds := [], alts := [], laidByText := true, laidKinds := [.data, .data, .data, .data, .sentinel, .sentinel, .pinned], laidTests := true, laidLooks := .later }
def PointIssuingMarshalsCardSaid : Prop := Claim7.holds Tryz.pinned (.plain (OpenSpec.ofChange pointIssuingMarshalsSpec)) pointIssuingMarshalsCard

/-- THE TIED CARD OF 'cretulalaw19.PointIssuingParses'. -/
def pointIssuingParsesCard : Claim7 := { stood := { row := pointIssuingParsesRow, standIns := [], harness := (true, "1cf83d020dcc7b268892ad79a1da7ca62d8a89a8ba4cca745bcfdafabb9347b7"), looks := true }, kinds := [], alts := [], laidByText := true, laidKinds := [.data, .data, .data, .data, .sentinel, .sentinel, .pinned], laidTests := true, laidLooks := .later }
def PointIssuingParsesCardSaid : Prop := Claim7.holds Tryz.pinned (.plain (OpenSpec.ofChange pointIssuingParsesSpec)) pointIssuingParsesCard

/-- THE TIED CARD OF 'cretulalaw19.PointIssuingChanges'. -/
def pointIssuingChangesCard : Claim7 := { stood := { row := pointIssuingChangesRow, standIns := [], harness := (true, "1cf83d020dcc7b268892ad79a1da7ca62d8a89a8ba4cca745bcfdafabb9347b7"), looks := true }, kinds := [], alts := [], laidByText := true, laidKinds := [.data, .data, .data, .data, .sentinel, .sentinel, .pinned], laidTests := true, laidLooks := .later }
def PointIssuingChangesCardSaid : Prop := Claim7.holds Tryz.pinned (.plain (OpenSpec.ofChange pointIssuingChangesSpec)) pointIssuingChangesCard

/-- THE TIED CARD OF 'cretulalaw19.PointListMarshals'. -/
def pointListMarshalsCard : Claim7 := { stood := { row := pointListMarshalsRow, standIns := [], harness := (true, "1cf83d020dcc7b268892ad79a1da7ca62d8a89a8ba4cca745bcfdafabb9347b7"), looks := true }, kinds := [], alts := [], laidByText := true, laidKinds := [.data, .data, .data, .data, .sentinel, .sentinel, .pinned], laidTests := true, laidLooks := .later }
def PointListMarshalsCardSaid : Prop := Claim7.holds Tryz.pinned (.plain (OpenSpec.ofChange pointListMarshalsSpec)) pointListMarshalsCard

/-- THE TIED CARD OF 'cretulalaw19.PointListParses'. -/
def pointListParsesCard : Claim7 := { stood := { row := pointListParsesRow, standIns := [], harness := (true, "1cf83d020dcc7b268892ad79a1da7ca62d8a89a8ba4cca745bcfdafabb9347b7"), looks := true }, kinds := [], alts := [], laidByText := true, laidKinds := [.data, .data, .data, .data, .sentinel, .sentinel, .pinned], laidTests := true, laidLooks := .later }
def PointListParsesCardSaid : Prop := Claim7.holds Tryz.pinned (.plain (OpenSpec.ofChange pointListParsesSpec)) pointListParsesCard

/-- THE SECOND FORM's CARD OF 'cretulalaw19.PointCovers'. -/
def pointCoversUptoCard : Claim7 := { stood := { row := pointCoversUptoRow, standIns := [], harness := (true, "1cf83d020dcc7b268892ad79a1da7ca62d8a89a8ba4cca745bcfdafabb9347b7"), looks := true }, kinds := [], alts := [], laidByText := true, laidKinds := [.data, .data, .data, .data, .sentinel, .sentinel, .pinned], laidTests := true, laidLooks := .later }
def PointCoversUptoCardSaid : Prop := Claim7.holds Tryz.pinned (.plain (OpenSpec.upto pointCoversSpec)) pointCoversUptoCard

/-- THE SECOND FORM's CARD OF 'cretulalaw19.PointMarshals'. -/
def pointMarshalsUptoCard : Claim7 := { stood := { row := pointMarshalsUptoRow, standIns := [], harness := (true, "1cf83d020dcc7b268892ad79a1da7ca62d8a89a8ba4cca745bcfdafabb9347b7"), looks := true }, kinds := [], alts := [], laidByText := true, laidKinds := [.data, .data, .data, .data, .sentinel, .sentinel, .pinned], laidTests := true, laidLooks := .later }
def PointMarshalsUptoCardSaid : Prop := Claim7.holds Tryz.pinned (.plain (OpenSpec.upto pointMarshalsSpec)) pointMarshalsUptoCard

/-- THE SECOND FORM's CARD OF 'cretulalaw19.PointParses'. -/
def pointParsesUptoCard : Claim7 := { stood := { row := pointParsesUptoRow, standIns := [], harness := (true, "1cf83d020dcc7b268892ad79a1da7ca62d8a89a8ba4cca745bcfdafabb9347b7"), looks := true }, kinds := [], alts := [], laidByText := true, laidKinds := [.data, .data, .data, .data, .sentinel, .sentinel, .pinned], laidTests := true, laidLooks := .later }
def PointParsesUptoCardSaid : Prop := Claim7.holds Tryz.pinned (.plain (OpenSpec.upto pointParsesSpec)) pointParsesUptoCard

/-- THE SECOND FORM's CARD OF 'cretulalaw19.PointChanges'. -/
def pointChangesUptoCard : Claim7 := { stood := { row := pointChangesUptoRow, standIns := [], harness := (true, "1cf83d020dcc7b268892ad79a1da7ca62d8a89a8ba4cca745bcfdafabb9347b7"), looks := true }, kinds := [], alts := [], laidByText := true, laidKinds := [.data, .data, .data, .data, .sentinel, .sentinel, .pinned], laidTests := true, laidLooks := .later }
def PointChangesUptoCardSaid : Prop := Claim7.holds Tryz.pinned (.plain (OpenSpec.upto pointChangesSpec)) pointChangesUptoCard

/-- THE SECOND FORM's CARD OF 'cretulalaw19.PointEnds'. -/
def pointEndsUptoCard : Claim7 := { stood := { row := pointEndsUptoRow, standIns := [], harness := (true, "1cf83d020dcc7b268892ad79a1da7ca62d8a89a8ba4cca745bcfdafabb9347b7"), looks := true }, kinds := [], alts := [], laidByText := true, laidKinds := [.data, .data, .data, .data, .sentinel, .sentinel, .pinned], laidTests := true, laidLooks := .later }
def PointEndsUptoCardSaid : Prop := Claim7.holds Tryz.pinned (.plain (OpenSpec.upto pointEndsSpec)) pointEndsUptoCard

/-- THE SECOND FORM's CARD OF 'cretulalaw19.PointCopies'. -/
def pointCopiesUptoCard : Claim7 := { stood := { row := pointCopiesUptoRow, standIns := [], harness := (true, "1cf83d020dcc7b268892ad79a1da7ca62d8a89a8ba4cca745bcfdafabb9347b7"), looks := true }, kinds := [], alts := [], laidByText := true, laidKinds := [.data, .data, .data, .data, .sentinel, .sentinel, .pinned], laidTests := true, laidLooks := .later }
def PointCopiesUptoCardSaid : Prop := Claim7.holds Tryz.pinned (.plain (OpenSpec.upto pointCopiesSpec)) pointCopiesUptoCard

/-- THE SECOND FORM's CARD OF 'cretulalaw19.PointIssuingMarshals'. -/
def pointIssuingMarshalsUptoCard : Claim7 := { stood := { row := pointIssuingMarshalsUptoRow, standIns := [], harness := (true, "1cf83d020dcc7b268892ad79a1da7ca62d8a89a8ba4cca745bcfdafabb9347b7"), looks := true }, kinds := [], alts := [], laidByText := true, laidKinds := [.data, .data, .data, .data, .sentinel, .sentinel, .pinned], laidTests := true, laidLooks := .later }
def PointIssuingMarshalsUptoCardSaid : Prop := Claim7.holds Tryz.pinned (.plain (OpenSpec.upto pointIssuingMarshalsSpec)) pointIssuingMarshalsUptoCard

/-- THE SECOND FORM's CARD OF 'cretulalaw19.PointIssuingParses'. -/
def pointIssuingParsesUptoCard : Claim7 := { stood := { row := pointIssuingParsesUptoRow, standIns := [], harness := (true, "1cf83d020dcc7b268892ad79a1da7ca62d8a89a8ba4cca745bcfdafabb9347b7"), looks := true }, kinds := [], alts := [], laidByText := true, laidKinds := [.data, .data, .data, .data, .sentinel, .sentinel, .pinned], laidTests := true, laidLooks := .later }
def PointIssuingParsesUptoCardSaid : Prop := Claim7.holds Tryz.pinned (.plain (OpenSpec.upto pointIssuingParsesSpec)) pointIssuingParsesUptoCard

/-- THE SECOND FORM's CARD OF 'cretulalaw19.PointIssuingChanges'. -/
def pointIssuingChangesUptoCard : Claim7 := { stood := { row := pointIssuingChangesUptoRow, standIns := [], harness := (true, "1cf83d020dcc7b268892ad79a1da7ca62d8a89a8ba4cca745bcfdafabb9347b7"), looks := true }, kinds := [], alts := [], laidByText := true, laidKinds := [.data, .data, .data, .data, .sentinel, .sentinel, .pinned], laidTests := true, laidLooks := .later }
def PointIssuingChangesUptoCardSaid : Prop := Claim7.holds Tryz.pinned (.plain (OpenSpec.upto pointIssuingChangesSpec)) pointIssuingChangesUptoCard

/-- THE SECOND FORM's CARD OF 'cretulalaw19.PointListMarshals'. -/
def pointListMarshalsUptoCard : Claim7 := { stood := { row := pointListMarshalsUptoRow, standIns := [], harness := (true, "1cf83d020dcc7b268892ad79a1da7ca62d8a89a8ba4cca745bcfdafabb9347b7"), looks := true }, kinds := [], alts := [], laidByText := true, laidKinds := [.data, .data, .data, .data, .sentinel, .sentinel, .pinned], laidTests := true, laidLooks := .later }
def PointListMarshalsUptoCardSaid : Prop := Claim7.holds Tryz.pinned (.plain (OpenSpec.upto pointListMarshalsSpec)) pointListMarshalsUptoCard

/-- THE SECOND FORM's CARD OF 'cretulalaw19.PointListParses'. -/
def pointListParsesUptoCard : Claim7 := { stood := { row := pointListParsesUptoRow, standIns := [], harness := (true, "1cf83d020dcc7b268892ad79a1da7ca62d8a89a8ba4cca745bcfdafabb9347b7"), looks := true }, kinds := [], alts := [], laidByText := true, laidKinds := [.data, .data, .data, .data, .sentinel, .sentinel, .pinned], laidTests := true, laidLooks := .later }
def PointListParsesUptoCardSaid : Prop := Claim7.holds Tryz.pinned (.plain (OpenSpec.upto pointListParsesSpec)) pointListParsesUptoCard
end Rows
end Go.Proofs.YtgpaehhbdbgeaaaGreatDoor
