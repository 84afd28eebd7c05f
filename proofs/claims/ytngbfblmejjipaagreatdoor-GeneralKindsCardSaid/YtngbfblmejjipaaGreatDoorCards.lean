/-
  DERIVED. GIVEN WITH THE SEED: THE CARDS: each row of YtngbfblmejjipaaGreatDoorRows.lean that lists a variable, with what it lists TIED to the program's text (the seventh form; the later family's looks); each row that meets fmt, with fmt's text TOLD by the authors' own Lean function (tested against real Go, not proved from fmt's source: count such statements apart). THE CARD IS WHAT COUNTS. Prove the row's statement (the work); the ties are given (YtngbfblmejjipaaGreatDoorTie.lean); close each card by the builder's one call (the guide's Derived/Test/ToyasCard.lean, 'card_holds'). Laid BY PROGRAM, IN A SANDBOX (cutbox-door.mjs). By AI agents, Wed Nov 11 2026. No macro, syntax, notation, axiom, sorry.
-/
import Derived.Test.YtngbfblmejjipaaGreatDoorRows
import GoSem.ClaimSeven
namespace Go.Proofs.YtngbfblmejjipaaGreatDoor
namespace Rows

/-- THE TIED CARD OF 'cretulalaw13.GeneralChanges'. -/
def generalChangesCard : Claim7 := { stood := { row := generalChangesRow, standIns := [], harness := (true, "804ee12cbeead7b5648003fcf39ff1ff3d2ef0de14ee5d78d246a44994b77c5c"), looks := true }, kinds := [], alts := [], laidByText := true, laidKinds := [.data, .data, .data, .data, .sentinel, .sentinel, .pinned], laidTests := true, laidLooks := .later }
def GeneralChangesCardSaid : Prop := Claim7.holds Tryz.pinned (.plain (OpenSpec.ofChange generalChangesSpec)) generalChangesCard

/-- THE TIED CARD OF 'cretulalaw13.GeneralEnds'. -/
def generalEndsCard : Claim7 := { stood := { row := generalEndsRow, standIns := [], harness := (true, "804ee12cbeead7b5648003fcf39ff1ff3d2ef0de14ee5d78d246a44994b77c5c"), looks := true }, kinds := [], alts := [], laidByText := true, laidKinds := [.data, .data, .data, .data, .sentinel, .sentinel, .pinned], laidTests := true, laidLooks := .later }
def GeneralEndsCardSaid : Prop := Claim7.holds Tryz.pinned (.plain (OpenSpec.ofChange generalEndsSpec)) generalEndsCard

/-- THE TIED CARD OF 'cretulalaw13.GeneralCopies'. -/
def generalCopiesCard : Claim7 := { stood := { row := generalCopiesRow, standIns := [], harness := (true, "804ee12cbeead7b5648003fcf39ff1ff3d2ef0de14ee5d78d246a44994b77c5c"), looks := true }, kinds := [], alts := [], laidByText := true, laidKinds := [.data, .data, .data, .data, .sentinel, .sentinel, .pinned], laidTests := true, laidLooks := .later }
def GeneralCopiesCardSaid : Prop := Claim7.holds Tryz.pinned (.plain (OpenSpec.ofChange generalCopiesSpec)) generalCopiesCard

/-- THE TIED CARD OF 'cretulalaw13.GeneralMarshals'. -/
def generalMarshalsCard : Claim7 := { stood := { row := generalMarshalsRow, standIns := [], harness := (true, "804ee12cbeead7b5648003fcf39ff1ff3d2ef0de14ee5d78d246a44994b77c5c"), looks := true }, kinds := [], alts := [], laidByText := true, laidKinds := [.data, .data, .data, .data, .sentinel, .sentinel, .pinned], laidTests := true, laidLooks := .later }
def GeneralMarshalsCardSaid : Prop := Claim7.holds Tryz.pinned (.plain (OpenSpec.ofChange generalMarshalsSpec)) generalMarshalsCard

/-- THE TIED CARD OF 'cretulalaw13.GeneralParses'. -/
def generalParsesCard : Claim7 := { stood := { row := generalParsesRow, standIns := [], harness := (true, "804ee12cbeead7b5648003fcf39ff1ff3d2ef0de14ee5d78d246a44994b77c5c"), looks := true }, kinds := [], alts := [], laidByText := true, laidKinds := [.data, .data, .data, .data, .sentinel, .sentinel, .pinned], laidTests := true, laidLooks := .later }
def GeneralParsesCardSaid : Prop := Claim7.holds Tryz.pinned (.plain (OpenSpec.ofChange generalParsesSpec)) generalParsesCard

/-- THE TIED CARD OF 'cretulalaw13.GeneralListChanges'. -/
def generalListChangesCard : Claim7 := { stood := { row := generalListChangesRow, standIns := [], harness := (true, "804ee12cbeead7b5648003fcf39ff1ff3d2ef0de14ee5d78d246a44994b77c5c"), looks := true }, kinds := [], alts := [], laidByText := true, laidKinds := [.data, .data, .data, .data, .sentinel, .sentinel, .pinned], laidTests := true, laidLooks := .later }
def GeneralListChangesCardSaid : Prop := Claim7.holds Tryz.pinned (.plain (OpenSpec.ofChange generalListChangesSpec)) generalListChangesCard

/-- THE TIED CARD OF 'cretulalaw13.GeneralListMarshals'. -/
def generalListMarshalsCard : Claim7 := { stood := { row := generalListMarshalsRow, standIns := [], harness := (true, "804ee12cbeead7b5648003fcf39ff1ff3d2ef0de14ee5d78d246a44994b77c5c"), looks := true }, kinds := [], alts := [], laidByText := true, laidKinds := [.data, .data, .data, .data, .sentinel, .sentinel, .pinned], laidTests := true, laidLooks := .later }
def GeneralListMarshalsCardSaid : Prop := Claim7.holds Tryz.pinned (.plain (OpenSpec.ofChange generalListMarshalsSpec)) generalListMarshalsCard

/-- THE TIED CARD OF 'cretulalaw13.GeneralListParses'. -/
def generalListParsesCard : Claim7 := { stood := { row := generalListParsesRow, standIns := [], harness := (true, "804ee12cbeead7b5648003fcf39ff1ff3d2ef0de14ee5d78d246a44994b77c5c"), looks := true }, kinds := [], alts := [], laidByText := true, laidKinds := [.data, .data, .data, .data, .sentinel, .sentinel, .pinned], laidTests := true, laidLooks := .later }
def GeneralListParsesCardSaid : Prop := Claim7.holds Tryz.pinned (.plain (OpenSpec.ofChange generalListParsesSpec)) generalListParsesCard

/-- THE TIED CARD OF 'cretulalaw13.GeneralKinds'. -/
def generalKindsCard : Claim7 := { stood := { row := generalKindsRow, standIns := [], harness := (true, "804ee12cbeead7b5648003fcf39ff1ff3d2ef0de14ee5d78d246a44994b77c5c"), looks := true }, kinds := [], alts := [], laidByText := true, laidKinds := [.data, .data, .data, .data, .sentinel, .sentinel, .pinned], laidTests := true, laidLooks := .later }
def GeneralKindsCardSaid : Prop := Claim7.holds Tryz.pinned (.plain (OpenSpec.ofChange generalKindsSpec)) generalKindsCard

/-- THE SECOND FORM's CARD OF 'cretulalaw13.GeneralChanges'. -/
def generalChangesUptoCard : Claim7 := { stood := { row := generalChangesUptoRow, standIns := [], harness := (true, "804ee12cbeead7b5648003fcf39ff1ff3d2ef0de14ee5d78d246a44994b77c5c"), looks := true }, kinds := [], alts := [], laidByText := true, laidKinds := [.data, .data, .data, .data, .sentinel, .sentinel, .pinned], laidTests := true, laidLooks := .later }
def GeneralChangesUptoCardSaid : Prop := Claim7.holds Tryz.pinned (.plain (OpenSpec.upto generalChangesSpec)) generalChangesUptoCard

/-- THE SECOND FORM's CARD OF 'cretulalaw13.GeneralEnds'. -/
def generalEndsUptoCard : Claim7 := { stood := { row := generalEndsUptoRow, standIns := [], harness := (true, "804ee12cbeead7b5648003fcf39ff1ff3d2ef0de14ee5d78d246a44994b77c5c"), looks := true }, kinds := [], alts := [], laidByText := true, laidKinds := [.data, .data, .data, .data, .sentinel, .sentinel, .pinned], laidTests := true, laidLooks := .later }
def GeneralEndsUptoCardSaid : Prop := Claim7.holds Tryz.pinned (.plain (OpenSpec.upto generalEndsSpec)) generalEndsUptoCard

/-- THE SECOND FORM's CARD OF 'cretulalaw13.GeneralCopies'. -/
def generalCopiesUptoCard : Claim7 := { stood := { row := generalCopiesUptoRow, standIns := [], harness := (true, "804ee12cbeead7b5648003fcf39ff1ff3d2ef0de14ee5d78d246a44994b77c5c"), looks := true }, kinds := [], alts := [], laidByText := true, laidKinds := [.data, .data, .data, .data, .sentinel, .sentinel, .pinned], laidTests := true, laidLooks := .later }
def GeneralCopiesUptoCardSaid : Prop := Claim7.holds Tryz.pinned (.plain (OpenSpec.upto generalCopiesSpec)) generalCopiesUptoCard

/-- THE SECOND FORM's CARD OF 'cretulalaw13.GeneralMarshals'. -/
def generalMarshalsUptoCard : Claim7 := { stood := { row := generalMarshalsUptoRow, standIns := [], harness := (true, "804ee12cbeead7b5648003fcf39ff1ff3d2ef0de14ee5d78d246a44994b77c5c"), looks := true }, kinds := [], alts := [], laidByText := true, laidKinds := [.data, .data, .data, .data, .sentinel, .sentinel, .pinned], laidTests := true, laidLooks := .later }
def GeneralMarshalsUptoCardSaid : Prop := Claim7.holds Tryz.pinned (.plain (OpenSpec.upto generalMarshalsSpec)) generalMarshalsUptoCard

/-- THE SECOND FORM's CARD OF 'cretulalaw13.GeneralParses'. -/
def generalParsesUptoCard : Claim7 := { stood := { row := generalParsesUptoRow, standIns := [], harness := (true, "804ee12cbeead7b5648003fcf39ff1ff3d2ef0de14ee5d78d246a44994b77c5c"), looks := true }, kinds := [], alts := [], laidByText := true, laidKinds := [.data, .data, .data, .data, .sentinel, .sentinel, .pinned], laidTests := true, laidLooks := .later }
def GeneralParsesUptoCardSaid : Prop := Claim7.holds Tryz.pinned (.plain (OpenSpec.upto generalParsesSpec)) generalParsesUptoCard

/-- THE SECOND FORM's CARD OF 'cretulalaw13.GeneralListChanges'. -/
def generalListChangesUptoCard : Claim7 := { stood := { row := generalListChangesUptoRow, standIns := [], harness := (true, "804ee12cbeead7b5648003fcf39ff1ff3d2ef0de14ee5d78d246a44994b77c5c"), looks := true }, kinds := [], alts := [], laidByText := true, laidKinds := [.data, .data, .data, .data, .sentinel, .sentinel, .pinned], laidTests := true, laidLooks := .later }
def GeneralListChangesUptoCardSaid : Prop := Claim7.holds Tryz.pinned (.plain (OpenSpec.upto generalListChangesSpec)) generalListChangesUptoCard

/-- THE SECOND FORM's CARD OF 'cretulalaw13.GeneralListMarshals'. -/
def generalListMarshalsUptoCard : Claim7 := { stood := { row := generalListMarshalsUptoRow, standIns := [], harness := (true, "804ee12cbeead7b5648003fcf39ff1ff3d2ef0de14ee5d78d246a44994b77c5c"), looks := true }, kinds := [], alts := [], laidByText := true, laidKinds := [.data, .data, .data, .data, .sentinel, .sentinel, .pinned], laidTests := true, laidLooks := .later }
def GeneralListMarshalsUptoCardSaid : Prop := Claim7.holds Tryz.pinned (.plain (OpenSpec.upto generalListMarshalsSpec)) generalListMarshalsUptoCard

/-- THE SECOND FORM's CARD OF 'cretulalaw13.GeneralListParses'. -/
def generalListParsesUptoCard : Claim7 := { stood := { row := generalListParsesUptoRow, standIns := [], harness := (true, "804ee12cbeead7b5648003fcf39ff1ff3d2ef0de14ee5d78d246a44994b77c5c"), looks := true }, kinds := [], alts := [], laidByText := true, laidKinds := [.data, .data, .data, .data, .sentinel, .sentinel, .pinned], laidTests := true, laidLooks := .later }
def GeneralListParsesUptoCardSaid : Prop := Claim7.holds Tryz.pinned (.plain (OpenSpec.upto generalListParsesSpec)) generalListParsesUptoCard

/-- THE SECOND FORM's CARD OF 'cretulalaw13.GeneralKinds'. -/
def generalKindsUptoCard : Claim7 := { stood := { row := generalKindsUptoRow, standIns := [], harness := (true, "804ee12cbeead7b5648003fcf39ff1ff3d2ef0de14ee5d78d246a44994b77c5c"), looks := true }, kinds := [], alts := [], laidByText := true, laidKinds := [.data, .data, .data, .data, .sentinel, .sentinel, .pinned], laidTests := true, laidLooks := .later }
def GeneralKindsUptoCardSaid : Prop := Claim7.holds Tryz.pinned (.plain (OpenSpec.upto generalKindsSpec)) generalKindsUptoCard
end Rows
end Go.Proofs.YtngbfblmejjipaaGreatDoor
