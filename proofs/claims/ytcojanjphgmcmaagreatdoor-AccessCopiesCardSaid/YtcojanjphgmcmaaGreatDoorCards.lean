/-
  DERIVED. GIVEN WITH THE SEED: THE CARDS: each row of YtcojanjphgmcmaaGreatDoorRows.lean that lists a variable, with what it lists TIED to the program's text (the seventh form; the later family's looks); each row that meets fmt, with fmt's text TOLD by the authors' own Lean function (tested against real Go, not proved from fmt's source: count such statements apart). THE CARD IS WHAT COUNTS. Prove the row's statement (the work); the ties are given (YtcojanjphgmcmaaGreatDoorTie.lean); close each card by the builder's one call (the guide's Derived/Test/ToyasCard.lean, 'card_holds'). Laid BY PROGRAM, IN A SANDBOX (cutbox-door.mjs). By AI agents, Wed Nov 11 2026. No macro, syntax, notation, axiom, sorry.
-/
import Derived.Test.YtcojanjphgmcmaaGreatDoorRows
import GoSem.ClaimSeven
namespace Go.Proofs.YtcojanjphgmcmaaGreatDoor
namespace Rows

/-- THE TIED CARD OF 'cretulalaw20.AccessChanges'. -/
def accessChangesCard : Claim7 := { stood := { row := accessChangesRow, standIns := [], harness := (true, "2fb2e13dcec0416ae1ca8fbb78480c72a28f0904e65a35345f3cc15b1fb5f9ed"), looks := true }, kinds := [], alts := [], laidByText := true, laidKinds := [.data, .data, .data, .data, .sentinel, .sentinel, .pinned], laidTests := true, laidLooks := .later }
def AccessChangesCardSaid : Prop := Claim7.holds Tryz.pinned (.plain (OpenSpec.ofChange accessChangesSpec)) accessChangesCard

/-- THE TIED CARD OF 'cretulalaw20.AccessEnds'. -/
def accessEndsCard : Claim7 := { stood := { row := accessEndsRow, standIns := [], harness := (true, "2fb2e13dcec0416ae1ca8fbb78480c72a28f0904e65a35345f3cc15b1fb5f9ed"), looks := true }, kinds := [], alts := [], laidByText := true, laidKinds := [.data, .data, .data, .data, .sentinel, .sentinel, .pinned], laidTests := true, laidLooks := .later }
def AccessEndsCardSaid : Prop := Claim7.holds Tryz.pinned (.plain (OpenSpec.ofChange accessEndsSpec)) accessEndsCard

/-- THE TIED CARD OF 'cretulalaw20.AccessCopies'. -/
def accessCopiesCard : Claim7 := { stood := { row := accessCopiesRow, standIns := [], harness := (true, "2fb2e13dcec0416ae1ca8fbb78480c72a28f0904e65a35345f3cc15b1fb5f9ed"), looks := true }, kinds := [], alts := [], laidByText := true, laidKinds := [.data, .data, .data, .data, .sentinel, .sentinel, .pinned], laidTests := true, laidLooks := .later }
def AccessCopiesCardSaid : Prop := Claim7.holds Tryz.pinned (.plain (OpenSpec.ofChange accessCopiesSpec)) accessCopiesCard

/-- THE TIED CARD OF 'cretulalaw20.AccessMarshals'. -/
def accessMarshalsCard : Claim7 := { stood := { row := accessMarshalsRow, standIns := [], harness := (true, "2fb2e13dcec0416ae1ca8fbb78480c72a28f0904e65a35345f3cc15b1fb5f9ed"), looks := true }, kinds := [], alts := [], laidByText := true, laidKinds := [.data, .data, .data, .data, .sentinel, .sentinel, .pinned], laidTests := true, laidLooks := .later }
def AccessMarshalsCardSaid : Prop := Claim7.holds Tryz.pinned (.plain (OpenSpec.ofChange accessMarshalsSpec)) accessMarshalsCard

/-- THE TIED CARD OF 'cretulalaw20.AccessParses'. -/
def accessParsesCard : Claim7 := { stood := { row := accessParsesRow, standIns := [], harness := (true, "2fb2e13dcec0416ae1ca8fbb78480c72a28f0904e65a35345f3cc15b1fb5f9ed"), looks := true }, kinds := [], alts := [], laidByText := true, laidKinds := [.data, .data, .data, .data, .sentinel, .sentinel, .pinned], laidTests := true, laidLooks := .later }
def AccessParsesCardSaid : Prop := Claim7.holds Tryz.pinned (.plain (OpenSpec.ofChange accessParsesSpec)) accessParsesCard

/-- THE SECOND FORM's CARD OF 'cretulalaw20.AccessChanges'. -/
def accessChangesUptoCard : Claim7 := { stood := { row := accessChangesUptoRow, standIns := [], harness := (true, "2fb2e13dcec0416ae1ca8fbb78480c72a28f0904e65a35345f3cc15b1fb5f9ed"), looks := true }, kinds := [], alts := [], laidByText := true, laidKinds := [.data, .data, .data, .data, .sentinel, .sentinel, .pinned], laidTests := true, laidLooks := .later }
def AccessChangesUptoCardSaid : Prop := Claim7.holds Tryz.pinned (.plain (OpenSpec.upto accessChangesSpec)) accessChangesUptoCard

/-- THE SECOND FORM's CARD OF 'cretulalaw20.AccessEnds'. -/
def accessEndsUptoCard : Claim7 := { stood := { row := accessEndsUptoRow, standIns := [], harness := (true, "2fb2e13dcec0416ae1ca8fbb78480c72a28f0904e65a35345f3cc15b1fb5f9ed"), looks := true }, kinds := [], alts := [], laidByText := true, laidKinds := [.data, .data, .data, .data, .sentinel, .sentinel, .pinned], laidTests := true, laidLooks := .later }
def AccessEndsUptoCardSaid : Prop := Claim7.holds Tryz.pinned (.plain (OpenSpec.upto accessEndsSpec)) accessEndsUptoCard

/-- THE SECOND FORM's CARD OF 'cretulalaw20.AccessCopies'. -/
def accessCopiesUptoCard : Claim7 := { stood := { row := accessCopiesUptoRow, standIns := [], harness := (true, "2fb2e13dcec0416ae1ca8fbb78480c72a28f0904e65a35345f3cc15b1fb5f9ed"), looks := true }, kinds := [], alts := [], laidByText := true, laidKinds := [.data, .data, .data, .data, .sentinel, .sentinel, .pinned], laidTests := true, laidLooks := .later }
def AccessCopiesUptoCardSaid : Prop := Claim7.holds Tryz.pinned (.plain (OpenSpec.upto accessCopiesSpec)) accessCopiesUptoCard

/-- THE SECOND FORM's CARD OF 'cretulalaw20.AccessMarshals'. -/
def accessMarshalsUptoCard : Claim7 := { stood := { row := accessMarshalsUptoRow, standIns := [], harness := (true, "2fb2e13dcec0416ae1ca8fbb78480c72a28f0904e65a35345f3cc15b1fb5f9ed"), looks := true }, kinds := [], alts := [], laidByText := true, laidKinds := [.data, .data, .data, .data, .sentinel, .sentinel, .pinned], laidTests := true, laidLooks := .later }
def AccessMarshalsUptoCardSaid : Prop := Claim7.holds Tryz.pinned (.plain (OpenSpec.upto accessMarshalsSpec)) accessMarshalsUptoCard

/-- THE SECOND FORM's CARD OF 'cretulalaw20.AccessParses'. -/
def accessParsesUptoCard : Claim7 := { stood := { row := accessParsesUptoRow, standIns := [], harness := (true, "2fb2e13dcec0416ae1ca8fbb78480c72a28f0904e65a35345f3cc15b1fb5f9ed"), looks := true }, kinds := [], alts := [], laidByText := true, laidKinds := [.data, .data, .data, .data, .sentinel, .sentinel, .pinned], laidTests := true, laidLooks := .later }
def AccessParsesUptoCardSaid : Prop := Claim7.holds Tryz.pinned (.plain (OpenSpec.upto accessParsesSpec)) accessParsesUptoCard
end Rows
end Go.Proofs.YtcojanjphgmcmaaGreatDoor
