/-
  DERIVED. GIVEN WITH THE SEED: THE CARDS: each row of YtblabcopgeobgaaGreatDoorRows.lean that lists a variable, with what it lists TIED to the program's text (the seventh form; the later family's looks); each row that meets fmt, with fmt's text TOLD by the authors' own Lean function (tested against real Go, not proved from fmt's source: count such statements apart). THE CARD IS WHAT COUNTS. Prove the row's statement (the work); the ties are given (YtblabcopgeobgaaGreatDoorTie.lean); close each card by the builder's one call (the guide's Derived/Test/ToyasCard.lean, 'card_holds'). Laid BY PROGRAM, IN A SANDBOX (cutbox-door.mjs). By AI agents, Wed Nov 11 2026. No macro, syntax, notation, axiom, sorry.
-/
import Derived.Test.YtblabcopgeobgaaGreatDoorRows
import GoSem.ClaimSeven
namespace Go.Proofs.YtblabcopgeobgaaGreatDoor
namespace Rows

/-- THE TIED CARD OF 'cretulalaw15.KeyidSubjects'. -/
def keyidSubjectsCard : Claim7 := { stood := { row := keyidSubjectsRow, standIns := [], harness := (true, "e0017f95fc083187e0d244fca54b63f2d5407c97567e6b2a0e78ee8100cd2d5e"), looks := true }, kinds := [], alts := [], laidByText := true, laidKinds := [.data, .data, .data, .data, .sentinel, .sentinel, .pinned], laidTests := true, laidLooks := .later }
def KeyidSubjectsCardSaid : Prop := Claim7.holds Tryz.pinned (.plain (OpenSpec.ofChange keyidSubjectsSpec)) keyidSubjectsCard

/-- THE TIED CARD OF 'cretulalaw20.AccessLocations'. -/
def accessLocationsCard : Claim7 := { stood := { row := accessLocationsRow, standIns := [], harness := (true, "e0017f95fc083187e0d244fca54b63f2d5407c97567e6b2a0e78ee8100cd2d5e"), looks := true }, kinds := [], alts := [], laidByText := true, laidKinds := [.data, .data, .data, .data, .sentinel, .sentinel, .pinned], laidTests := true, laidLooks := .later }
def AccessLocationsCardSaid : Prop := Claim7.holds Tryz.pinned (.plain (OpenSpec.ofChange accessLocationsSpec)) accessLocationsCard

/-- THE TIED CARD OF 'cretulalaw18.SubtreePermits'. -/
def subtreePermitsCard : Claim7 := { stood := { row := subtreePermitsRow, standIns := [], harness := (true, "e0017f95fc083187e0d244fca54b63f2d5407c97567e6b2a0e78ee8100cd2d5e"), looks := true }, kinds := [], alts := [], laidByText := true, laidKinds := [.data, .data, .data, .data, .sentinel, .sentinel, .pinned], laidTests := true, laidLooks := .later }
def SubtreePermitsCardSaid : Prop := Claim7.holds Tryz.pinned (.plain (OpenSpec.ofChange subtreePermitsSpec)) subtreePermitsCard

/-- THE TIED CARD OF 'cretulalaw18.SubtreeUnder'. -/
def subtreeUnderCard : Claim7 := { stood := { row := subtreeUnderRow, standIns := [], harness := (true, "e0017f95fc083187e0d244fca54b63f2d5407c97567e6b2a0e78ee8100cd2d5e"), looks := true }, kinds := [], alts := [], laidByText := true, laidKinds := [.data, .data, .data, .data, .sentinel, .sentinel, .pinned], laidTests := true, laidLooks := .later }
def SubtreeUnderCardSaid : Prop := Claim7.holds Tryz.pinned (.plain (OpenSpec.ofChange subtreeUnderSpec)) subtreeUnderCard

/-- THE TIED CARD OF 'cretulalaw18.SubtreeWider'. -/
def subtreeWiderCard : Claim7 := { stood := { row := subtreeWiderRow, standIns := [], harness := (true, "e0017f95fc083187e0d244fca54b63f2d5407c97567e6b2a0e78ee8100cd2d5e"), looks := true }, kinds := [], alts := [], laidByText := true, laidKinds := [.data, .data, .data, .data, .sentinel, .sentinel, .pinned], laidTests := true, laidLooks := .later }
def SubtreeWiderCardSaid : Prop := Claim7.holds Tryz.pinned (.plain (OpenSpec.ofChange subtreeWiderSpec)) subtreeWiderCard

/-- THE TIED CARD OF 'cretulalaw20.AccessMultiChanges'. -/
def accessMultiChangesCard : Claim7 := { stood := { row := accessMultiChangesRow, standIns := [], harness := (true, "e0017f95fc083187e0d244fca54b63f2d5407c97567e6b2a0e78ee8100cd2d5e"), looks := true }, kinds := [], alts := [], laidByText := true, laidKinds := [.data, .data, .data, .data, .sentinel, .sentinel, .pinned], laidTests := true, laidLooks := .later }
def AccessMultiChangesCardSaid : Prop := Claim7.holds Tryz.pinned (.plain (OpenSpec.ofChange accessMultiChangesSpec)) accessMultiChangesCard

/-- THE TIED CARD OF 'cretulalaw20.AccessMultiMarshals'. -/
def accessMultiMarshalsCard : Claim7 := { stood := { row := accessMultiMarshalsRow, standIns := [], harness := (true, "e0017f95fc083187e0d244fca54b63f2d5407c97567e6b2a0e78ee8100cd2d5e"), looks := true }, kinds := [], alts := [], laidByText := true, laidKinds := [.data, .data, .data, .data, .sentinel, .sentinel, .pinned], laidTests := true, laidLooks := .later }
def AccessMultiMarshalsCardSaid : Prop := Claim7.holds Tryz.pinned (.plain (OpenSpec.ofChange accessMultiMarshalsSpec)) accessMultiMarshalsCard

/-- THE TIED CARD OF 'cretulalaw20.AccessMultiParses'. -/
def accessMultiParsesCard : Claim7 := { stood := { row := accessMultiParsesRow, standIns := [], harness := (true, "e0017f95fc083187e0d244fca54b63f2d5407c97567e6b2a0e78ee8100cd2d5e"), looks := true }, kinds := [], alts := [], laidByText := true, laidKinds := [.data, .data, .data, .data, .sentinel, .sentinel, .pinned], laidTests := true, laidLooks := .later }
def AccessMultiParsesCardSaid : Prop := Claim7.holds Tryz.pinned (.plain (OpenSpec.ofChange accessMultiParsesSpec)) accessMultiParsesCard

/-- THE SECOND FORM's CARD OF 'cretulalaw15.KeyidSubjects'. -/
def keyidSubjectsUptoCard : Claim7 := { stood := { row := keyidSubjectsUptoRow, standIns := [], harness := (true, "e0017f95fc083187e0d244fca54b63f2d5407c97567e6b2a0e78ee8100cd2d5e"), looks := true }, kinds := [], alts := [], laidByText := true, laidKinds := [.data, .data, .data, .data, .sentinel, .sentinel, .pinned], laidTests := true, laidLooks := .later }
def KeyidSubjectsUptoCardSaid : Prop := Claim7.holds Tryz.pinned (.plain (OpenSpec.upto keyidSubjectsSpec)) keyidSubjectsUptoCard

/-- THE SECOND FORM's CARD OF 'cretulalaw20.AccessLocations'. -/
def accessLocationsUptoCard : Claim7 := { stood := { row := accessLocationsUptoRow, standIns := [], harness := (true, "e0017f95fc083187e0d244fca54b63f2d5407c97567e6b2a0e78ee8100cd2d5e"), looks := true }, kinds := [], alts := [], laidByText := true, laidKinds := [.data, .data, .data, .data, .sentinel, .sentinel, .pinned], laidTests := true, laidLooks := .later }
def AccessLocationsUptoCardSaid : Prop := Claim7.holds Tryz.pinned (.plain (OpenSpec.upto accessLocationsSpec)) accessLocationsUptoCard

/-- THE SECOND FORM's CARD OF 'cretulalaw18.SubtreePermits'. -/
def subtreePermitsUptoCard : Claim7 := { stood := { row := subtreePermitsUptoRow, standIns := [], harness := (true, "e0017f95fc083187e0d244fca54b63f2d5407c97567e6b2a0e78ee8100cd2d5e"), looks := true }, kinds := [], alts := [], laidByText := true, laidKinds := [.data, .data, .data, .data, .sentinel, .sentinel, .pinned], laidTests := true, laidLooks := .later }
def SubtreePermitsUptoCardSaid : Prop := Claim7.holds Tryz.pinned (.plain (OpenSpec.upto subtreePermitsSpec)) subtreePermitsUptoCard

/-- THE SECOND FORM's CARD OF 'cretulalaw18.SubtreeUnder'. -/
def subtreeUnderUptoCard : Claim7 := { stood := { row := subtreeUnderUptoRow, standIns := [], harness := (true, "e0017f95fc083187e0d244fca54b63f2d5407c97567e6b2a0e78ee8100cd2d5e"), looks := true }, kinds := [], alts := [], laidByText := true, laidKinds := [.data, .data, .data, .data, .sentinel, .sentinel, .pinned], laidTests := true, laidLooks := .later }
def SubtreeUnderUptoCardSaid : Prop := Claim7.holds Tryz.pinned (.plain (OpenSpec.upto subtreeUnderSpec)) subtreeUnderUptoCard

/-- THE SECOND FORM's CARD OF 'cretulalaw18.SubtreeWider'. -/
def subtreeWiderUptoCard : Claim7 := { stood := { row := subtreeWiderUptoRow, standIns := [], harness := (true, "e0017f95fc083187e0d244fca54b63f2d5407c97567e6b2a0e78ee8100cd2d5e"), looks := true }, kinds := [], alts := [], laidByText := true, laidKinds := [.data, .data, .data, .data, .sentinel, .sentinel, .pinned], laidTests := true, laidLooks := .later }
def SubtreeWiderUptoCardSaid : Prop := Claim7.holds Tryz.pinned (.plain (OpenSpec.upto subtreeWiderSpec)) subtreeWiderUptoCard

/-- THE SECOND FORM's CARD OF 'cretulalaw20.AccessMultiChanges'. -/
def accessMultiChangesUptoCard : Claim7 := { stood := { row := accessMultiChangesUptoRow, standIns := [], harness := (true, "e0017f95fc083187e0d244fca54b63f2d5407c97567e6b2a0e78ee8100cd2d5e"), looks := true }, kinds := [], alts := [], laidByText := true, laidKinds := [.data, .data, .data, .data, .sentinel, .sentinel, .pinned], laidTests := true, laidLooks := .later }
def AccessMultiChangesUptoCardSaid : Prop := Claim7.holds Tryz.pinned (.plain (OpenSpec.upto accessMultiChangesSpec)) accessMultiChangesUptoCard

/-- THE SECOND FORM's CARD OF 'cretulalaw20.AccessMultiMarshals'. -/
def accessMultiMarshalsUptoCard : Claim7 := { stood := { row := accessMultiMarshalsUptoRow, standIns := [], harness := (true, "e0017f95fc083187e0d244fca54b63f2d5407c97567e6b2a0e78ee8100cd2d5e"), looks := true }, kinds := [], alts := [], laidByText := true, laidKinds := [.data, .data, .data, .data, .sentinel, .sentinel, .pinned], laidTests := true, laidLooks := .later }
def AccessMultiMarshalsUptoCardSaid : Prop := Claim7.holds Tryz.pinned (.plain (OpenSpec.upto accessMultiMarshalsSpec)) accessMultiMarshalsUptoCard

/-- THE SECOND FORM's CARD OF 'cretulalaw20.AccessMultiParses'. -/
def accessMultiParsesUptoCard : Claim7 := { stood := { row := accessMultiParsesUptoRow, standIns := [], harness := (true, "e0017f95fc083187e0d244fca54b63f2d5407c97567e6b2a0e78ee8100cd2d5e"), looks := true }, kinds := [], alts := [], laidByText := true, laidKinds := [.data, .data, .data, .data, .sentinel, .sentinel, .pinned], laidTests := true, laidLooks := .later }
def AccessMultiParsesUptoCardSaid : Prop := Claim7.holds Tryz.pinned (.plain (OpenSpec.upto accessMultiParsesSpec)) accessMultiParsesUptoCard
end Rows
end Go.Proofs.YtblabcopgeobgaaGreatDoor
