/-
  DERIVED. GIVEN WITH THE SEED: THE CARDS: each row of YtgamacmidohpfaaGreatDoorRows.lean that lists a variable, with what it lists TIED to the program's text (the seventh form; the later family's looks); each row that meets fmt, with fmt's text TOLD by the authors' own Lean function (tested against real Go, not proved from fmt's source: count such statements apart). THE CARD IS WHAT COUNTS. Prove the row's statement (the work); the ties are given (YtgamacmidohpfaaGreatDoorTie.lean); close each card by the builder's one call (the guide's Derived/Test/ToyasCard.lean, 'card_holds'). Laid BY PROGRAM, IN A SANDBOX (cutbox-door.mjs). By AI agents, Wed Nov 11 2026. No macro, syntax, notation, axiom, sorry.
-/
import Derived.Test.YtgamacmidohpfaaGreatDoorRows
import GoSem.ClaimSeven
namespace Go.Proofs.YtgamacmidohpfaaGreatDoor
namespace Rows

/-- THE TIED CARD OF 'cretulalaw15.KeyidMatches'. -/
def keyidMatchesCard : Claim7 := { stood := { row := keyidMatchesRow, standIns := [], harness := (true, "911e9f7c09c392e19bd676dd244577472f038023e8e0e335458399ce5d729601"), looks := true }, kinds := [], alts := [], laidByText := true, laidKinds := [.data, .data, .data, .data, .sentinel, .sentinel, .pinned], laidTests := true, laidLooks := .later }
def KeyidMatchesCardSaid : Prop := Claim7.holds Tryz.pinned (.plain (OpenSpec.ofChange keyidMatchesSpec)) keyidMatchesCard

/-- THE TIED CARD OF 'cretulalaw15.KeyidMarshals'. -/
def keyidMarshalsCard : Claim7 := { stood := { row := keyidMarshalsRow, standIns := [], harness := (true, "911e9f7c09c392e19bd676dd244577472f038023e8e0e335458399ce5d729601"), looks := true }, kinds := [], alts := [], laidByText := true, laidKinds := [.data, .data, .data, .data, .sentinel, .sentinel, .pinned], laidTests := true, laidLooks := .later }
def KeyidMarshalsCardSaid : Prop := Claim7.holds Tryz.pinned (.plain (OpenSpec.ofChange keyidMarshalsSpec)) keyidMarshalsCard

/-- THE TIED CARD OF 'cretulalaw15.KeyidParses'. -/
def keyidParsesCard : Claim7 := { stood := { row := keyidParsesRow, standIns := [], harness := (true, "911e9f7c09c392e19bd676dd244577472f038023e8e0e335458399ce5d729601"), looks := true }, kinds := [], alts := [], laidByText := true, laidKinds := [.data, .data, .data, .data, .sentinel, .sentinel, .pinned], laidTests := true, laidLooks := .later }
def KeyidParsesCardSaid : Prop := Claim7.holds Tryz.pinned (.plain (OpenSpec.ofChange keyidParsesSpec)) keyidParsesCard

/-- THE TIED CARD OF 'cretulalaw15.KeyidChanges'. -/
def keyidChangesCard : Claim7 := { stood := { row := keyidChangesRow, standIns := [], harness := (true, "911e9f7c09c392e19bd676dd244577472f038023e8e0e335458399ce5d729601"), looks := true }, kinds := [], alts := [], laidByText := true, laidKinds := [.data, .data, .data, .data, .sentinel, .sentinel, .pinned], laidTests := true, laidLooks := .later }
def KeyidChangesCardSaid : Prop := Claim7.holds Tryz.pinned (.plain (OpenSpec.ofChange keyidChangesSpec)) keyidChangesCard

/-- THE TIED CARD OF 'cretulalaw15.KeyidEnds'. -/
def keyidEndsCard : Claim7 := { stood := { row := keyidEndsRow, standIns := [], harness := (true, "911e9f7c09c392e19bd676dd244577472f038023e8e0e335458399ce5d729601"), looks := true }, kinds := [], alts := [], laidByText := true, laidKinds := [.data, .data, .data, .data, .sentinel, .sentinel, .pinned], laidTests := true, laidLooks := .later }
def KeyidEndsCardSaid : Prop := Claim7.holds Tryz.pinned (.plain (OpenSpec.ofChange keyidEndsSpec)) keyidEndsCard

/-- THE TIED CARD OF 'cretulalaw15.KeyidCopies'. -/
def keyidCopiesCard : Claim7 := { stood := { row := keyidCopiesRow, standIns := [], harness := (true, "911e9f7c09c392e19bd676dd244577472f038023e8e0e335458399ce5d729601"), looks := true }, kinds := [], alts := [], laidByText := true, laidKinds := [.data, .data, .data, .data, .sentinel, .sentinel, .pinned], laidTests := true, laidLooks := .later }
def KeyidCopiesCardSaid : Prop := Claim7.holds Tryz.pinned (.plain (OpenSpec.ofChange keyidCopiesSpec)) keyidCopiesCard

/-- THE SECOND FORM's CARD OF 'cretulalaw15.KeyidMatches'. -/
def keyidMatchesUptoCard : Claim7 := { stood := { row := keyidMatchesUptoRow, standIns := [], harness := (true, "911e9f7c09c392e19bd676dd244577472f038023e8e0e335458399ce5d729601"), looks := true }, kinds := [], alts := [], laidByText := true, laidKinds := [.data, .data, .data, .data, .sentinel, .sentinel, .pinned], laidTests := true, laidLooks := .later }
def KeyidMatchesUptoCardSaid : Prop := Claim7.holds Tryz.pinned (.plain (OpenSpec.upto keyidMatchesSpec)) keyidMatchesUptoCard

/-- THE SECOND FORM's CARD OF 'cretulalaw15.KeyidMarshals'. -/
def keyidMarshalsUptoCard : Claim7 := { stood := { row := keyidMarshalsUptoRow, standIns := [], harness := (true, "911e9f7c09c392e19bd676dd244577472f038023e8e0e335458399ce5d729601"), looks := true }, kinds := [], alts := [], laidByText := true, laidKinds := [.data, .data, .data, .data, .sentinel, .sentinel, .pinned], laidTests := true, laidLooks := .later }
def KeyidMarshalsUptoCardSaid : Prop := Claim7.holds Tryz.pinned (.plain (OpenSpec.upto keyidMarshalsSpec)) keyidMarshalsUptoCard

/-- THE SECOND FORM's CARD OF 'cretulalaw15.KeyidParses'. -/
def keyidParsesUptoCard : Claim7 := { stood := { row := keyidParsesUptoRow, standIns := [], harness := (true, "911e9f7c09c392e19bd676dd244577472f038023e8e0e335458399ce5d729601"), looks := true }, kinds := [], alts := [], laidByText := true, laidKinds := [.data, .data, .data, .data, .sentinel, .sentinel, .pinned], laidTests := true, laidLooks := .later }
def KeyidParsesUptoCardSaid : Prop := Claim7.holds Tryz.pinned (.plain (OpenSpec.upto keyidParsesSpec)) keyidParsesUptoCard

/-- THE SECOND FORM's CARD OF 'cretulalaw15.KeyidChanges'. -/
def keyidChangesUptoCard : Claim7 := { stood := { row := keyidChangesUptoRow, standIns := [], harness := (true, "911e9f7c09c392e19bd676dd244577472f038023e8e0e335458399ce5d729601"), looks := true }, kinds := [], alts := [], laidByText := true, laidKinds := [.data, .data, .data, .data, .sentinel, .sentinel, .pinned], laidTests := true, laidLooks := .later }
def KeyidChangesUptoCardSaid : Prop := Claim7.holds Tryz.pinned (.plain (OpenSpec.upto keyidChangesSpec)) keyidChangesUptoCard

/-- THE SECOND FORM's CARD OF 'cretulalaw15.KeyidEnds'. -/
def keyidEndsUptoCard : Claim7 := { stood := { row := keyidEndsUptoRow, standIns := [], harness := (true, "911e9f7c09c392e19bd676dd244577472f038023e8e0e335458399ce5d729601"), looks := true }, kinds := [], alts := [], laidByText := true, laidKinds := [.data, .data, .data, .data, .sentinel, .sentinel, .pinned], laidTests := true, laidLooks := .later }
def KeyidEndsUptoCardSaid : Prop := Claim7.holds Tryz.pinned (.plain (OpenSpec.upto keyidEndsSpec)) keyidEndsUptoCard

/-- THE SECOND FORM's CARD OF 'cretulalaw15.KeyidCopies'. -/
def keyidCopiesUptoCard : Claim7 := { stood := { row := keyidCopiesUptoRow, standIns := [], harness := (true, "911e9f7c09c392e19bd676dd244577472f038023e8e0e335458399ce5d729601"), looks := true }, kinds := [], alts := [], laidByText := true, laidKinds := [.data, .data, .data, .data, .sentinel, .sentinel, .pinned], laidTests := true, laidLooks := .later }
def KeyidCopiesUptoCardSaid : Prop := Claim7.holds Tryz.pinned (.plain (OpenSpec.upto keyidCopiesSpec)) keyidCopiesUptoCard
end Rows
end Go.Proofs.YtgamacmidohpfaaGreatDoor
