/-
  DERIVED. GIVEN WITH THE SEED: THE CARDS: each row of YtaoahmplnckhpaaGreatDoorRows.lean that lists a variable, with what it lists TIED to the program's text (the seventh form; the later family's looks); each row that meets fmt, with fmt's text TOLD by the authors' own Lean function (tested against real Go, not proved from fmt's source: count such statements apart). THE CARD IS WHAT COUNTS. Prove the row's statement (the work); the ties are given (YtaoahmplnckhpaaGreatDoorTie.lean); close each card by the builder's one call (the guide's Derived/Test/ToyasCard.lean, 'card_holds'). Laid BY PROGRAM, IN A SANDBOX (cutbox-door.mjs). By AI agents, Wed Nov 11 2026. No macro, syntax, notation, axiom, sorry.
-/
import Derived.Test.YtaoahmplnckhpaaGreatDoorRows
import GoSem.ClaimSeven
namespace Go.Proofs.YtaoahmplnckhpaaGreatDoor
namespace Rows

/-- THE TIED CARD OF 'cretulalaw19.PointCovers'. -/
def pointCoversCard : Claim7 := { stood := { row := pointCoversRow, standIns := [], harness := (true, "555b24af9f1a54b393ce406c3aef2e389836a8fcb9c7e0ad21fa410184eb91ab"), looks := true }, kinds := [], alts := [], laidByText := true, laidKinds := [.data, .data, .data, .data, .sentinel, .sentinel, .pinned], laidTests := true, laidLooks := .later }
def PointCoversCardSaid : Prop := Claim7.holds Tryz.pinned (.plain (OpenSpec.ofChange pointCoversSpec)) pointCoversCard

/-- THE TIED CARD OF 'cretulalaw19.PointParses'. -/
def pointParsesCard : Claim7 := { stood := { row := pointParsesRow, standIns := [], harness := (true, "555b24af9f1a54b393ce406c3aef2e389836a8fcb9c7e0ad21fa410184eb91ab"), looks := true }, kinds := [], alts := [], laidByText := true, laidKinds := [.data, .data, .data, .data, .sentinel, .sentinel, .pinned], laidTests := true, laidLooks := .later }
def PointParsesCardSaid : Prop := Claim7.holds Tryz.pinned (.plain (OpenSpec.ofChange pointParsesSpec)) pointParsesCard

/-- THE TIED CARD OF 'cretulalaw19.PointIssuingParses'. -/
def pointIssuingParsesCard : Claim7 := { stood := { row := pointIssuingParsesRow, standIns := [], harness := (true, "555b24af9f1a54b393ce406c3aef2e389836a8fcb9c7e0ad21fa410184eb91ab"), looks := true }, kinds := [], alts := [], laidByText := true, laidKinds := [.data, .data, .data, .data, .sentinel, .sentinel, .pinned], laidTests := true, laidLooks := .later }
def PointIssuingParsesCardSaid : Prop := Claim7.holds Tryz.pinned (.plain (OpenSpec.ofChange pointIssuingParsesSpec)) pointIssuingParsesCard

/-- THE SECOND FORM's CARD OF 'cretulalaw19.PointCovers'. -/
def pointCoversUptoCard : Claim7 := { stood := { row := pointCoversUptoRow, standIns := [], harness := (true, "555b24af9f1a54b393ce406c3aef2e389836a8fcb9c7e0ad21fa410184eb91ab"), looks := true }, kinds := [], alts := [], laidByText := true, laidKinds := [.data, .data, .data, .data, .sentinel, .sentinel, .pinned], laidTests := true, laidLooks := .later }
def PointCoversUptoCardSaid : Prop := Claim7.holds Tryz.pinned (.plain (OpenSpec.upto pointCoversSpec)) pointCoversUptoCard

/-- THE SECOND FORM's CARD OF 'cretulalaw19.PointParses'. -/
def pointParsesUptoCard : Claim7 := { stood := { row := pointParsesUptoRow, standIns := [], harness := (true, "555b24af9f1a54b393ce406c3aef2e389836a8fcb9c7e0ad21fa410184eb91ab"), looks := true }, kinds := [], alts := [], laidByText := true, laidKinds := [.data, .data, .data, .data, .sentinel, .sentinel, .pinned], laidTests := true, laidLooks := .later }
def PointParsesUptoCardSaid : Prop := Claim7.holds Tryz.pinned (.plain (OpenSpec.upto pointParsesSpec)) pointParsesUptoCard

/-- THE SECOND FORM's CARD OF 'cretulalaw19.PointIssuingParses'. -/
def pointIssuingParsesUptoCard : Claim7 := { stood := { row := pointIssuingParsesUptoRow, standIns := [], harness := (true, "555b24af9f1a54b393ce406c3aef2e389836a8fcb9c7e0ad21fa410184eb91ab"), looks := true }, kinds := [], alts := [], laidByText := true, laidKinds := [.data, .data, .data, .data, .sentinel, .sentinel, .pinned], laidTests := true, laidLooks := .later }
def PointIssuingParsesUptoCardSaid : Prop := Claim7.holds Tryz.pinned (.plain (OpenSpec.upto pointIssuingParsesSpec)) pointIssuingParsesUptoCard
end Rows
end Go.Proofs.YtaoahmplnckhpaaGreatDoor
