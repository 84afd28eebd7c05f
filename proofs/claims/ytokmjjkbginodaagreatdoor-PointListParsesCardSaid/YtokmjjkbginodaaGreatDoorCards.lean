/-
  DERIVED. GIVEN WITH THE SEED: THE CARDS: each row of YtokmjjkbginodaaGreatDoorRows.lean that lists a variable, with what it lists TIED to the program's text (the seventh form; the later family's looks); each row that meets fmt, with fmt's text TOLD by the authors' own Lean function (tested against real Go, not proved from fmt's source: count such statements apart). THE CARD IS WHAT COUNTS. Prove the row's statement (the work); the ties are given (YtokmjjkbginodaaGreatDoorTie.lean); close each card by the builder's one call (the guide's Derived/Test/ToyasCard.lean, 'card_holds'). Laid BY PROGRAM, IN A SANDBOX (cutbox-door.mjs). By AI agents, Wed Nov 11 2026. No macro, syntax, notation, axiom, sorry.
-/
import Derived.Test.YtokmjjkbginodaaGreatDoorRows
import GoSem.ClaimSeven
namespace Go.Proofs.YtokmjjkbginodaaGreatDoor
namespace Rows

/-- THE TIED CARD OF 'cretulalaw19.PointCopies'. -/
def pointCopiesCard : Claim7 := { stood := { row := pointCopiesRow, standIns := [], harness := (true, "896d33f36d344e6b6879cb0d8f15d80b30b853ea1eba5ed937c55dee8ac31460"), looks := true }, kinds := [], alts := [], laidByText := true, laidKinds := [.data, .data, .data, .data, .sentinel, .sentinel, .pinned], laidTests := true, laidLooks := .later }
def PointCopiesCardSaid : Prop := Claim7.holds Tryz.pinned (.plain (OpenSpec.ofChange pointCopiesSpec)) pointCopiesCard

/-- THE TIED CARD OF 'cretulalaw19.PointListParses'. -/
def pointListParsesCard : Claim7 := { stood := { row := pointListParsesRow, standIns := [], harness := (true, "896d33f36d344e6b6879cb0d8f15d80b30b853ea1eba5ed937c55dee8ac31460"), looks := true }, kinds := [], alts := [], laidByText := true, laidKinds := [.data, .data, .data, .data, .sentinel, .sentinel, .pinned], laidTests := true, laidLooks := .later }
def PointListParsesCardSaid : Prop := Claim7.holds Tryz.pinned (.plain (OpenSpec.ofChange pointListParsesSpec)) pointListParsesCard

/-- THE SECOND FORM's CARD OF 'cretulalaw19.PointCopies'. -/
def pointCopiesUptoCard : Claim7 := { stood := { row := pointCopiesUptoRow, standIns := [], harness := (true, "896d33f36d344e6b6879cb0d8f15d80b30b853ea1eba5ed937c55dee8ac31460"), looks := true }, kinds := [], alts := [], laidByText := true, laidKinds := [.data, .data, .data, .data, .sentinel, .sentinel, .pinned], laidTests := true, laidLooks := .later }
def PointCopiesUptoCardSaid : Prop := Claim7.holds Tryz.pinned (.plain (OpenSpec.upto pointCopiesSpec)) pointCopiesUptoCard

/-- THE SECOND FORM's CARD OF 'cretulalaw19.PointListParses'. -/
def pointListParsesUptoCard : Claim7 := { stood := { row := pointListParsesUptoRow, standIns := [], harness := (true, "896d33f36d344e6b6879cb0d8f15d80b30b853ea1eba5ed937c55dee8ac31460"), looks := true }, kinds := [], alts := [], laidByText := true, laidKinds := [.data, .data, .data, .data, .sentinel, .sentinel, .pinned], laidTests := true, laidLooks := .later }
def PointListParsesUptoCardSaid : Prop := Claim7.holds Tryz.pinned (.plain (OpenSpec.upto pointListParsesSpec)) pointListParsesUptoCard
end Rows
end Go.Proofs.YtokmjjkbginodaaGreatDoor
