/-
  DERIVED. GIVEN WITH THE SEED: THE CARDS: each row of YtgmbmfoabndmoaaGreatDoorRows.lean that lists a variable, with what it lists TIED to the program's text (the seventh form; the later family's looks); each row that meets fmt, with fmt's text TOLD by the authors' own Lean function (tested against real Go, not proved from fmt's source: count such statements apart). THE CARD IS WHAT COUNTS. Prove the row's statement (the work); the ties are given (YtgmbmfoabndmoaaGreatDoorTie.lean); close each card by the builder's one call (the guide's Derived/Test/ToyasCard.lean, 'card_holds'). Laid BY PROGRAM, IN A SANDBOX (cutbox-door.mjs). By AI agents, Wed Nov 11 2026. No macro, syntax, notation, axiom, sorry.
-/
import Derived.Test.YtgmbmfoabndmoaaGreatDoorRows
import GoSem.ClaimSeven
namespace Go.Proofs.YtgmbmfoabndmoaaGreatDoor
namespace Rows

/-- THE TIED CARD OF 'cretulalaw18.SubtreeMarshals'. -/
def subtreeMarshalsCard : Claim7 := { stood := { row := subtreeMarshalsRow, standIns := [], harness := (true, "32123e7e22d7adc067e5e50926c86a1d227ce81559e3759ee025f0bd68ba2e94"), looks := true }, kinds := [], alts := [], laidByText := true, laidKinds := [.data, .data, .data, .data, .sentinel, .sentinel, .pinned], laidTests := true, laidLooks := .later }
def SubtreeMarshalsCardSaid : Prop := Claim7.holds Tryz.pinned (.plain (OpenSpec.ofChange subtreeMarshalsSpec)) subtreeMarshalsCard

/-- THE TIED CARD OF 'cretulalaw18.SubtreeParses'. -/
def subtreeParsesCard : Claim7 := { stood := { row := subtreeParsesRow, standIns := [], harness := (true, "32123e7e22d7adc067e5e50926c86a1d227ce81559e3759ee025f0bd68ba2e94"), looks := true }, kinds := [], alts := [], laidByText := true, laidKinds := [.data, .data, .data, .data, .sentinel, .sentinel, .pinned], laidTests := true, laidLooks := .later }
def SubtreeParsesCardSaid : Prop := Claim7.holds Tryz.pinned (.plain (OpenSpec.ofChange subtreeParsesSpec)) subtreeParsesCard

/-- THE TIED CARD OF 'cretulalaw18.SubtreeChanges'. -/
def subtreeChangesCard : Claim7 := { stood := { row := subtreeChangesRow, standIns := [], harness := (true, "32123e7e22d7adc067e5e50926c86a1d227ce81559e3759ee025f0bd68ba2e94"), looks := true }, kinds := [], alts := [], laidByText := true, laidKinds := [.data, .data, .data, .data, .sentinel, .sentinel, .pinned], laidTests := true, laidLooks := .later }
def SubtreeChangesCardSaid : Prop := Claim7.holds Tryz.pinned (.plain (OpenSpec.ofChange subtreeChangesSpec)) subtreeChangesCard

/-- THE TIED CARD OF 'cretulalaw18.SubtreeEnds'. -/
def subtreeEndsCard : Claim7 := { stood := { row := subtreeEndsRow, standIns := [], harness := (true, "32123e7e22d7adc067e5e50926c86a1d227ce81559e3759ee025f0bd68ba2e94"), looks := true }, kinds := [], alts := [], laidByText := true, laidKinds := [.data, .data, .data, .data, .sentinel, .sentinel, .pinned], laidTests := true, laidLooks := .later }
def SubtreeEndsCardSaid : Prop := Claim7.holds Tryz.pinned (.plain (OpenSpec.ofChange subtreeEndsSpec)) subtreeEndsCard

/-- THE TIED CARD OF 'cretulalaw18.SubtreeCopies'. -/
def subtreeCopiesCard : Claim7 := { stood := { row := subtreeCopiesRow, standIns := [], harness := (true, "32123e7e22d7adc067e5e50926c86a1d227ce81559e3759ee025f0bd68ba2e94"), looks := true }, kinds := [], alts := [], laidByText := true, laidKinds := [.data, .data, .data, .data, .sentinel, .sentinel, .pinned], laidTests := true, laidLooks := .later }
def SubtreeCopiesCardSaid : Prop := Claim7.holds Tryz.pinned (.plain (OpenSpec.ofChange subtreeCopiesSpec)) subtreeCopiesCard

/-- THE SECOND FORM's CARD OF 'cretulalaw18.SubtreeMarshals'. -/
def subtreeMarshalsUptoCard : Claim7 := { stood := { row := subtreeMarshalsUptoRow, standIns := [], harness := (true, "32123e7e22d7adc067e5e50926c86a1d227ce81559e3759ee025f0bd68ba2e94"), looks := true }, kinds := [], alts := [], laidByText := true, laidKinds := [.data, .data, .data, .data, .sentinel, .sentinel, .pinned], laidTests := true, laidLooks := .later }
def SubtreeMarshalsUptoCardSaid : Prop := Claim7.holds Tryz.pinned (.plain (OpenSpec.upto subtreeMarshalsSpec)) subtreeMarshalsUptoCard

/-- THE SECOND FORM's CARD OF 'cretulalaw18.SubtreeParses'. -/
def subtreeParsesUptoCard : Claim7 := { stood := { row := subtreeParsesUptoRow, standIns := [], harness := (true, "32123e7e22d7adc067e5e50926c86a1d227ce81559e3759ee025f0bd68ba2e94"), looks := true }, kinds := [], alts := [], laidByText := true, laidKinds := [.data, .data, .data, .data, .sentinel, .sentinel, .pinned], laidTests := true, laidLooks := .later }
def SubtreeParsesUptoCardSaid : Prop := Claim7.holds Tryz.pinned (.plain (OpenSpec.upto subtreeParsesSpec)) subtreeParsesUptoCard

/-- THE SECOND FORM's CARD OF 'cretulalaw18.SubtreeChanges'. -/
def subtreeChangesUptoCard : Claim7 := { stood := { row := subtreeChangesUptoRow, standIns := [], harness := (true, "32123e7e22d7adc067e5e50926c86a1d227ce81559e3759ee025f0bd68ba2e94"), looks := true }, kinds := [], alts := [], laidByText := true, laidKinds := [.data, .data, .data, .data, .sentinel, .sentinel, .pinned], laidTests := true, laidLooks := .later }
def SubtreeChangesUptoCardSaid : Prop := Claim7.holds Tryz.pinned (.plain (OpenSpec.upto subtreeChangesSpec)) subtreeChangesUptoCard

/-- THE SECOND FORM's CARD OF 'cretulalaw18.SubtreeEnds'. -/
def subtreeEndsUptoCard : Claim7 := { stood := { row := subtreeEndsUptoRow, standIns := [], harness := (true, "32123e7e22d7adc067e5e50926c86a1d227ce81559e3759ee025f0bd68ba2e94"), looks := true }, kinds := [], alts := [], laidByText := true, laidKinds := [.data, .data, .data, .data, .sentinel, .sentinel, .pinned], laidTests := true, laidLooks := .later }
def SubtreeEndsUptoCardSaid : Prop := Claim7.holds Tryz.pinned (.plain (OpenSpec.upto subtreeEndsSpec)) subtreeEndsUptoCard

/-- THE SECOND FORM's CARD OF 'cretulalaw18.SubtreeCopies'. -/
def subtreeCopiesUptoCard : Claim7 := { stood := { row := subtreeCopiesUptoRow, standIns := [], harness := (true, "32123e7e22d7adc067e5e50926c86a1d227ce81559e3759ee025f0bd68ba2e94"), looks := true }, kinds := [], alts := [], laidByText := true, laidKinds := [.data, .data, .data, .data, .sentinel, .sentinel, .pinned], laidTests := true, laidLooks := .later }
def SubtreeCopiesUptoCardSaid : Prop := Claim7.holds Tryz.pinned (.plain (OpenSpec.upto subtreeCopiesSpec)) subtreeCopiesUptoCard
end Rows
end Go.Proofs.YtgmbmfoabndmoaaGreatDoor
