/-
  DERIVED. GIVEN WITH THE SEED: THE CARDS: each row of YtafconpneeggiaaDoorRows.lean that lists a variable, with what it lists TIED to the program's text (the seventh form; the later family's looks); each row that meets fmt, with fmt's text TOLD by the authors' own Lean function (tested against real Go, not proved from fmt's source: count such statements apart). THE CARD IS WHAT COUNTS. Prove the row's statement (the work); the ties are given (YtafconpneeggiaaDoorTie.lean); close each card by the builder's one call (the guide's Derived/Test/ToyasCard.lean, 'card_holds'). Laid BY PROGRAM, IN A SANDBOX (cutbox-door.mjs). By AI agents, Wed Nov 11 2026. No macro, syntax, notation, axiom, sorry.
-/
import Derived.Test.YtafconpneeggiaaDoorRows
import GoSem.ClaimSeven
namespace Go.Proofs.YtafconpneeggiaaDoor
namespace Rows

/-- THE TIED CARD OF 'cretulalaw07.CharsetSame'. -/
def charsetSameCard : Claim7 := { stood := { row := charsetSameRow, standIns := [], harness := (true, "7d08fadec8415ed326b28b1459970eb6e42a0e94cc3737a6f3c7b39ba5fbe5f0"), looks := false }, kinds := [], alts := [], laidByText := true, laidKinds := [.data, .pinned], laidTests := true, laidLooks := .later }
def CharsetSameCardSaid : Prop := Claim7.holds Tryd.pinned (.plain (OpenSpec.ofChange charsetSameSpec)) charsetSameCard

/-- THE TIED CARD OF 'cretulalaw07.CharsetKinds'. -/
def charsetKindsCard : Claim7 := { stood := { row := charsetKindsRow, standIns := [], harness := (true, "7d08fadec8415ed326b28b1459970eb6e42a0e94cc3737a6f3c7b39ba5fbe5f0"), looks := false }, kinds := [], alts := [], laidByText := true, laidKinds := [.data, .pinned], laidTests := true, laidLooks := .later }
def CharsetKindsCardSaid : Prop := Claim7.holds Tryd.pinned (.plain (OpenSpec.ofChange charsetKindsSpec)) charsetKindsCard

/-- THE TIED CARD OF 'cretulalaw07.CharsetInverse'. -/
def charsetInverseCard : Claim7 := { stood := { row := charsetInverseRow, standIns := [], harness := (true, "7d08fadec8415ed326b28b1459970eb6e42a0e94cc3737a6f3c7b39ba5fbe5f0"), looks := false }, kinds := [], alts := [], laidByText := true, laidKinds := [.data, .pinned], laidTests := true, laidLooks := .later }
def CharsetInverseCardSaid : Prop := Claim7.holds Tryd.pinned (.plain (OpenSpec.ofChange charsetInverseSpec)) charsetInverseCard

/-- THE TIED CARD OF 'cretulalaw07.CharsetEncodes'. -/
def charsetEncodesCard : Claim7 := { stood := { row := charsetEncodesRow, standIns := [], harness := (true, "7d08fadec8415ed326b28b1459970eb6e42a0e94cc3737a6f3c7b39ba5fbe5f0"), looks := false }, kinds := [], alts := [], laidByText := true, laidKinds := [.data, .pinned], laidTests := true, laidLooks := .later }
def CharsetEncodesCardSaid : Prop := Claim7.holds Tryd.pinned (.plain (OpenSpec.ofChange charsetEncodesSpec)) charsetEncodesCard

/-- THE TIED CARD OF 'cretulalaw07.CharsetBest'. -/
def charsetBestCard : Claim7 := { stood := { row := charsetBestRow, standIns := [], harness := (true, "7d08fadec8415ed326b28b1459970eb6e42a0e94cc3737a6f3c7b39ba5fbe5f0"), looks := false }, kinds := [], alts := [], laidByText := true, laidKinds := [.data, .pinned], laidTests := true, laidLooks := .later }
def CharsetBestCardSaid : Prop := Claim7.holds Tryd.pinned (.plain (OpenSpec.ofChange charsetBestSpec)) charsetBestCard

/-- THE SECOND FORM's CARD OF 'cretulalaw07.CharsetSame'. -/
def charsetSameUptoCard : Claim7 := { stood := { row := charsetSameUptoRow, standIns := [], harness := (true, "7d08fadec8415ed326b28b1459970eb6e42a0e94cc3737a6f3c7b39ba5fbe5f0"), looks := false }, kinds := [], alts := [], laidByText := true, laidKinds := [.data, .pinned], laidTests := true, laidLooks := .later }
def CharsetSameUptoCardSaid : Prop := Claim7.holds Tryd.pinned (.plain (OpenSpec.upto charsetSameSpec)) charsetSameUptoCard

/-- THE SECOND FORM's CARD OF 'cretulalaw07.CharsetKinds'. -/
def charsetKindsUptoCard : Claim7 := { stood := { row := charsetKindsUptoRow, standIns := [], harness := (true, "7d08fadec8415ed326b28b1459970eb6e42a0e94cc3737a6f3c7b39ba5fbe5f0"), looks := false }, kinds := [], alts := [], laidByText := true, laidKinds := [.data, .pinned], laidTests := true, laidLooks := .later }
def CharsetKindsUptoCardSaid : Prop := Claim7.holds Tryd.pinned (.plain (OpenSpec.upto charsetKindsSpec)) charsetKindsUptoCard

/-- THE SECOND FORM's CARD OF 'cretulalaw07.CharsetInverse'. -/
def charsetInverseUptoCard : Claim7 := { stood := { row := charsetInverseUptoRow, standIns := [], harness := (true, "7d08fadec8415ed326b28b1459970eb6e42a0e94cc3737a6f3c7b39ba5fbe5f0"), looks := false }, kinds := [], alts := [], laidByText := true, laidKinds := [.data, .pinned], laidTests := true, laidLooks := .later }
def CharsetInverseUptoCardSaid : Prop := Claim7.holds Tryd.pinned (.plain (OpenSpec.upto charsetInverseSpec)) charsetInverseUptoCard

/-- THE SECOND FORM's CARD OF 'cretulalaw07.CharsetEncodes'. -/
def charsetEncodesUptoCard : Claim7 := { stood := { row := charsetEncodesUptoRow, standIns := [], harness := (true, "7d08fadec8415ed326b28b1459970eb6e42a0e94cc3737a6f3c7b39ba5fbe5f0"), looks := false }, kinds := [], alts := [], laidByText := true, laidKinds := [.data, .pinned], laidTests := true, laidLooks := .later }
def CharsetEncodesUptoCardSaid : Prop := Claim7.holds Tryd.pinned (.plain (OpenSpec.upto charsetEncodesSpec)) charsetEncodesUptoCard

/-- THE SECOND FORM's CARD OF 'cretulalaw07.CharsetBest'. -/
def charsetBestUptoCard : Claim7 := { stood := { row := charsetBestUptoRow, standIns := [], harness := (true, "7d08fadec8415ed326b28b1459970eb6e42a0e94cc3737a6f3c7b39ba5fbe5f0"), looks := false }, kinds := [], alts := [], laidByText := true, laidKinds := [.data, .pinned], laidTests := true, laidLooks := .later }
def CharsetBestUptoCardSaid : Prop := Claim7.holds Tryd.pinned (.plain (OpenSpec.upto charsetBestSpec)) charsetBestUptoCard
end Rows
end Go.Proofs.YtafconpneeggiaaDoor
