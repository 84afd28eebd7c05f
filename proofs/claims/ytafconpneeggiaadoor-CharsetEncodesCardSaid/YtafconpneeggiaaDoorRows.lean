/-
  NARROWER THAN 'FOR EVERY INPUT', by the rows' own cells (each row's printed sentence says how): CharsetSame: laid · CharsetKinds: laid · CharsetInverse: laid · CharsetEncodes: laid · CharsetBest: laid.
  DERIVED. THE GIVEN ROWS OF THIS SEAT. 5 by the template 'for every input the law returns true; each argument reads behind the call as it read before'; 0 by the template 'total and deterministic' (their statements: YtafconpneeggiaaDoorTotals.lean).
  GIVEN WITH THE SEED: the statements are not yours to turn. If you find one false, say at which input.
  Laid BY PROGRAM, IN A SANDBOX (cutbox-rows.mjs): the forced cells as the released guide's own fill.sh prints them over the translation d94054864e267c36… (all of the seat's roots in one cut). By AI agents, Wed Nov 11 2026. No macro, syntax, notation, axiom, sorry.
-/
import Derived.Test.YtafconpneeggiaaDoorChecked
import GoSem.PinnedTables
import GoSem.Claim
import GoSem.ClaimJoined
import GoSem.ClaimMapViews
import Derived.JoinedTies
import Derived.KernelRfl
namespace Go.Proofs.YtafconpneeggiaaDoor
/- THE CELL 'sum', in the pinned program and in every row, IS THE sha256 OF THE DUMP (.gsa) THAT YtafconpneeggiaaDoorProg.lean LOADS. Nothing in Lean hashes anything: it is a label: what it is worth is what the hold of that sum in a sandbox is worth. -/
noncomputable def Tryd.pinned : Pinned := { name := "ytafconpneeggiaadoor", sum := "d94054864e267c36f4d3dc25671b2e4dffad02953ae00b1a602ef3e2c4e2dae7", checked := Tryd.checked }
namespace Rows
def none {H : Type} : Left H := { results := [], args := [] }

/- WHAT THE LISTED PACKAGE-LEVEL VARIABLES READ AS WHEN THE CALL BEGINS. Each datum BY PROGRAM (the guide's laid-datum.mjs) off the statement by which the dump's own 'gosem.cut.vars' lays the variable. In a bare row this is a premise. The card (YtafconpneeggiaaDoorCards.lean) ties it to the program's text. -/
def laid_unicode_utf8_acceptRanges {H : Type} : DataW H := .agg [.agg [.lit (.int .u8 128), .lit (.int .u8 191)], .agg [.lit (.int .u8 160), .lit (.int .u8 191)], .agg [.lit (.int .u8 128), .lit (.int .u8 159)], .agg [.lit (.int .u8 144), .lit (.int .u8 191)], .agg [.lit (.int .u8 128), .lit (.int .u8 143)], .agg [.lit (.int .u8 0), .lit (.int .u8 0)], .agg [.lit (.int .u8 0), .lit (.int .u8 0)], .agg [.lit (.int .u8 0), .lit (.int .u8 0)], .agg [.lit (.int .u8 0), .lit (.int .u8 0)], .agg [.lit (.int .u8 0), .lit (.int .u8 0)], .agg [.lit (.int .u8 0), .lit (.int .u8 0)], .agg [.lit (.int .u8 0), .lit (.int .u8 0)], .agg [.lit (.int .u8 0), .lit (.int .u8 0)], .agg [.lit (.int .u8 0), .lit (.int .u8 0)], .agg [.lit (.int .u8 0), .lit (.int .u8 0)], .agg [.lit (.int .u8 0), .lit (.int .u8 0)]]
/-- One of Go's own tables, pinned by name: the form's constant. -/
def laid_unicode_utf8_first : DataW Unit := Go.Pinned.utf8First

/-- 'cretulalaw07.CharsetSame': WHATEVER THE INPUT: true; the input reads as it did. -/
def charsetSameSpec : ChangeSpec := { name := "charsetSame", fn := fun _ => fun
  | [d1, d2, d3] => { results := [.lit (.bool true)], args := [d1, d2, d3] }
  | _ => none }
def charsetSameRow : OpenClaim := { program := "ytafconpneeggiaadoor", sum := "d94054864e267c36f4d3dc25671b2e4dffad02953ae00b1a602ef3e2c4e2dae7", func := "cretula/cretulalaw07.CharsetSame", spec := "charsetSame", inPlace := ["internal/bytealg.IndexByteString", "internal/bytealg.IndexString"], unfollowed := true, recurses := true, named := ["unicode/utf8.first", "unicode/utf8.acceptRanges", "internal/bytealg.MaxLen"], apart := false, laid := [("unicode/utf8.acceptRanges", laid_unicode_utf8_acceptRanges), ("unicode/utf8.first", laid_unicode_utf8_first)] }
def CharsetSameSaid : Prop := charsetSameRow.holds Tryd.pinned (OpenSpec.ofChange charsetSameSpec)

/-- ITS FALSE NEIGHBOUR: 'it returns false'. Refute it at one input. -/
def charsetSameWrong : ChangeSpec := { name := "charsetSame", fn := fun _ => fun
  | [d1, d2, d3] => { results := [.lit (.bool false)], args := [d1, d2, d3] }
  | _ => none }
def CharsetSameWrongFalsely : Prop := charsetSameRow.holds Tryd.pinned (OpenSpec.ofChange charsetSameWrong)

/-- 'cretulalaw07.CharsetKinds': WHATEVER THE INPUT: true; the input reads as it did. -/
def charsetKindsSpec : ChangeSpec := { name := "charsetKinds", fn := fun _ => fun
  | [d1, d2] => { results := [.lit (.bool true)], args := [d1, d2] }
  | _ => none }
def charsetKindsRow : OpenClaim := { program := "ytafconpneeggiaadoor", sum := "d94054864e267c36f4d3dc25671b2e4dffad02953ae00b1a602ef3e2c4e2dae7", func := "cretula/cretulalaw07.CharsetKinds", spec := "charsetKinds", inPlace := ["internal/bytealg.IndexByteString", "internal/bytealg.IndexString"], unfollowed := true, recurses := true, named := ["unicode/utf8.first", "unicode/utf8.acceptRanges", "internal/bytealg.MaxLen"], apart := false, laid := [("unicode/utf8.acceptRanges", laid_unicode_utf8_acceptRanges), ("unicode/utf8.first", laid_unicode_utf8_first)] }
def CharsetKindsSaid : Prop := charsetKindsRow.holds Tryd.pinned (OpenSpec.ofChange charsetKindsSpec)

/-- ITS FALSE NEIGHBOUR: 'it returns false'. Refute it at one input. -/
def charsetKindsWrong : ChangeSpec := { name := "charsetKinds", fn := fun _ => fun
  | [d1, d2] => { results := [.lit (.bool false)], args := [d1, d2] }
  | _ => none }
def CharsetKindsWrongFalsely : Prop := charsetKindsRow.holds Tryd.pinned (OpenSpec.ofChange charsetKindsWrong)

/-- 'cretulalaw07.CharsetInverse': WHATEVER THE INPUT: true; the input reads as it did. -/
def charsetInverseSpec : ChangeSpec := { name := "charsetInverse", fn := fun _ => fun
  | [d1, d2] => { results := [.lit (.bool true)], args := [d1, d2] }
  | _ => none }
def charsetInverseRow : OpenClaim := { program := "ytafconpneeggiaadoor", sum := "d94054864e267c36f4d3dc25671b2e4dffad02953ae00b1a602ef3e2c4e2dae7", func := "cretula/cretulalaw07.CharsetInverse", spec := "charsetInverse", inPlace := ["internal/bytealg.IndexByteString", "internal/bytealg.IndexString", "internal/abi.NoEscape"], unfollowed := true, recurses := true, named := ["unicode/utf8.first", "unicode/utf8.acceptRanges", "internal/bytealg.MaxLen"], apart := false, laid := [("unicode/utf8.acceptRanges", laid_unicode_utf8_acceptRanges), ("unicode/utf8.first", laid_unicode_utf8_first)] }
def CharsetInverseSaid : Prop := charsetInverseRow.holds Tryd.pinned (OpenSpec.ofChange charsetInverseSpec)

/-- ITS FALSE NEIGHBOUR: 'it returns false'. Refute it at one input. -/
def charsetInverseWrong : ChangeSpec := { name := "charsetInverse", fn := fun _ => fun
  | [d1, d2] => { results := [.lit (.bool false)], args := [d1, d2] }
  | _ => none }
def CharsetInverseWrongFalsely : Prop := charsetInverseRow.holds Tryd.pinned (OpenSpec.ofChange charsetInverseWrong)

/-- 'cretulalaw07.CharsetEncodes': WHATEVER THE INPUT: true; the input reads as it did. -/
def charsetEncodesSpec : ChangeSpec := { name := "charsetEncodes", fn := fun _ => fun
  | [d] => { results := [.lit (.bool true)], args := [d] }
  | _ => none }
def charsetEncodesRow : OpenClaim := { program := "ytafconpneeggiaadoor", sum := "d94054864e267c36f4d3dc25671b2e4dffad02953ae00b1a602ef3e2c4e2dae7", func := "cretula/cretulalaw07.CharsetEncodes", spec := "charsetEncodes", inPlace := ["internal/bytealg.IndexByteString", "internal/bytealg.IndexString", "internal/abi.NoEscape"], unfollowed := true, recurses := true, named := ["unicode/utf8.first", "unicode/utf8.acceptRanges", "internal/bytealg.MaxLen"], apart := false, laid := [("unicode/utf8.acceptRanges", laid_unicode_utf8_acceptRanges), ("unicode/utf8.first", laid_unicode_utf8_first)] }
def CharsetEncodesSaid : Prop := charsetEncodesRow.holds Tryd.pinned (OpenSpec.ofChange charsetEncodesSpec)

/-- ITS FALSE NEIGHBOUR: 'it returns false'. Refute it at one input. -/
def charsetEncodesWrong : ChangeSpec := { name := "charsetEncodes", fn := fun _ => fun
  | [d] => { results := [.lit (.bool false)], args := [d] }
  | _ => none }
def CharsetEncodesWrongFalsely : Prop := charsetEncodesRow.holds Tryd.pinned (OpenSpec.ofChange charsetEncodesWrong)

/-- 'cretulalaw07.CharsetBest': WHATEVER THE INPUT: true; the input reads as it did. -/
def charsetBestSpec : ChangeSpec := { name := "charsetBest", fn := fun _ => fun
  | [d] => { results := [.lit (.bool true)], args := [d] }
  | _ => none }
def charsetBestRow : OpenClaim := { program := "ytafconpneeggiaadoor", sum := "d94054864e267c36f4d3dc25671b2e4dffad02953ae00b1a602ef3e2c4e2dae7", func := "cretula/cretulalaw07.CharsetBest", spec := "charsetBest", inPlace := ["internal/bytealg.IndexByteString", "internal/bytealg.IndexString"], unfollowed := true, recurses := true, named := ["unicode/utf8.first", "unicode/utf8.acceptRanges", "internal/bytealg.MaxLen"], apart := false, laid := [("unicode/utf8.acceptRanges", laid_unicode_utf8_acceptRanges), ("unicode/utf8.first", laid_unicode_utf8_first)] }
def CharsetBestSaid : Prop := charsetBestRow.holds Tryd.pinned (OpenSpec.ofChange charsetBestSpec)

/-- ITS FALSE NEIGHBOUR: 'it returns false'. Refute it at one input. -/
def charsetBestWrong : ChangeSpec := { name := "charsetBest", fn := fun _ => fun
  | [d] => { results := [.lit (.bool false)], args := [d] }
  | _ => none }
def CharsetBestWrongFalsely : Prop := charsetBestRow.holds Tryd.pinned (OpenSpec.ofChange charsetBestWrong)

/- THE SECOND FORM. 'bulk': how many values and letters a reading holds, each counted each time it is reached (what is shared counts as often as it is met; a slice's spare places count too). A statement '..UptoSaid' is the law's where the arguments, and the package variables that the reading takes, are together of bulk at most 1048576: NARROWER than '..Said'. Prove '..Said' where nothing that the law and all that it calls make is longer than what came in: it says more and counts as full. Else prove '..UptoSaid'. A law counts once. -/
mutual
def uptoBulk {H : Type} : DataW H → Nat
  | .lit (.string bytes) => bytes.length + 1
  | .lit _ => 1
  | .nil => 1
  | .ptr d => uptoBulk d + 1
  | .slice elems spare => uptoBulkAll elems + uptoBulkAll spare + 1
  | .agg parts => uptoBulkAll parts + 1
  | .iface _ d => uptoBulk d + 1
  | .map entries => uptoBulkEntries entries + 1
  | .held _ => 1
def uptoBulkAll {H : Type} : List (DataW H) → Nat
  | [] => 0
  | d :: r => uptoBulk d + uptoBulkAll r
def uptoBulkEntries {H : Type} : List (Lit × DataW H) → Nat
  | [] => 0
  | x :: r => uptoBulkEntry x + uptoBulkEntries r
def uptoBulkEntry {H : Type} : Lit × DataW H → Nat
  | (.string bytes, d) => bytes.length + uptoBulk d + 1
  | (_, d) => uptoBulk d + 1
 end
def uptoSmall : (H : Type) → List (DataW H) → Bool := fun _ ds => decide (uptoBulkAll ds ≤ 1048576)
def OpenSpec.upto (s : _root_.Go.ChangeSpec) : _root_.Go.OpenSpec := { _root_.Go.OpenSpec.ofChange s with cond := some uptoSmall }

/-- 'cretulalaw07.CharsetSame', WHERE WHAT IT READS IS OF BULK AT MOST 1048576: true; the input reads as it did. -/
def charsetSameUptoRow : OpenClaim := { program := "ytafconpneeggiaadoor", sum := "d94054864e267c36f4d3dc25671b2e4dffad02953ae00b1a602ef3e2c4e2dae7", func := "cretula/cretulalaw07.CharsetSame", spec := "charsetSame", inPlace := ["internal/bytealg.IndexByteString", "internal/bytealg.IndexString"], unfollowed := true, recurses := true, named := ["unicode/utf8.first", "unicode/utf8.acceptRanges", "internal/bytealg.MaxLen"], apart := false, laid := [("unicode/utf8.acceptRanges", laid_unicode_utf8_acceptRanges), ("unicode/utf8.first", laid_unicode_utf8_first)], narrowed := true }
def CharsetSameUptoSaid : Prop := charsetSameUptoRow.holds Tryd.pinned (OpenSpec.upto charsetSameSpec)

/-- 'cretulalaw07.CharsetKinds', WHERE WHAT IT READS IS OF BULK AT MOST 1048576: true; the input reads as it did. -/
def charsetKindsUptoRow : OpenClaim := { program := "ytafconpneeggiaadoor", sum := "d94054864e267c36f4d3dc25671b2e4dffad02953ae00b1a602ef3e2c4e2dae7", func := "cretula/cretulalaw07.CharsetKinds", spec := "charsetKinds", inPlace := ["internal/bytealg.IndexByteString", "internal/bytealg.IndexString"], unfollowed := true, recurses := true, named := ["unicode/utf8.first", "unicode/utf8.acceptRanges", "internal/bytealg.MaxLen"], apart := false, laid := [("unicode/utf8.acceptRanges", laid_unicode_utf8_acceptRanges), ("unicode/utf8.first", laid_unicode_utf8_first)], narrowed := true }
def CharsetKindsUptoSaid : Prop := charsetKindsUptoRow.holds Tryd.pinned (OpenSpec.upto charsetKindsSpec)

/-- 'cretulalaw07.CharsetInverse', WHERE WHAT IT READS IS OF BULK AT MOST 1048576: true; the input reads as it did. -/
def charsetInverseUptoRow : OpenClaim := { program := "ytafconpneeggiaadoor", sum := "d94054864e267c36f4d3dc25671b2e4dffad02953ae00b1a602ef3e2c4e2dae7", func := "cretula/cretulalaw07.CharsetInverse", spec := "charsetInverse", inPlace := ["internal/bytealg.IndexByteString", "internal/bytealg.IndexString", "internal/abi.NoEscape"], unfollowed := true, recurses := true, named := ["unicode/utf8.first", "unicode/utf8.acceptRanges", "internal/bytealg.MaxLen"], apart := false, laid := [("unicode/utf8.acceptRanges", laid_unicode_utf8_acceptRanges), ("unicode/utf8.first", laid_unicode_utf8_first)], narrowed := true }
def CharsetInverseUptoSaid : Prop := charsetInverseUptoRow.holds Tryd.pinned (OpenSpec.upto charsetInverseSpec)

/-- 'cretulalaw07.CharsetEncodes', WHERE WHAT IT READS IS OF BULK AT MOST 1048576: true; the input reads as it did. -/
def charsetEncodesUptoRow : OpenClaim := { program := "ytafconpneeggiaadoor", sum := "d94054864e267c36f4d3dc25671b2e4dffad02953ae00b1a602ef3e2c4e2dae7", func := "cretula/cretulalaw07.CharsetEncodes", spec := "charsetEncodes", inPlace := ["internal/bytealg.IndexByteString", "internal/bytealg.IndexString", "internal/abi.NoEscape"], unfollowed := true, recurses := true, named := ["unicode/utf8.first", "unicode/utf8.acceptRanges", "internal/bytealg.MaxLen"], apart := false, laid := [("unicode/utf8.acceptRanges", laid_unicode_utf8_acceptRanges), ("unicode/utf8.first", laid_unicode_utf8_first)], narrowed := true }
def CharsetEncodesUptoSaid : Prop := charsetEncodesUptoRow.holds Tryd.pinned (OpenSpec.upto charsetEncodesSpec)

/-- 'cretulalaw07.CharsetBest', WHERE WHAT IT READS IS OF BULK AT MOST 1048576: true; the input reads as it did. -/
def charsetBestUptoRow : OpenClaim := { program := "ytafconpneeggiaadoor", sum := "d94054864e267c36f4d3dc25671b2e4dffad02953ae00b1a602ef3e2c4e2dae7", func := "cretula/cretulalaw07.CharsetBest", spec := "charsetBest", inPlace := ["internal/bytealg.IndexByteString", "internal/bytealg.IndexString"], unfollowed := true, recurses := true, named := ["unicode/utf8.first", "unicode/utf8.acceptRanges", "internal/bytealg.MaxLen"], apart := false, laid := [("unicode/utf8.acceptRanges", laid_unicode_utf8_acceptRanges), ("unicode/utf8.first", laid_unicode_utf8_first)], narrowed := true }
def CharsetBestUptoSaid : Prop := charsetBestUptoRow.holds Tryd.pinned (OpenSpec.upto charsetBestSpec)

end Rows
end Go.Proofs.YtafconpneeggiaaDoor
