/- MJ: the texts Kid, one behind the other. No condition but what each lemma says. -/
import Derived.Test.YtblabcopgeobgaaGreatDoorMG
import Derived.Test.YtblabcopgeobgaaGreatDoorME
import Derived.Test.YtblabcopgeobgaaGreatDoorMI
/- keyid: subject key identifiers; authority key identifiers, with what general gives told. No condition but sizes that memory bears. -/
namespace Go.Proofs.YtblabcopgeobgaaGreatDoor
open Go.RowKit
set_option maxRecDepth 100000
set_option maxHeartbeats 8000000

theorem encS_len (c n : Nat) (k : Bool) (l : List UInt8) (hl : l.length ≤ 1000000000) : (encS c n k l).length ≤ l.length + 6 := by
  have := lenS_len l.length (by omega)
  simp only [encS, putS, List.length_cons, List.length_append]; omega
/-- An authority key identifier. -/
structure Kd where
  has : Bool
  id : List UInt8
  iss : List Gn
  ser : List UInt8
end Go.Proofs.YtblabcopgeobgaaGreatDoor
