/- GStep: the texts Step, one behind the other. No condition but what each lemma says. -/
import Derived.Test.YtokmjjkbginodaaGreatDoorGBase
import Derived.Deep.RegionHeld3
namespace Go.Proofs.YtokmjjkbginodaaGreatDoor
open Go.RowKit
end Go.Proofs.YtokmjjkbginodaaGreatDoor
