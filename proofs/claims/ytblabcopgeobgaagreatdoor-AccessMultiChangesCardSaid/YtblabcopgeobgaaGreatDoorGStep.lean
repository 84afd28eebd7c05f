/- GStep: the texts Step, one behind the other. No condition but what each lemma says. -/
import Derived.Test.YtblabcopgeobgaaGreatDoorGBase
import Derived.Deep.RegionHeld3
namespace Go.Proofs.YtblabcopgeobgaaGreatDoor
open Go.RowKit
end Go.Proofs.YtblabcopgeobgaaGreatDoor
