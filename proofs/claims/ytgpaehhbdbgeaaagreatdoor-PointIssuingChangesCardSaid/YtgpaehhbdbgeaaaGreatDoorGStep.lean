/- GStep: the texts Step, one behind the other. No condition but what each lemma says. -/
import Derived.Test.YtgpaehhbdbgeaaaGreatDoorGBase
import Derived.Deep.RegionHeld3
namespace Go.Proofs.YtgpaehhbdbgeaaaGreatDoor
open Go.RowKit
end Go.Proofs.YtgpaehhbdbgeaaaGreatDoor
