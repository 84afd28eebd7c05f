/- GStep: the texts Step, one behind the other. No condition but what each lemma says. -/
import Derived.Test.YtgmbmfoabndmoaaGreatDoorGBase
import Derived.Deep.RegionHeld3
namespace Go.Proofs.YtgmbmfoabndmoaaGreatDoor
open Go.RowKit
end Go.Proofs.YtgmbmfoabndmoaaGreatDoor
