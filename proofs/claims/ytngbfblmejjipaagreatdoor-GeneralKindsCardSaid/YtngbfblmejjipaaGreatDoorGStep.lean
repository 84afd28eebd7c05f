/- GStep: the texts Step, one behind the other. No condition but what each lemma says. -/
import Derived.Test.YtngbfblmejjipaaGreatDoorGBase
import Derived.Deep.RegionHeld3
namespace Go.Proofs.YtngbfblmejjipaaGreatDoor
open Go.RowKit
end Go.Proofs.YtngbfblmejjipaaGreatDoor
