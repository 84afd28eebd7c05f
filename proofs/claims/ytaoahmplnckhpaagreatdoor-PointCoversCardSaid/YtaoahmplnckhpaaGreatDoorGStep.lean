/- GStep: the texts Step, one behind the other. No condition but what each lemma says. -/
import Derived.Test.YtaoahmplnckhpaaGreatDoorGBase
import Derived.Deep.RegionHeld3
namespace Go.Proofs.YtaoahmplnckhpaaGreatDoor
open Go.RowKit
end Go.Proofs.YtaoahmplnckhpaaGreatDoor
