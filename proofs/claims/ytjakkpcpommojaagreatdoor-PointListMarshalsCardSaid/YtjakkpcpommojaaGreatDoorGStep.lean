/- GStep: the texts Step, one behind the other. No condition but what each lemma says. -/
import Derived.Test.YtjakkpcpommojaaGreatDoorGBase
import Derived.Deep.RegionHeld3
namespace Go.Proofs.YtjakkpcpommojaaGreatDoor
open Go.RowKit
end Go.Proofs.YtjakkpcpommojaaGreatDoor
