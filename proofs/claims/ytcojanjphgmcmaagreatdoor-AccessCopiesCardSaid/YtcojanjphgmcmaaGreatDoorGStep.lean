/- GStep: the texts Step, one behind the other. No condition but what each lemma says. -/
import Derived.Test.YtcojanjphgmcmaaGreatDoorGBase
import Derived.Deep.RegionHeld3
namespace Go.Proofs.YtcojanjphgmcmaaGreatDoor
open Go.RowKit
end Go.Proofs.YtcojanjphgmcmaaGreatDoor
