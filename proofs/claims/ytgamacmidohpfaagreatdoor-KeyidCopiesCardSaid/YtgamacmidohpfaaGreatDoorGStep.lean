/- GStep: the texts Step, one behind the other. No condition but what each lemma says. -/
import Derived.Test.YtgamacmidohpfaaGreatDoorGBase
import Derived.Deep.RegionHeld3
namespace Go.Proofs.YtgamacmidohpfaaGreatDoor
open Go.RowKit
end Go.Proofs.YtgamacmidohpfaaGreatDoor
