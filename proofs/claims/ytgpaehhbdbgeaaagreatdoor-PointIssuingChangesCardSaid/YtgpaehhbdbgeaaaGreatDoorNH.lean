/- NH: the texts Prq, one behind the other. No condition but what each lemma says. -/
import Derived.Test.YtgpaehhbdbgeaaaGreatDoorNG
import Derived.Test.YtgpaehhbdbgeaaaGreatDoorND
import Derived.Test.YtgpaehhbdbgeaaaGreatDoorME
namespace Go.Proofs.YtgpaehhbdbgeaaaGreatDoor
open Go.RowKit
set_option maxRecDepth 100000
set_option maxHeartbeats 16000000
end Go.Proofs.YtgpaehhbdbgeaaaGreatDoor
