/- MQ: the texts Oct Pts Val7 Dec7, one behind the other. No condition but what each lemma says. -/
import Derived.Test.YtgpaehhbdbgeaaaGreatDoorMC
import Derived.Test.YtgpaehhbdbgeaaaGreatDoorGCsPl
import Derived.Test.YtgpaehhbdbgeaaaGreatDoorMI
import Derived.Test.YtgpaehhbdbgeaaaGreatDoorME
set_option maxRecDepth 100000
set_option maxHeartbeats 16000000
namespace Go.Proofs.YtgpaehhbdbgeaaaGreatDoor
open Go.RowKit
end Go.Proofs.YtgpaehhbdbgeaaaGreatDoor
namespace Go.Proofs.YtgpaehhbdbgeaaaGreatDoor
open Go.RowKit
open Go.Lib (validD decodeL)

end Go.Proofs.YtgpaehhbdbgeaaaGreatDoor
