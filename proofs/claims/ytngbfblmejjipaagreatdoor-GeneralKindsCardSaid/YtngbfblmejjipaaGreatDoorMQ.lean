/- MQ: the texts Oct Pts Val7 Dec7, one behind the other. No condition but what each lemma says. -/
import Derived.Test.YtngbfblmejjipaaGreatDoorMC
import Derived.Test.YtngbfblmejjipaaGreatDoorGCsPl
import Derived.Test.YtngbfblmejjipaaGreatDoorMI
import Derived.Test.YtngbfblmejjipaaGreatDoorME
set_option maxRecDepth 100000
set_option maxHeartbeats 16000000
namespace Go.Proofs.YtngbfblmejjipaaGreatDoor
open Go.RowKit
end Go.Proofs.YtngbfblmejjipaaGreatDoor
namespace Go.Proofs.YtngbfblmejjipaaGreatDoor
open Go.RowKit
open Go.Lib (validD decodeL)

end Go.Proofs.YtngbfblmejjipaaGreatDoor
