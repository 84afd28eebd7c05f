/- NE: the texts LawKX, one behind the other. No condition but what each lemma says. -/
import Derived.Test.YtgamacmidohpfaaGreatDoorMX
namespace Go.Proofs.YtgamacmidohpfaaGreatDoor
open Go.RowKit
set_option maxRecDepth 100000
set_option maxHeartbeats 8000000
structure Kd.okk (k:Kd):Prop where
 d:k.id.length≤big
 i:k.iss.length≤big∧∀g∈k.iss,g.ok
 s:k.ser.length≤big
end Go.Proofs.YtgamacmidohpfaaGreatDoor
