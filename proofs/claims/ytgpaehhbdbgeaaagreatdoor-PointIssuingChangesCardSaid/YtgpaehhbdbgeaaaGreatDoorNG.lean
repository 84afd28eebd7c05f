/- NG: the texts Prp Prr, one behind the other. No condition but what each lemma says. -/
import Derived.Test.YtgpaehhbdbgeaaaGreatDoorNE
import Derived.Test.YtgpaehhbdbgeaaaGreatDoorNB
import Derived.Test.YtgpaehhbdbgeaaaGreatDoorMS
namespace Go.Proofs.YtgpaehhbdbgeaaaGreatDoor
open Go.RowKit
set_option maxRecDepth 100000
set_option maxHeartbeats 16000000
theorem nmZZ.q {f:List Gn} {r:List Att} (h:nmZZ f r):nmEq f r:=⟨⟨by have:=h.f.n;omega,fun p hp=>(h.f.z p hp).q⟩,⟨by have:=h.r.l;omega,fun p hp=>⟨by have:=(h.r.a p hp).v;omega⟩⟩⟩

end Go.Proofs.YtgpaehhbdbgeaaaGreatDoor
