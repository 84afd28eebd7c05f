/- NA: the text LawKX. No condition but what each lemma says. -/
import Derived.Test.YtgamacmidohpfaaGreatDoorMX
set_option maxRecDepth 100000
set_option maxHeartbeats 16000000
namespace Go.Proofs.YtgamacmidohpfaaGreatDoor
open Go.RowKit
structure Kd.okk (k:Kd):Prop where
 d:k.id.length≤big
 i:k.iss.length≤big∧∀g∈k.iss,g.ok
 s:k.ser.length≤big
end Go.Proofs.YtgamacmidohpfaaGreatDoor
namespace Go.Proofs.YtgamacmidohpfaaGreatDoor
open Go.ChangeShapes Go.WideShapes Go.ChangeAt Go.RowKit Go.Joins
structure Kd.wf (k:Kd):Prop where
 d:k.id.length≤big
 i:k.iss.length≤big∧∀g∈k.iss,g.wf
 s:k.ser.length≤big
theorem Kd.wf.okk {k:Kd} (h:k.wf):k.okk:=⟨h.d,⟨h.i.1,fun g hg=>(h.i.2 g hg).ok⟩,h.s⟩
end Go.Proofs.YtgamacmidohpfaaGreatDoor
