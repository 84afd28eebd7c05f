/- GByt: the texts Byt, one behind the other. No condition but what each lemma says. -/
import Derived.Test.YtbedjionhmaafaaGreatDoorProg
import Derived.KernelRfl
import Derived.RowKit
import GoSem.Claim
import GoSem.ClaimJoined
import Derived.Test.YtbedjionhmaafaaGreatDoorGBase
import Derived.Deep.Light
import Derived.Deep.DeepCutAuto
set_option linter.all false
namespace Go.Proofs.YtbedjionhmaafaaGreatDoor
open Go.RowKit
theorem Vr:ElemOk Tryz.prog 22 5 (.int .u8 0) 1 1:=⟨Tryz.underlying22,Ac,rfl,Ae⟩
theorem Z9 {w:World} {b:Nat} {e:TypeId} {sz:Nat} {v:Value} {n:Nat} {cs:List Value} (h:w.ownsRow b e sz v n cs):∃a c,v= .slice a n c:=by
 obtain⟨a,c,d,_⟩:=Ud h
 exact⟨a,c,d⟩
end Go.Proofs.YtbedjionhmaafaaGreatDoor
