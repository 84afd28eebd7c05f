/- GByt: the texts Byt, one behind the other. No condition but what each lemma says. -/
import Derived.Test.YtgmbmfoabndmoaaGreatDoorRows
import Derived.Test.YtgmbmfoabndmoaaGreatDoorGBase
import Derived.Deep.Light
import Derived.Deep.DeepCutAuto
namespace Go.Proofs.YtgmbmfoabndmoaaGreatDoor
open Go.RowKit
theorem Of:ElemOk Tryz.prog 27 5 (.int .u8 0) 1 1:=⟨Tryz.underlying27,by kernel_rfl,rfl,by decide⟩
theorem Sn {w:World} {base:Nat} {e:TypeId} {sz:Nat} {v:Value} {n:Nat} {cs:List Value} (h:w.ownsRow base e sz v n cs):∃a c,v= .slice a n c:=by
 obtain⟨a,c,hv,_⟩:=Fo.of_owns h
 exact⟨a,c,hv⟩
end Go.Proofs.YtgmbmfoabndmoaaGreatDoor
