/- GByt: the texts Byt, one behind the other. No condition but what each lemma says. -/
import Derived.Test.YtcojanjphgmcmaaGreatDoorRows
import Derived.Test.YtcojanjphgmcmaaGreatDoorGBase
import Derived.Deep.Light
import Derived.Deep.DeepCutAuto
namespace Go.Proofs.YtcojanjphgmcmaaGreatDoor
open Go.RowKit
theorem Od:ElemOk Tryz.prog 26 5 (.int .u8 0) 1 1:=⟨Tryz.underlying26,by kernel_rfl,rfl,by decide⟩
theorem Sb {w:World} {base:Nat} {e:TypeId} {sz:Nat} {v:Value} {n:Nat} {cs:List Value} (h:w.ownsRow base e sz v n cs):∃a c,v= .slice a n c:=by
 obtain⟨a,c,hv,_⟩:=Fv.of_owns h
 exact⟨a,c,hv⟩
end Go.Proofs.YtcojanjphgmcmaaGreatDoor
