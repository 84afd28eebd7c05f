/- GByt: the texts Byt, one behind the other. No condition but what each lemma says. -/
import Derived.Test.YtjakkpcpommojaaGreatDoorRows
import Derived.Test.YtjakkpcpommojaaGreatDoorGBase
import Derived.Deep.Light
import Derived.Deep.DeepCutAuto
namespace Go.Proofs.YtjakkpcpommojaaGreatDoor
open Go.RowKit
theorem Ol:ElemOk Tryz.prog 29 5 (.int .u8 0) 1 1:=⟨Tryz.underlying29,by kernel_rfl,rfl,by decide⟩
theorem S2 {w:World} {base:Nat} {e:TypeId} {sz:Nat} {v:Value} {n:Nat} {cs:List Value} (h:w.ownsRow base e sz v n cs):∃a c,v= .slice a n c:=by
 obtain⟨a,c,hv,_⟩:=Gg.of_owns h
 exact⟨a,c,hv⟩
end Go.Proofs.YtjakkpcpommojaaGreatDoor
