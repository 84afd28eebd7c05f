/- GByt: the texts Byt, one behind the other. No condition but what each lemma says. -/
import Derived.Test.YtaoahmplnckhpaaGreatDoorRows
import Derived.Test.YtaoahmplnckhpaaGreatDoorGBase
import Derived.Deep.Light
import Derived.Deep.DeepCutAuto
namespace Go.Proofs.YtaoahmplnckhpaaGreatDoor
open Go.RowKit
theorem Mo:ElemOk Tryz.prog 33 5 (.int .u8 0) 1 1:=⟨Tryz.underlying33,by kernel_rfl,rfl,by decide⟩
theorem Ql {w:World} {base:Nat} {e:TypeId} {sz:Nat} {v:Value} {n:Nat} {cs:List Value} (h:w.ownsRow base e sz v n cs):∃a c,v= .slice a n c:=by
 obtain⟨a,c,hv,_⟩:=Fm.of_owns h
 exact⟨a,c,hv⟩
end Go.Proofs.YtaoahmplnckhpaaGreatDoor
