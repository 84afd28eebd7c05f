/- GByt: the texts Byt, one behind the other. No condition but what each lemma says. -/
import Derived.Test.YtokmjjkbginodaaGreatDoorRows
import Derived.Test.YtokmjjkbginodaaGreatDoorGBase
import Derived.Deep.Light
import Derived.Deep.DeepCutAuto
namespace Go.Proofs.YtokmjjkbginodaaGreatDoor
open Go.RowKit
theorem P3:ElemOk Tryz.prog 22 5 (.int .u8 0) 1 1:=⟨Tryz.underlying22,by kernel_rfl,rfl,by decide⟩
theorem Uf {w:World} {base:Nat} {e:TypeId} {sz:Nat} {v:Value} {n:Nat} {cs:List Value} (h:w.ownsRow base e sz v n cs):∃a c,v= .slice a n c:=by
 obtain⟨a,c,hv,_⟩:=G1.of_owns h
 exact⟨a,c,hv⟩
end Go.Proofs.YtokmjjkbginodaaGreatDoor
