/- Z2: the texts TopRow, one behind the other. No condition but what each lemma says. -/
import Derived.Test.YtbedjionhmaafaaGreatDoorZ1
import Derived.Test.YtbedjionhmaafaaGreatDoorZA
import Derived.Test.YtbedjionhmaafaaGreatDoorZB
import Derived.Test.YtbedjionhmaafaaGreatDoorZC
import Derived.Test.YtbedjionhmaafaaGreatDoorZD
import Derived.Test.YtbedjionhmaafaaGreatDoorZE
import Derived.Test.YtbedjionhmaafaaGreatDoorZF
set_option linter.all false
namespace Go.Proofs.YtbedjionhmaafaaGreatDoor
open Go.ChangeShapes Go.WideShapes Go.ChangeAt Go.RowKit Go.Joins
open Go.ChangeMaps (open_string shut_string)
theorem G7 {a b:Bool} (h:a=true) (g:b=true):(a&&b)=true:=by rw[h,g];rfl
set_option maxHeartbeats 8000000 in
theorem lS:Rows.TopPartsSaid:=
 OpenClaim.holds_of_wide 3 Tryz.f3 rfl rfl rfl rfl rfl rfl rfl ⟨rfl,rfl,rfl,rfl,rfl⟩ rfl rfl rfl rfl rfl Ac Tryz.func3 (by unfold joinedFacts;exact(G7 (G7 (G7 (G7 (G7 (G7 (G7 (G7 (G7 (G7 (G7 (G7 (G7 (G7 (G7 (G7 (G7 (G7 (G7 (G7 (G7 (G7 (G7 (G7 (G7 (G7 (G7 (G7 (G7 (G7 (G7 Ag lQ) fB) Ag) Ag) Ag) Ag) Ag) Ag) rM) eF) lR) fA) Ag) Ag) Ag) Ag) Ag) Ag) Ag) Ag) Ag) Ag) Ag) Ag) Ag) Ag) Ag) Ag) Ag) Ag) Ag))
  (of_decide_eq_true Ac) (by unfold Func.isWrapper;first|(rw[Aj (by decide+kernel)];kernel_rfl)|(rw[Ai (by decide+kernel)];exact⟨rfl,rfl⟩))
  (fun os a H enc _=>TD os a H enc)
end Go.Proofs.YtbedjionhmaafaaGreatDoor
