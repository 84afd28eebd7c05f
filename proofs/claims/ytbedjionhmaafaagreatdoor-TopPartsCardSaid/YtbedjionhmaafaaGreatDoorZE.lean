/- ZE: the texts TfE, one behind the other. No condition but what each lemma says. -/
import Derived.Test.YtbedjionhmaafaaGreatDoorGUtf
import Derived.Test.YtbedjionhmaafaaGreatDoorRows
import Derived.JoinedOf
set_option linter.all false
namespace Go.Proofs.YtbedjionhmaafaaGreatDoor
theorem fA:(Rows.topPartsRow.named==Tryz.prog.varsNamed 3)=true:=Ac
end Go.Proofs.YtbedjionhmaafaaGreatDoor
