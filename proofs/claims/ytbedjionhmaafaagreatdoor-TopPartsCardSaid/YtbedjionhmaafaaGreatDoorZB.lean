/- ZB: the texts TfB, one behind the other. No condition but what each lemma says. -/
import Derived.Test.YtbedjionhmaafaaGreatDoorGUtf
import Derived.Test.YtbedjionhmaafaaGreatDoorRows
import Derived.JoinedOf
set_option linter.all false
namespace Go.Proofs.YtbedjionhmaafaaGreatDoor
theorem rM:(Rows.topPartsRow.inPlace==Tryz.prog.inPlace 3)=true:=Ac
end Go.Proofs.YtbedjionhmaafaaGreatDoor
