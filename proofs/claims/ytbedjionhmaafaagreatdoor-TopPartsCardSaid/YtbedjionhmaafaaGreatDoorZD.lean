/- ZD: the texts TfD, one behind the other. No condition but what each lemma says. -/
import Derived.Test.YtbedjionhmaafaaGreatDoorGUtf
import Derived.Test.YtbedjionhmaafaaGreatDoorRows
import Derived.JoinedOf
set_option linter.all false
namespace Go.Proofs.YtbedjionhmaafaaGreatDoor
theorem lR:(Rows.topPartsRow.recurses==Tryz.prog.recurses 3)=true:=Ac
end Go.Proofs.YtbedjionhmaafaaGreatDoor
