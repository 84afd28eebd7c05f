/- ZA: the texts TfA, one behind the other. No condition but what each lemma says. -/
import Derived.Test.YtbedjionhmaafaaGreatDoorGUtf
import Derived.Test.YtbedjionhmaafaaGreatDoorRows
import Derived.JoinedOf
set_option linter.all false
namespace Go.Proofs.YtbedjionhmaafaaGreatDoor
theorem lQ:laidOutB Tryz.prog=true:=Ac
end Go.Proofs.YtbedjionhmaafaaGreatDoor
