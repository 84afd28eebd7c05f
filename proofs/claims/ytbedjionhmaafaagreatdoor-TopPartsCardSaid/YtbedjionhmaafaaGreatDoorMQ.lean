/- MQ: the texts Oct Pts Val7 GenZ R11 R12 EqG T4 GenZ2 R13V R13M R13R, one behind the other. No condition but what each lemma says. -/
import Derived.Test.YtbedjionhmaafaaGreatDoorMP
set_option linter.all false
set_option maxRecDepth 100000
set_option maxHeartbeats 16000000
namespace Go.Proofs.YtbedjionhmaafaaGreatDoor
open Go.RowKit
end Go.Proofs.YtbedjionhmaafaaGreatDoor
namespace Go.Proofs.YtbedjionhmaafaaGreatDoor
open Go.RowKit
open Go.Lib (validD decodeL)

end Go.Proofs.YtbedjionhmaafaaGreatDoor
namespace Go.Proofs.YtbedjionhmaafaaGreatDoor
open Go.RowKit
theorem FZ (n:Nat):1≤(N7 n).length:=by
 grind [N7,I8]
structure Gn.zz (g:Gn):Prop where
 o:g.oid.length≤3000000
 t:g.tx.length≤3000000
 b:g.by'.length≤3000000
 n:nmZ g.nm
 a:g.av.length≤3000000
 p:g.pv.length≤3000000
end Go.Proofs.YtbedjionhmaafaaGreatDoor
