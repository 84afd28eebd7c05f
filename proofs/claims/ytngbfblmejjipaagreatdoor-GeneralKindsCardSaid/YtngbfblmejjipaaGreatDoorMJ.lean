/- MJ: the texts Kid Kid2, one behind the other. No condition but what each lemma says. -/
import Derived.Test.YtngbfblmejjipaaGreatDoorMG
import Derived.Test.YtngbfblmejjipaaGreatDoorME
import Derived.Test.YtngbfblmejjipaaGreatDoorMI
set_option maxRecDepth 100000
set_option maxHeartbeats 16000000
namespace Go.Proofs.YtngbfblmejjipaaGreatDoor
open Go.RowKit
theorem B6 (c n:Nat) (k:Bool) (l:List UInt8) (hl:l.length≤1000000000):(Aj c n k l).length≤l.length+6:=by
 have:=Md l.length (by omega)
 simp only[Aj,Me,List.length_cons,List.length_append];omega
structure Kd where
 has:Bool
 id:List UInt8
 iss:List Gn
 ser:List UInt8
theorem Fy (c n:Nat) (k:Bool) (p:List UInt8) (hc1:c≤3) (hn:n≤30) (hl:p.length≤900000000):Ab Tryz.prog 38 [iv c,bv k,iv n,.d (Dc [p])] (fun r=>r= .tup [Cd 0 5 (Aj c n k p),iv 0]):=by
 have h:=Je c n k [p] hc1 hn (by simpa using hl) (by simp)
 rwa[show [p].flatten=p by simp] at h
end Go.Proofs.YtngbfblmejjipaaGreatDoor
