/- TopParts: its tied card. -/
import Derived.Test.YtbedjionhmaafaaGreatDoorZ2
import Derived.Test.YtbedjionhmaafaaGreatDoorZG
set_option linter.all false
namespace Go.Proofs.YtbedjionhmaafaaGreatDoor
open Go.ChangeShapes Go.WideShapes Go.ChangeAt Go.RowKit Go.Joins
set_option maxHeartbeats 8000000 in
theorem topParts_holds:Rows.TopPartsCardSaid:=
 Claim7.holds_tied_plain_at .later [] [.data,.data,.data,.data,.sentinel,.sentinel,.pinned] true Rows.topPartsCard.stood.harness true
  lS (fun _ h=>by cases h) Ag (fun _ h=>by cases h) topParts_row_tie rfl ⟨rfl,rfl⟩ Ag rfl
  (fun f d e b=>by
    obtain rfl:f=3:=Az ((show Tryz.prog.funcNamed "cretula/cretulatop.TopParts" =some 3 by kernel_rfl).symm.trans e)|>.symm
    obtain rfl:d=Tryz.f3:=(Az (Tryz.func3.symm.trans b)).symm
    exact⟨Ac,fun j t c=>by
     rw[Tryz.params3] at c
     have g:t∈[22]:=by simpa using Array.mem_of_getElem? c
     have a:([22].all fun u=> !Tryz.prog.wantsStandIn u)=true:=Ac
     exact(show Tryz.prog.wantsStandIn t=false by simpa using B0.1 a t g)⟩)
  TE
#print axioms topParts_holds
end Go.Proofs.YtbedjionhmaafaaGreatDoor
