/- GChunk3: the texts Chunk3, one behind the other. No condition but what each lemma says. -/
import Derived.Test.YtbedjionhmaafaaGreatDoorGBase
import Derived.Test.YtbedjionhmaafaaGreatDoorProg
import Derived.KernelRfl
import Derived.RowKit
import GoSem.Claim
import GoSem.ClaimJoined
set_option linter.all false
namespace Go.Proofs.YtbedjionhmaafaaGreatDoor
open Go.RowKit
set_option maxRecDepth 100000 in
theorem mD (v:Value) (W:Nat) (hW:1≤W) (hW4:W≤4) (hv:∃a n c,v= .slice a n c) (w:World):
 Calls Tryz.prog 425 #[v,.int .i64 W] w fun e w'=>e= .returned (.func (.func 432) #[] #[.pointer (some ⟨w.heap.size,0,none⟩),.pointer (some ⟨w.heap.size+1,0,none⟩)])∧
  w'=(w.alloc (.cells #[v] 22)).alloc (.cells #[.int .i64 W] 3):=by
 obtain⟨a,n,c,rfl⟩:=hv
 have d:decide ((W:Int)<1)=false:=by rw[Ar];omega
 have hmf:∀(fn:Fn) (first cap:Array Value) (w:World),(Instr.makeFunc fn first cap).run Tryz.prog w= .ok (.func fn first cap) w:=fun _ _ _ _=>rfl
 go_enter Tryz.func425,Tryz.ntmps425
 go_wp2
 go_ret
 exact⟨rfl,rfl⟩
end Go.Proofs.YtbedjionhmaafaaGreatDoor
