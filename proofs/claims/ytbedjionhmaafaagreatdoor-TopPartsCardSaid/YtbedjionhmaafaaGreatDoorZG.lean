/- ZG: the texts TfG, one behind the other. No condition but what each lemma says. -/
import Derived.Test.YtbedjionhmaafaaGreatDoorGUtf
import Derived.Test.YtbedjionhmaafaaGreatDoorRows
import Derived.JoinedOf
import GoSem.ClaimGoes
set_option linter.all false
namespace Go.Proofs.YtbedjionhmaafaaGreatDoor
theorem xA:Tryz.prog.funcs.any Func.goes=false:=Ac
theorem bc {P:Program} (h:P.funcs.any Func.goes=false) (f:FuncId):P.goes f=false:=by
 have k:∀g:FuncId,(P.funcs[g]?).any Func.goes=false:=fun g=>by
  cases e:P.funcs[g]? with
  |none=>rfl
  |some c=>
   have:=Array.any_eq_false.1 h
   obtain⟨a,b⟩:=Br.1 e
   have:=this g a
   rw[b] at this
   simpa using this
 unfold Program.goes
 rw[h,Dt,Dz]
 simp[k]
theorem IW {P:Program} (h:P.funcs.any Func.goes=false) (c:OpenClaim) (a:c.start= .entering):false=c.goesBy P:=by
 unfold OpenClaim.goesBy Program.goesAt Program.goesFrom
 rw[a,Dz]
 cases P.funcNamed c.func with
 |none=>rfl
 |some f=>rw[Option.any_some,bc h]
theorem TE:false=Rows.topPartsRow.goesBy Tryz.prog:=IW xA _ rfl
end Go.Proofs.YtbedjionhmaafaaGreatDoor
