/- GRes: the texts Res, one behind the other. No condition but what each lemma says. -/
import Derived.Test.YtbedjionhmaafaaGreatDoorGBase
import Derived.Laws.Rows
set_option linter.all false
namespace Go.Proofs.YtbedjionhmaafaaGreatDoor
open Go.RowKit
variable {P:Program} {w:World}
def Kw (P:Program) (w:World) (tmps:Array Value):ResultVar→Value→Prop
 | .tmp t,v=>tmps.getD t undef=v
 | .cell p ty,v=>∃ad,tmps.getD p undef= .pointer (some ad)∧(loadVar ty ad).run P w= .ok v w
theorem lX {b:Func} {tmps:Array Value} {r:ResultVar} {v:Value} (a:b.results=#[r]) (h:Kw P w tmps r v):(results b tmps).run P w= .ok v w:=by
 cases r with
 |tmp t=>simp only[Kw] at h;simp[results,a,h,-Array.getD_eq_getD_getElem?]
 |cell p ty=>
  obtain⟨e,c,d⟩:=h
  simp[results,a,asAddr,c,d,-Array.getD_eq_getD_getElem?]
theorem Sf {j:Func} {tmps:Array Value} {g d:ResultVar} {v1 v2:Value} (c:j.results=#[g,d]) (b:Kw P w tmps g v1) (a:Kw P w tmps d v2):(results j tmps).run P w= .ok (.tuple #[v1,v2]) w:=by
 cases g with
 |tmp t=>
  simp only[Kw] at b
  cases d with
  |tmp m=>simp only[Kw] at a;simp[results,c,b,a,-Array.getD_eq_getD_getElem?]
  |cell p ty=>
   obtain⟨l,e,f⟩:=a
   simp[results,c,asAddr,Result.andThen,b,e,f,-Array.getD_eq_getD_getElem?]
 |cell o k=>
  obtain⟨n,i,h⟩:=b
  cases d with
  |tmp m=>simp only[Kw] at a;simp[results,c,asAddr,Result.andThen,i,h,a,-Array.getD_eq_getD_getElem?]
  |cell p ty=>
   obtain⟨l,e,f⟩:=a
   simp[results,c,asAddr,Au,Result.andThen,i,h,e,f,-Array.getD_eq_getD_getElem?]
theorem J0 (w:World) (ty:TypeId) (b o:Nat) (cs:List Value) (d:TypeDesc) (f:P.underlying ty=some d) (l:(match d with| .struct _| .array _ _=>true|_=>false)=true)
 (e:(P.info? ty).map (·.size)=some cs.length) (k:∀j v,cs[j]?=some v→w.cell? ⟨b,o+j,none⟩=some v):(loadVar ty ⟨b,o,none⟩).run P w= .ok (.agg cs.toArray) w:=by
 have g:(loadCells ⟨b,o,none⟩ cs.length).run P w= .ok cs.toArray w:=
  run_loadCells_list (P:=P) w ⟨b,o,none⟩ cs (fun j v m=>by
   grind [Addr.add])
 cases c:P.info? ty with
 |none=>simp[c] at e
 |some i=>
  have h:i.size=cs.length:=by simpa[c] using e
  have a:(isAgg ty).run P w= .ok true w:=by
   unfold isAgg
   rw[Au,Bf f w]
   cases d<;>simp_all
  simp[loadVar,Au,a,sizeOf,typeInfo,c,h,g]
theorem Xd {b o:Nat} {x y:Value} (c:w.cell? ⟨b,o,none⟩=some x) (a:w.cell? ⟨b,o+1,none⟩=some y):∀(j:Nat) (v:Value),[x,y][j]?=some v→w.cell? ⟨b,o+j,none⟩=some v:=by
 grind
end Go.Proofs.YtbedjionhmaafaaGreatDoor
