/- GRes: the texts Res, one behind the other. No condition but what each lemma says. -/
import Derived.Test.YtokmjjkbginodaaGreatDoorGBase
import Derived.Laws.Rows
namespace Go.Proofs.YtokmjjkbginodaaGreatDoor
open Go.RowKit
def F4 (P:Program) (w:World) (tmps:Array Value):ResultVar→Value→Prop
 | .tmp t,v=>tmps.getD t undef=v
 | .cell p ty,v=>∃ad,tmps.getD p undef= .pointer (some ad)∧(loadVar ty ad).run P w= .ok v w
theorem cR {P:Program} {fn:Func} {tmps:Array Value} {w:World} {r:ResultVar} {v:Value} (hf:fn.results=#[r]) (h:F4 P w tmps r v):(results fn tmps).run P w= .ok v w:=by
 cases r with
 |tmp t=>simp only[F4] at h;simp[results,hf,h,-Array.getD_eq_getD_getElem?]
 |cell p ty=>
  obtain⟨ad,h1,h2⟩:=h
  simp[results,hf,asAddr,h1,h2,-Array.getD_eq_getD_getElem?]
theorem Mb {P:Program} {fn:Func} {tmps:Array Value} {w:World} {r1 r2:ResultVar} {v1 v2:Value} (hf:fn.results=#[r1,r2]) (h1:F4 P w tmps r1 v1) (h2:F4 P w tmps r2 v2):(results fn tmps).run P w= .ok (.tuple #[v1,v2]) w:=by
 cases r1 with
 |tmp t=>
  simp only[F4] at h1
  cases r2 with
  |tmp t2=>simp only[F4] at h2;simp[results,hf,h1,h2,-Array.getD_eq_getD_getElem?]
  |cell p ty=>
   obtain⟨ad,h3,h4⟩:=h2
   simp[results,hf,asAddr,Result.andThen,h1,h3,h4,-Array.getD_eq_getD_getElem?]
 |cell p1 ty1=>
  obtain⟨ad1,h5,h6⟩:=h1
  cases r2 with
  |tmp t2=>simp only[F4] at h2;simp[results,hf,asAddr,Result.andThen,h5,h6,h2,-Array.getD_eq_getD_getElem?]
  |cell p ty=>
   obtain⟨ad,h3,h4⟩:=h2
   simp[results,hf,asAddr,Sem.run_bind,Result.andThen,h5,h6,h3,h4,-Array.getD_eq_getD_getElem?]
theorem Dw {P:Program} (w:World) (ty:TypeId) (b o:Nat) (cs:List Value) (d:TypeDesc) (hu:P.underlying ty=some d) (hd:(match d with| .struct _| .array _ _=>true|_=>false)=true)
 (hi:(P.info? ty).map (·.size)=some cs.length) (hc:∀j v,cs[j]?=some v→w.cell? ⟨b,o+j,none⟩=some v):(loadVar ty ⟨b,o,none⟩).run P w= .ok (.agg cs.toArray) w:=by
 have hl:(loadCells ⟨b,o,none⟩ cs.length).run P w= .ok cs.toArray w:=
  run_loadCells_list (P:=P) w ⟨b,o,none⟩ cs (fun j v hv=>by
   have hadd:(⟨b,o,none⟩:Addr).add j=⟨b,o+j,none⟩:=by unfold Addr.add;split<;>simp_all
   rw[hadd];exact hc j v hv)
 cases hq:P.info? ty with
 |none=>simp[hq] at hi
 |some i=>
  have hs:i.size=cs.length:=by simpa[hq] using hi
  have hagg:(isAgg ty).run P w= .ok true w:=by
   unfold isAgg
   rw[Sem.run_bind,run_underlying hu w]
   cases d<;>simp_all
  simp[loadVar,Sem.run_bind,hagg,sizeOf,typeInfo,hq,hs,hl]
theorem Mc {w:World} {b o:Nat} {x y:Value} (h0:w.cell? ⟨b,o,none⟩=some x) (h1:w.cell? ⟨b,o+1,none⟩=some y):∀(j:Nat) (v:Value),[x,y][j]?=some v→w.cell? ⟨b,o+j,none⟩=some v:=by
 intro j v h
 match j,h with
 |0,h=>simp at h;subst h;exact h0
 |1,h=>simp at h;subst h;exact h1
end Go.Proofs.YtokmjjkbginodaaGreatDoor
