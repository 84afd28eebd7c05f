/- GMap: the texts Map, one behind the other. No condition but what each lemma says. -/
import Derived.Test.YtbedjionhmaafaaGreatDoorGBase
set_option linter.all false
namespace Go.Proofs.YtbedjionhmaafaaGreatDoor
open Go.RowKit
variable {w:World} {m:Nat} {R:Int→Value→Prop} {k:Int}
def Ig (w:World) (m:Nat) (R:Int→Value→Prop):Prop:=
 ∃es clock,w.heap[m]?=some (.map es clock)∧(∀e∈es.toList,(∃n,e.key= .int .i64 n)∧e.born<clock)∧(es.toList.map fun e=>intOf e.key).Nodup∧(es.toList.map fun e=>e.born).Nodup∧
  ∀n v,(∃e∈es.toList,e.key= .int .i64 n∧e.val=v)↔R n v
theorem Ig.congr {a:Int→Value→Prop} (h:Ig w m R) (f:∀n v,R n v↔a n v):Ig w m a:=by
 obtain⟨g,c,b,i,d,e,j⟩:=h
 exact⟨g,c,b,i,d,e,fun n v=>(j n v).trans (f n v)⟩
theorem Ig.keep {w':World} (h:Ig w m R) (e:w'.heap[m]?=w.heap[m]?):Ig w' m R:=by
 obtain⟨b,c,a,d⟩:=h
 exact⟨b,c,e.trans a,d⟩
theorem Ig.lt (h:Ig w m R):m<w.heap.size:=by
 obtain⟨b,c,a,_⟩:=h
 grind
theorem Z5 (w:World):Ig (w.alloc (.map #[] 0)) w.heap.size fun _ _=>False:=
 ⟨#[],0,heap_alloc_new w _,Ab,Ab,Ab,Ab⟩
theorem fG (k:Int) (v:Value):∀(l:List MapEntry) (i:Nat),(∀e∈l,∃n,e.key= .int .i64 n)→(l.map fun e=>intOf e.key).Nodup→(∃e∈l,e.key= .int .i64 k∧e.val=v)→
 ∃j,Instr.findNow (.int .i64) (.int .i64 k) l i=some (some (j,v)):=by
 intro l
 induction l with
 |nil=>intro i _ _ ⟨e,a,_⟩;simp at a
 |cons x l h=>
  intro i c g ⟨e,a,f,d⟩
  obtain⟨n,o⟩:=c x Bd
  unfold Instr.findNow
  rw[o]
  simp only[Instr.sameNow,if_true]
  by_cases b:k=n
  ·subst b
   rcases Bj.1 a with rfl|a
   ·exact⟨i,by simp[d]⟩
   grind
  ·have p:(k==n)=false:=by rw[An];exact b
   rw[p]
   rcases Bj.1 a with rfl|a
   ·grind
   ·exact h (i+1) (fun e a=>c e (Be _ a)) (List.nodup_cons.1 g).2 ⟨e,a,f,d⟩
theorem fH (k:Int):∀(l:List MapEntry) (i:Nat),(∀e∈l,∃n,e.key= .int .i64 n)→(∀e∈l,e.key≠ .int .i64 k)→
 Instr.findNow (.int .i64) (.int .i64 k) l i=some none:=by
 intro l
 induction l with
 |nil=>intro i _ _;rfl
 |cons x l d=>
  intro i a c
  obtain⟨n,b⟩:=a x Bd
  unfold Instr.findNow
  rw[b]
  simp only[Instr.sameNow,if_true]
  grind
theorem iS {P:Program} {K:TypeId} (a:P.underlying K=some (.int .i64)) (b:Bool) (n:Nat) (k:Int) (w:World):(Instr.checkKey b (n+1) K (.int .i64 k)).run P w= .ok () w:=by
 unfold Instr.checkKey
 simp[Bf a]
theorem xE {P:Program} {K:TypeId} (a:P.underlying K=some (.int .i64)) (b:Bool) (k:Int) (w:World):(Instr.checkKey b 10000 K (.int .i64 k)).run P w= .ok () w:=iS a b 9999 k w
section
variable {P:Program} {w:World} {m:Nat} {R:Int→Value→Prop} {T K E:TypeId} (hT:P.underlying T=some (.map K E)) (hK:P.underlying K=some (.int .i64))
include hT hK
theorem Ig.look (h:Ig w m R) {v:Value} (f:R k v):(Instr.lookup T (.map (some m)) (.int .i64 k) true).run P w= .ok (.tuple #[v,.bool true]) w:=by
 obtain⟨g,c,a,l,d,o,n⟩:=h
 obtain⟨j,b⟩:=fG k v g.toList 0 (fun e i=>(l e i).1) d ((n k v).2 f)
 simp[Instr.lookup,Bf hT,getObj,Sem.run,a,xE hK,Bf hK,Instr.findKey,b]
theorem Ig.look1 (h:Ig w m R) {v:Value} (f:R k v):(Instr.lookup T (.map (some m)) (.int .i64 k) false).run P w= .ok v w:=by
 obtain⟨g,c,a,l,d,o,n⟩:=h
 obtain⟨j,b⟩:=fG k v g.toList 0 (fun e i=>(l e i).1) d ((n k v).2 f)
 simp[Instr.lookup,Bf hT,getObj,Sem.run,a,xE hK,Bf hK,Instr.findKey,b]
theorem Ig.miss (h:Ig w m R) {z:Value} (n:∀w,(zeroValue E).run P w= .ok z w) (i:∀v,¬R k v):(Instr.lookup T (.map (some m)) (.int .i64 k) true).run P w= .ok (.tuple #[z,.bool false]) w:=by
 obtain⟨f,c,b,j,o,p,l⟩:=h
 have d:=fH k f.toList 0 (fun e a=>(j e a).1) (fun e a g=>i e.val ((l k e.val).1 ⟨e,a,g,rfl⟩))
 simp[Instr.lookup,Bf hT,getObj,Sem.run,b,xE hK,Bf hK,Instr.findKey,d,n]
theorem Ig.insert (h:Ig w m R) (v:Value) (o:∀v,¬R k v):
 ∃a,(Instr.mapUpdate T (.map (some m)) (.int .i64 k) v).run P w= .ok () a∧Ig a m (fun n u=>R n u∨(n=k∧u=v))∧(∀b,b≠m→a.heap[b]?=w.heap[b]?)∧a.heap.size=w.heap.size∧
  a.os=w.os∧a.tape=w.tape∧a.output=w.output:=by
 have B:=h.lt
 obtain⟨g,c,r,p,t,C,q⟩:=h
 have s:=fH k g.toList 0 (fun e i=>(p e i).1) (fun e i z=>o e.val ((q k e.val).1 ⟨e,i,z,rfl⟩))
 refine⟨{w with heap:=w.heap.setIfInBounds m (.map (g.push {key:= .int .i64 k,val:=v,born:=c}) (c+1))},?_,?_,?_,?_,rfl,rfl,rfl⟩
 ·simp[Instr.mapUpdate,Bf hT,getObj,setObj,Sem.run,r,xE hK,Bf hK,Instr.findKey,s]
 ·refine⟨g.push {key:= .int .i64 k,val:=v,born:=c},c+1,by simp[B],?_,?_,?_,?_⟩
  ·grind
  ·simp only[Array.toList_push,Cp,Bc,List.map_nil]
   rw[List.nodup_append]
   refine⟨t,Ab,?_⟩
   intro x A y l e
   simp only[Bh] at l
   obtain⟨f,d,rfl⟩:=Cl.1 A
   obtain⟨n,j⟩:=(p f d).1
   rw[l,j] at e
   simp only[intOf] at e
   subst e
   exact o f.val ((q _ f.val).1 ⟨f,d,j,rfl⟩)
  ·grind
  ·intro n u
   simp only[Array.toList_push,Cm,Bh]
   constructor
   ·grind
   ·rintro(F|⟨rfl,rfl⟩)
    all_goals simp_all
 all_goals grind
end
end Go.Proofs.YtbedjionhmaafaaGreatDoor
