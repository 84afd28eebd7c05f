/- GMap: the texts Map, one behind the other. No condition but what each lemma says. -/
import Derived.Test.YtokmjjkbginodaaGreatDoorGBase
namespace Go.Proofs.YtokmjjkbginodaaGreatDoor
open Go.RowKit
def Dx (w:World) (m:Nat) (R:Int→Value→Prop):Prop:=
 ∃es clock,w.heap[m]?=some (.map es clock)∧(∀e∈es.toList,(∃n,e.key= .int .i64 n)∧e.born<clock)∧(es.toList.map fun e=>intOf e.key).Nodup∧(es.toList.map fun e=>e.born).Nodup∧
  ∀n v,(∃e∈es.toList,e.key= .int .i64 n∧e.val=v)↔R n v
theorem Dx.congr {w:World} {m:Nat} {R R':Int→Value→Prop} (h:Dx w m R) (hr:∀n v,R n v↔R' n v):Dx w m R':=by
 obtain⟨es,c,h1,h2,h3,h4,h5⟩:=h
 exact⟨es,c,h1,h2,h3,h4,fun n v=>(h5 n v).trans (hr n v)⟩
theorem Dx.keep {w w':World} {m:Nat} {R:Int→Value→Prop} (h:Dx w m R) (hk:w'.heap[m]?=w.heap[m]?):Dx w' m R:=by
 obtain⟨es,c,h1,h2⟩:=h
 exact⟨es,c,hk.trans h1,h2⟩
theorem Dx.lt {w:World} {m:Nat} {R:Int→Value→Prop} (h:Dx w m R):m<w.heap.size:=by
 obtain⟨es,c,h1,_⟩:=h
 exact(Array.getElem?_eq_some_iff.1 h1).1
theorem Dx.made (w:World):Dx (w.alloc (.map #[] 0)) w.heap.size fun _ _=>False:=
 ⟨#[],0,heap_alloc_new w _,by simp,by simp,by simp,by simp⟩
theorem X4 (k:Int) (v:Value):∀(l:List MapEntry) (i:Nat),(∀e∈l,∃n,e.key= .int .i64 n)→(l.map fun e=>intOf e.key).Nodup→(∃e∈l,e.key= .int .i64 k∧e.val=v)→
 ∃j,Instr.findNow (.int .i64) (.int .i64 k) l i=some (some (j,v)):=by
 intro l
 induction l with
 |nil=>intro i _ _ ⟨e,he,_⟩;simp at he
 |cons x l ih=>
  intro i hk hn ⟨e,he,h1,h2⟩
  obtain⟨n,hx⟩:=hk x List.mem_cons_self
  unfold Instr.findNow
  rw[hx]
  simp only[Instr.sameNow,if_true]
  by_cases hkn:k=n
  ·subst hkn
   rcases List.mem_cons.1 he with rfl|he
   ·exact⟨i,by simp[h2]⟩
   ·exfalso
    have:=(List.nodup_cons.1 hn).1
    apply this
    exact List.mem_map.2 ⟨e,he,by simp only[];rw[h1,hx]⟩
  ·have hb:(k==n)=false:=by rw[beq_eq_false_iff_ne];exact hkn
   rw[hb]
   rcases List.mem_cons.1 he with rfl|he
   ·rw[h1] at hx;simp only[Value.int.injEq,true_and] at hx;exact absurd hx hkn
   ·exact ih (i+1) (fun e he=>hk e (List.mem_cons_of_mem _ he)) (List.nodup_cons.1 hn).2 ⟨e,he,h1,h2⟩
theorem X5 (k:Int):∀(l:List MapEntry) (i:Nat),(∀e∈l,∃n,e.key= .int .i64 n)→(∀e∈l,e.key≠ .int .i64 k)→
 Instr.findNow (.int .i64) (.int .i64 k) l i=some none:=by
 intro l
 induction l with
 |nil=>intro i _ _;rfl
 |cons x l ih=>
  intro i hk hn
  obtain⟨n,hx⟩:=hk x List.mem_cons_self
  unfold Instr.findNow
  rw[hx]
  simp only[Instr.sameNow,if_true]
  have hb:(k==n)=false:=by
   rw[beq_eq_false_iff_ne];rintro rfl;exact hn x List.mem_cons_self hx
  rw[hb]
  exact ih (i+1) (fun e he=>hk e (List.mem_cons_of_mem _ he)) fun e he=>hn e (List.mem_cons_of_mem _ he)
theorem Zt {P:Program} {K:TypeId} (hK:P.underlying K=some (.int .i64)) (b:Bool) (n:Nat) (k:Int) (w:World):(Instr.checkKey b (n+1) K (.int .i64 k)).run P w= .ok () w:=by
 unfold Instr.checkKey
 simp[run_underlying hK]
theorem nH {P:Program} {K:TypeId} (hK:P.underlying K=some (.int .i64)) (b:Bool) (k:Int) (w:World):(Instr.checkKey b 10000 K (.int .i64 k)).run P w= .ok () w:=Zt hK b 9999 k w
section
variable {P:Program} {w:World} {m:Nat} {R:Int→Value→Prop} {T K E:TypeId} (hT:P.underlying T=some (.map K E)) (hK:P.underlying K=some (.int .i64))
include hT hK
theorem Dx.look (h:Dx w m R) {k:Int} {v:Value} (hr:R k v):(Instr.lookup T (.map (some m)) (.int .i64 k) true).run P w= .ok (.tuple #[v,.bool true]) w:=by
 obtain⟨es,c,h1,h2,h3,h4,h5⟩:=h
 obtain⟨j,hj⟩:=X4 k v es.toList 0 (fun e he=>(h2 e he).1) h3 ((h5 k v).2 hr)
 simp[Instr.lookup,run_underlying hT,getObj,Sem.run,h1,nH hK,run_underlying hK,Instr.findKey,hj]
theorem Dx.look1 (h:Dx w m R) {k:Int} {v:Value} (hr:R k v):(Instr.lookup T (.map (some m)) (.int .i64 k) false).run P w= .ok v w:=by
 obtain⟨es,c,h1,h2,h3,h4,h5⟩:=h
 obtain⟨j,hj⟩:=X4 k v es.toList 0 (fun e he=>(h2 e he).1) h3 ((h5 k v).2 hr)
 simp[Instr.lookup,run_underlying hT,getObj,Sem.run,h1,nH hK,run_underlying hK,Instr.findKey,hj]
theorem Dx.miss (h:Dx w m R) {k:Int} {z:Value} (hz:∀w,(zeroValue E).run P w= .ok z w) (hr:∀v,¬R k v):(Instr.lookup T (.map (some m)) (.int .i64 k) true).run P w= .ok (.tuple #[z,.bool false]) w:=by
 obtain⟨es,c,h1,h2,h3,h4,h5⟩:=h
 have hj:=X5 k es.toList 0 (fun e he=>(h2 e he).1) (fun e he hk=>hr e.val ((h5 k e.val).1 ⟨e,he,hk,rfl⟩))
 simp[Instr.lookup,run_underlying hT,getObj,Sem.run,h1,nH hK,run_underlying hK,Instr.findKey,hj,hz]
theorem Dx.insert (h:Dx w m R) {k:Int} (v:Value) (hr:∀v,¬R k v):
 ∃w2,(Instr.mapUpdate T (.map (some m)) (.int .i64 k) v).run P w= .ok () w2∧Dx w2 m (fun n u=>R n u∨(n=k∧u=v))∧(∀b,b≠m→w2.heap[b]?=w.heap[b]?)∧w2.heap.size=w.heap.size∧
  w2.os=w.os∧w2.tape=w.tape∧w2.output=w.output:=by
 have hm:=h.lt
 obtain⟨es,c,h1,h2,h3,h4,h5⟩:=h
 have hj:=X5 k es.toList 0 (fun e he=>(h2 e he).1) (fun e he hk=>hr e.val ((h5 k e.val).1 ⟨e,he,hk,rfl⟩))
 refine⟨{w with heap:=w.heap.setIfInBounds m (.map (es.push {key:= .int .i64 k,val:=v,born:=c}) (c+1))},?_,?_,?_,?_,rfl,rfl,rfl⟩
 ·simp[Instr.mapUpdate,run_underlying hT,getObj,setObj,Sem.run,h1,nH hK,run_underlying hK,Instr.findKey,hj]
 ·refine⟨es.push {key:= .int .i64 k,val:=v,born:=c},c+1,by simp[hm],?_,?_,?_,?_⟩
  ·intro e he
   simp only[Array.toList_push,List.mem_append,List.mem_singleton] at he
   rcases he with he|rfl
   ·exact⟨(h2 e he).1,Nat.lt_succ_of_lt (h2 e he).2⟩
   ·exact⟨⟨k,rfl⟩,Nat.lt_succ_self _⟩
  ·simp only[Array.toList_push,List.map_append,List.map_cons,List.map_nil]
   rw[List.nodup_append]
   refine⟨h3,by simp,?_⟩
   intro x hx y hy e
   simp only[List.mem_singleton] at hy
   obtain⟨e',he',rfl⟩:=List.mem_map.1 hx
   obtain⟨n,hn⟩:=(h2 e' he').1
   rw[hy,hn] at e
   simp only[intOf] at e
   subst e
   exact hr e'.val ((h5 _ e'.val).1 ⟨e',he',hn,rfl⟩)
  ·simp only[Array.toList_push,List.map_append,List.map_cons,List.map_nil]
   rw[List.nodup_append]
   refine⟨h4,by simp,?_⟩
   intro x hx y hy e
   simp only[List.mem_singleton] at hy
   obtain⟨e',he',rfl⟩:=List.mem_map.1 hx
   have:=(h2 e' he').2
   omega
  ·intro n u
   simp only[Array.toList_push,List.mem_append,List.mem_singleton]
   constructor
   ·rintro⟨e,he|rfl,h6,h7⟩
    ·exact .inl ((h5 n u).1 ⟨e,he,h6,h7⟩)
    ·simp only[Value.int.injEq,true_and] at h6;exact .inr ⟨h6.symm,h7.symm⟩
   ·rintro(h6|⟨rfl,rfl⟩)
    ·obtain⟨e,he,h7⟩:=(h5 n u).2 h6
     exact⟨e,.inl he,h7⟩
    ·exact⟨_,.inr rfl,rfl,rfl⟩
 ·intro b hb
  simp only[Array.getElem?_setIfInBounds]
  rw[if_neg (by omega)]
 ·simp
end
end Go.Proofs.YtokmjjkbginodaaGreatDoor
