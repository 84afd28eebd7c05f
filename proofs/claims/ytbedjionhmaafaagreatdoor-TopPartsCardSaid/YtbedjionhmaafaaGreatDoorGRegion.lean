/- GRegion: the texts Region Step, one behind the other. No condition but what each lemma says. -/
import Derived.Orders
import Derived.Tactics
import Derived.Test.YtbedjionhmaafaaGreatDoorGBase
import Derived.Deep.RegionHeld3
set_option linter.all false
namespace Go.Proofs.YtbedjionhmaafaaGreatDoor
open Go.RowKit
variable {P:Program} {ops:Array Oper} {Q:Exit→Act→World→Prop}
def Io (d:Nat→Bool) (i:Nat):Nat→Bool:=fun k=>if k=i then true else d k
theorem Jh (d:Nat→Bool) (i:Nat):Io d i i=true:=by simp[Io]
theorem Is (d:Nat→Bool) (i k:Nat) (h:k≠i):Io d i k=d k:=by simp[Io,h]
def Kc (o:Oper) (d:Nat→Bool):Prop:=∀e∈o.after.toList,Region.binds .any e=true→d e.on=true
def Q0 (P:Program) (ops:Array Oper) (Q:Exit→Act→World→Prop) (J:(Nat→Bool)→Act→World→Prop):Nat→List Oper→Prop
 |_,[]=>True
 |k,o::r=>(∀d a w,d k=false→Kc o d→J d a w→wpList P ops (Exit.then (J (Io d k)) Q) [o] a w)∧Q0 P ops Q J (k+1) r
theorem rS {J:(Nat→Bool)→Act→World→Prop}:∀(l:List Oper) (k:Nat),Q0 P ops Q J k l→
 ∀i o,l[i]?=some o→∀d a w,d (k+i)=false→Kc o d→J d a w→wpList P ops (Exit.then (J (Io d (k+i))) Q) [o] a w:=by
 intro l
 induction l with
 |nil=>intro k _ i o h;simp at h
 |cons x l c=>
  intro k h i o b
  cases i with
  |zero=>simp only[Cy,A7] at b;subst b;exact h.1
  |succ i=>
   have:=c (k+1) h.2 i o (by simpa using b)
   grind
def Nu (ops:Array Oper):Bool:=ops.toList.zipIdx.all fun(o,i)=>o.after.toList.all fun e=> !Region.binds .any e||decide (e.on<i)
theorem Zz (h:Nu ops=true) {i:Nat} {o:Oper} (b:ops[i]?=some o):∀e∈o.after.toList,Region.binds .any e=true→e.on<i:=by
 intro e c d
 unfold Nu at h
 have a:=B0.1 h (o,i) (by grind)
 grind
theorem Xe {a:Array Bool} {i:Nat}:i∈Region.ready .any ops a↔
 i<ops.size∧a.getD i true=false∧∃o,ops[i]?=some o∧∀e∈o.after.toList,Region.binds .any e=true→a.getD e.on false=true:=by
 unfold Region.ready
 rw[List.mem_filter,List.mem_range]
 constructor
 ·rintro⟨f,c⟩
  simp only[Et,Ca] at c
  obtain⟨c,b⟩:=c
  refine⟨f,c,?_⟩
  cases d:ops[i]? with
  |none=>rw[d] at b;simp at b
  |some o=>
   rw[d] at b
   refine⟨o,rfl,fun e g h=> ?_⟩
   simp only[Ch,Cu] at b
   rw[←Array.all_toList] at b
   grind
 grind
theorem rU (j:Nu ops=true) {a:Array Bool} (g:a.size=ops.size) (h:Region.ready .any ops a=[]):
 ∀i,i<ops.size→a.getD i false=true:=by
 intro i
 induction i using Nat.strongRecOn with
 |_ i ih=>
  intro b
  cases d:a.getD i false with
  |true=>rfl
  |false=>
   exfalso
   have c:a.getD i true=false:=by
    simp[g,b] at d⊢;exact d
   obtain⟨o,f⟩:∃o,ops[i]?=some o:=⟨ops[i],Array.getElem?_eq_getElem b⟩
   have:i∈Region.ready .any ops a:=Xe.2 ⟨b,c,o,f,fun e k l=>by
    grind [Zz]⟩
   grind
theorem TG {o:Oper} {a:Act} {w:World} {K d f:Act→World→Prop}
 (h:o.wp P a w d (Exit.then f Q)) (b:∀a w,d a w→K a w):o.wp P a w K Q:=by
 unfold Oper.wp at*
 generalize (execOp a.eval o).run P w=r at*
 cases r with
 |ok n w'=>
  cases n<;>simp only[Oper.upon] at h⊢ <;>first|exact b _ _ h|exact Calls.mono h (fun e g c=>by cases e<;>first|exact b _ _ c|exact c)|grind [Rows.mono]
 |halt x w'=>cases x<;>simp only[Oper.upon] at h⊢ <;>exact h
theorem TH (L:Nu ops=true) (J:(Nat→Bool)→Act→World→Prop)
 (U:Q0 P ops Q J 0 ops.toList) (M:∀a w,J (fun i=>decide (i<ops.size)) a w→Q .normal a w):
 ∀(d:Nat) (b:Array Bool) (a:Act) (w:World),b.size=ops.size→ops.size≤d+(b.toList.countP id)→J (fun i=>b.getD i false) a w→wpAny P .any ops Q d b a w:=by
 have y:∀(b:Array Bool) (a:Act) (w:World),b.size=ops.size→(∀i,i<ops.size→b.getD i false=true)→J (fun i=>b.getD i false) a w→Q .normal a w:=by
  intro b a w f g n
  have e:(fun i=>b.getD i false)=fun i=>decide (i<ops.size):=by
   funext i
   by_cases t:i<ops.size
   ·rw[g i t];simp[t]
   ·simp[t,f]
  rw[e] at n
  exact M a w n
 intro d
 induction d with
 |zero=>
  intro b a w f N n
  have m:∀x∈b.toList,x=true:=by
   have F:=List.countP_le_length (p:=id) (l:=b.toList)
   rw[Bm] at F
   have u:b.toList.countP id=b.toList.length:=by rw[Bm];omega
   intro x O
   exact List.countP_eq_length.1 u x O
  have g:∀i,i<ops.size→b.getD i false=true:=by
   intro i t
   have:i<b.size:=Aa
   simp[this]
   exact m _ Ab
  refine⟨?_,y b a w f g n⟩
  cases V:Region.ready .any ops b with
  |nil=>rfl
  |cons i r=>
   grind [Xe,Region.ready,List.mem_cons_self]
 |succ d K=>
  intro b a w f N n
  refine⟨fun R=>y b a w f (rU L f R) n,fun i t=> ?_⟩
  obtain⟨F,u,o,I,T⟩:=Xe.1 t
  have j:i<b.size:=Aa
  have C:b.getD i false=false:=by simp[j] at u⊢;exact u
  have c:=rS ops.toList 0 U i o (by simpa using I) (fun k=>b.getD k false) a w (by simpa using C) T n
  rw[A0] at c
  have H:∀s w',J (Io (fun k=>b.getD k false) i) s w'→wpAny P .any ops Q d (b.setIfInBounds i true) s w':=by
   intro s w' B
   refine K (b.setIfInBounds i true) s w' (by simp[f]) ?_ ?_
   ·have z:(b.setIfInBounds i true).toList.countP id=b.toList.countP id+1:=by
     rw[Array.toList_setIfInBounds]
     have A:i<b.toList.length:=by rw[Bm];exact j
     have v:b.toList[i]=false:=by simp[j] at u;simpa using u
     rw[List.countP_set A,v]
     simp
    omega
   ·have e:(fun k=>(b.setIfInBounds i true).getD k false)=Io (fun k=>b.getD k false) i:=by
     funext k
     unfold Io
     by_cases q:k=i
     ·subst q;simp[j]
     ·rw[Ai q]
      simp[Array.getElem?_setIfInBounds_ne (Ne.symm q)]
    rw[e];exact B
  unfold wpOp
  rw[I]
  simp only[]
  unfold wpList at c
  split
  ·rename_i E
   rw[Aj E] at c
   rcases c with c|c
   ·exact .inl (TG c fun s w' h=>H s w' h)
   ·exact .inr c
  ·rename_i E
   rw[Ai E] at c
   exact H _ _ c
theorem Nd {id:Nat} {a:Act} {w:World} (f:P.follows .mixedOrders=true) (b:Nu ops=true)
 (J:(Nat→Bool)→Act→World→Prop) (g:J (fun _=>false) a w.drew) (h:Q0 P ops Q J 0 ops.toList) (c:∀a w,J (fun i=>decide (i<ops.size)) a w→Q .normal a w):
 (Code.region id ops true).wp P Q a w:=by
 refine wp_region_any f ?_
 refine TH b J h c ops.size (Array.replicate ops.size false) a _ Ab Aa ?_
 have e:(fun i=>(Array.replicate ops.size false).getD i false)=fun _=>false:=by
  funext i
  by_cases d:i<ops.size<;>simp[d]
 rw[e];exact g

end Go.Proofs.YtbedjionhmaafaaGreatDoor
