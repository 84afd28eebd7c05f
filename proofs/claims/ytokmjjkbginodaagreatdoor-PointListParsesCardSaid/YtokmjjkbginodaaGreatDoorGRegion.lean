/- GRegion: the texts Region, one behind the other. No condition but what each lemma says. -/
import Derived.Test.YtokmjjkbginodaaGreatDoorGUtf
import Derived.Orders
import Derived.Tactics
import Derived.WalkKit
namespace Go.Proofs.YtokmjjkbginodaaGreatDoor
open Go.RowKit
def A3 (d:Nat→Bool) (i:Nat):Nat→Bool:=fun k=>if k=i then true else d k
theorem Ev (d:Nat→Bool) (i:Nat):A3 d i i=true:=by simp[A3]
theorem Ea (d:Nat→Bool) (i k:Nat) (h:k≠i):A3 d i k=d k:=by simp[A3,h]
def Fo (o:Oper) (d:Nat→Bool):Prop:=∀e∈o.after.toList,Region.binds .any e=true→d e.on=true
def Nl (P:Program) (ops:Array Oper) (Q:Exit→Act→World→Prop) (J:(Nat→Bool)→Act→World→Prop):Nat→List Oper→Prop
 |_,[]=>True
 |k,o::r=>(∀d a w,d k=false→Fo o d→J d a w→wpList P ops (Exit.then (J (A3 d k)) Q) [o] a w)∧Nl P ops Q J (k+1) r
theorem iQ {P:Program} {ops:Array Oper} {Q:Exit→Act→World→Prop} {J:(Nat→Bool)→Act→World→Prop}:∀(l:List Oper) (k:Nat),Nl P ops Q J k l→
 ∀i o,l[i]?=some o→∀d a w,d (k+i)=false→Fo o d→J d a w→wpList P ops (Exit.then (J (A3 d (k+i))) Q) [o] a w:=by
 intro l
 induction l with
 |nil=>intro k _ i o h;simp at h
 |cons x l ih=>
  intro k h i o hi
  cases i with
  |zero=>simp only[List.getElem?_cons_zero,Option.some.injEq] at hi;subst hi;exact h.1
  |succ i=>
   have:=ih (k+1) h.2 i o (by simpa using hi)
   rw[show k+1+i=k+(i+1) from by omega] at this
   exact this
def I0 (ops:Array Oper):Bool:=ops.toList.zipIdx.all fun(o,i)=>o.after.toList.all fun e=> !Region.binds .any e||decide (e.on<i)
theorem iR {ops:Array Oper} (h:I0 ops=true) {i:Nat} {o:Oper} (ho:ops[i]?=some o):∀e∈o.after.toList,Region.binds .any e=true→e.on<i:=by
 intro e he hb
 unfold I0 at h
 have h1:=List.all_eq_true.1 h (o,i) (by rw[List.mem_zipIdx_iff_getElem?];simpa using ho)
 have h2:=List.all_eq_true.1 h1 e he
 simpa[hb] using h2
theorem Rh {ops:Array Oper} {listed:Array Bool} {i:Nat}:i∈Region.ready .any ops listed↔
 i<ops.size∧listed.getD i true=false∧∃o,ops[i]?=some o∧∀e∈o.after.toList,Region.binds .any e=true→listed.getD e.on false=true:=by
 unfold Region.ready
 rw[List.mem_filter,List.mem_range]
 constructor
 ·rintro⟨h1,h2⟩
  simp only[At,Bool.not_eq_true'] at h2
  obtain⟨h2,h3⟩:=h2
  refine⟨h1,h2,?_⟩
  cases ho:ops[i]? with
  |none=>rw[ho] at h3;simp at h3
  |some o=>
   rw[ho] at h3
   refine⟨o,rfl,fun e he hb=> ?_⟩
   simp only[Option.map_some,Option.getD_some] at h3
   rw[←Array.all_toList] at h3
   have:=List.all_eq_true.1 h3 e he
   simpa[hb] using this
 ·rintro⟨h1,h2,o,ho,h3⟩
  refine⟨h1,?_⟩
  rw[ho]
  simp only[h2,Option.map_some,Option.getD_some,Bool.not_false,Bool.true_and]
  rw[←Array.all_toList,List.all_eq_true]
  intro e he
  cases hb:Region.binds .any e with
  |false=>rfl
  |true=>rw[h3 e he hb];rfl
theorem iS {ops:Array Oper} (ha:I0 ops=true) {listed:Array Bool} (hs:listed.size=ops.size) (h:Region.ready .any ops listed=[]):
 ∀i,i<ops.size→listed.getD i false=true:=by
 intro i
 induction i using Nat.strongRecOn with
 |_ i ih=>
  intro hi
  cases hl:listed.getD i false with
  |true=>rfl
  |false=>
   exfalso
   have hl':listed.getD i true=false:=by
    simp[hs,hi] at hl⊢;exact hl
   obtain⟨o,ho⟩:∃o,ops[i]?=some o:=⟨ops[i],Array.getElem?_eq_getElem hi⟩
   have:i∈Region.ready .any ops listed:=Rh.2 ⟨hi,hl',o,ho,fun e he hb=>by
    have hlt:=iR ha ho e he hb
    exact ih e.on hlt (by omega)⟩
   rw[h] at this
   exact List.not_mem_nil this
theorem DU {P:Program} {o:Oper} {a:Act} {w:World} {K K' K2:Act→World→Prop} {Q:Exit→Act→World→Prop}
 (h:o.wp P a w K' (Exit.then K2 Q)) (hk:∀a w,K' a w→K a w):o.wp P a w K Q:=by
 unfold Oper.wp at*
 generalize (execOp a.eval o).run P w=r at*
 cases r with
 |ok n w'=>
  cases n<;>simp only[Oper.upon] at h⊢ <;>first|exact hk _ _ h|exact Calls.mono h (fun e w'' he=>by cases e<;>first|exact hk _ _ he|exact he)|exact Rows.mono h (fun _ _ he=>hk _ _ he)
 |halt x w'=>cases x<;>simp only[Oper.upon] at h⊢ <;>exact h
theorem DV {P:Program} {ops:Array Oper} {Q:Exit→Act→World→Prop} (ha:I0 ops=true) (J:(Nat→Bool)→Act→World→Prop)
 (hs:Nl P ops Q J 0 ops.toList) (hf:∀a w,J (fun i=>decide (i<ops.size)) a w→Q .normal a w):
 ∀(fuel:Nat) (listed:Array Bool) (a:Act) (w:World),listed.size=ops.size→ops.size≤fuel+(listed.toList.countP id)→J (fun i=>listed.getD i false) a w→wpAny P .any ops Q fuel listed a w:=by
 have all:∀(listed:Array Bool) (a:Act) (w:World),listed.size=ops.size→(∀i,i<ops.size→listed.getD i false=true)→J (fun i=>listed.getD i false) a w→Q .normal a w:=by
  intro listed a w hsz hall hJ
  have e:(fun i=>listed.getD i false)=fun i=>decide (i<ops.size):=by
   funext i
   by_cases hi:i<ops.size
   ·rw[hall i hi];simp[hi]
   ·simp[hi,hsz]
  rw[e] at hJ
  exact hf a w hJ
 intro fuel
 induction fuel with
 |zero=>
  intro listed a w hsz hc hJ
  have hfull:∀x∈listed.toList,x=true:=by
   have h1:=List.countP_le_length (p:=id) (l:=listed.toList)
   rw[Array.length_toList] at h1
   have h2:listed.toList.countP id=listed.toList.length:=by rw[Array.length_toList];omega
   intro x hx
   exact List.countP_eq_length.1 h2 x hx
  have hall:∀i,i<ops.size→listed.getD i false=true:=by
   intro i hi
   have:i<listed.size:=by omega
   simp[this]
   exact hfull _ (by simp)
  refine⟨?_,all listed a w hsz hall hJ⟩
  cases hr:Region.ready .any ops listed with
  |nil=>rfl
  |cons i r=>
   exfalso
   obtain⟨h1,h2,_⟩:=Rh.1 (show i∈Region.ready .any ops listed by rw[hr];exact List.mem_cons_self)
   have:=hall i h1
   simp[show i<listed.size by omega] at h2 this
   rw[this] at h2;cases h2
 |succ fuel ih=>
  intro listed a w hsz hc hJ
  refine⟨fun hn=>all listed a w hsz (iS ha hsz hn) hJ,fun i hi=> ?_⟩
  obtain⟨h1,h2,o,ho,h3⟩:=Rh.1 hi
  have hlt:i<listed.size:=by omega
  have h2':listed.getD i false=false:=by simp[hlt] at h2⊢;exact h2
  have hstep:=iQ ops.toList 0 hs i o (by simpa using ho) (fun k=>listed.getD k false) a w (by simpa using h2') h3 hJ
  rw[Nat.zero_add] at hstep
  have hk:∀a' w',J (A3 (fun k=>listed.getD k false) i) a' w'→wpAny P .any ops Q fuel (listed.setIfInBounds i true) a' w':=by
   intro a' w' hJ'
   refine ih (listed.setIfInBounds i true) a' w' (by simp[hsz]) ?_ ?_
   ·have hcount:(listed.setIfInBounds i true).toList.countP id=listed.toList.countP id+1:=by
     rw[Array.toList_setIfInBounds]
     have hll:i<listed.toList.length:=by rw[Array.length_toList];exact hlt
     have hget:listed.toList[i]=false:=by simp[hlt] at h2;simpa using h2
     rw[List.countP_set hll,hget]
     simp
    omega
   ·have e:(fun k=>(listed.setIfInBounds i true).getD k false)=A3 (fun k=>listed.getD k false) i:=by
     funext k
     unfold A3
     by_cases hki:k=i
     ·subst hki;simp[hlt]
     ·rw[if_neg hki]
      simp[Array.getElem?_setIfInBounds_ne (Ne.symm hki)]
    rw[e];exact hJ'
  unfold wpOp
  rw[ho]
  simp only[]
  unfold wpList at hstep
  split
  ·rename_i hw
   rw[if_pos hw] at hstep
   rcases hstep with hstep|hstep
   ·exact .inl (DU hstep fun a' w' h=>hk a' w' h)
   ·exact .inr hstep
  ·rename_i hw
   rw[if_neg hw] at hstep
   exact hk _ _ hstep
theorem Js {P:Program} {id:Nat} {ops:Array Oper} {Q:Exit→Act→World→Prop} {a:Act} {w:World} (hm:P.follows .mixedOrders=true) (ha:I0 ops=true)
 (J:(Nat→Bool)→Act→World→Prop) (h0:J (fun _=>false) a w.drew) (hs:Nl P ops Q J 0 ops.toList) (hf:∀a w,J (fun i=>decide (i<ops.size)) a w→Q .normal a w):
 (Code.region id ops true).wp P Q a w:=by
 refine wp_region_any hm ?_
 refine DV ha J hs hf ops.size (Array.replicate ops.size false) a _ (by simp) (by omega) ?_
 have e:(fun i=>(Array.replicate ops.size false).getD i false)=fun _=>false:=by
  funext i
  by_cases hi:i<ops.size<;>simp[hi]
 rw[e];exact h0
end Go.Proofs.YtokmjjkbginodaaGreatDoor
