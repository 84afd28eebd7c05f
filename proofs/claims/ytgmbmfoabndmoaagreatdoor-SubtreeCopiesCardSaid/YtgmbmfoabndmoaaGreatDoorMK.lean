/- MK: the texts Mul Mul2, one behind the other. No condition but what each lemma says. -/
import Derived.Test.YtgmbmfoabndmoaaGreatDoorMI
import Derived.Test.YtgmbmfoabndmoaaGreatDoorMD
import Derived.Test.YtgmbmfoabndmoaaGreatDoorMJ
import Derived.Test.YtgmbmfoabndmoaaGreatDoorMC
set_option maxRecDepth 100000
set_option maxHeartbeats 16000000
namespace Go.Proofs.YtgmbmfoabndmoaaGreatDoor
open Go.RowKit
def Dj (b:List UInt8):Bool:=(Dx b).code==0
theorem pC (b:List UInt8):(∃s,Dx b=⟨[s],0,0⟩)∨(∃c o,c≠0∧Dx b=⟨[],c,o⟩):=by
 have hF:=Fj b 16 b.length (by omega) 0 (by omega)
 dsimp only at hF
 unfold Dx
 generalize A5 b 16 0 b.length=r at hF
 by_cases h:r.code=0
 ·obtain⟨s,rfl,h1,h2⟩:=hF.1 h
  by_cases h3:s.stop<b.length
  ·rw[Gu h3];exact .inr ⟨_,_,by simp,rfl⟩
  ·rw[Jn h3];exact .inl ⟨s,rfl⟩
 ·obtain⟨l,c,o⟩:=r
  have hl:l=[]:=(hF.2 h).2
  subst hl
  have h':¬c=0:=h
  rw[Hy];exact .inr ⟨c,o,h',by simp[SR.bad]⟩
theorem Hb {α:Type} (f:α→Bool) {l:List α} {i:Nat} {x:α} (h:l[i]?=some x) (hx:f x=true) (ha:(l.take i).all f=true):(l.take (i+1)).all f=true:=by
 obtain⟨hlt,he⟩:=List.getElem?_eq_some_iff.1 h
 rw[List.take_succ_eq_append_getElem hlt,he,List.all_append,ha];simp[hx]
def Dk (p:List UInt8):List D:=[Ac true p]
theorem Br (l:List (List UInt8)):D.uns (l.flatMap Dk)=l.flatMap Ic:=by
 induction l with
 |nil=>rfl
 |cons p r ih=>
  show D.un (Ac true p)::D.uns (r.flatMap Dk)=_
  rw[Ah,ih];rfl
structure Mu where
 oid:List UInt8
 vs:List (List UInt8)
theorem Fz {p:List UInt8}:∀{l:List (List UInt8)},p∈l→p.length≤l.flatten.length
 |[],h=>by cases h
 |q::r,h=>by
  rw[List.flatten_cons,List.length_append]
  rcases List.mem_cons.1 h with rfl|h
  ·omega
  ·have:=Fz h;omega
structure Mu.sm (m:Mu):Prop where
 o:m.oid.length≤70000
 n:m.vs.length≤1000000
 v:m.vs.flatten.length≤70000
end Go.Proofs.YtgmbmfoabndmoaaGreatDoor
