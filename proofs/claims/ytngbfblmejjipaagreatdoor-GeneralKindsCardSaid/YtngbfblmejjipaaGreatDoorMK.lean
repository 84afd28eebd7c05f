/- MK: the texts Mul Mul2, one behind the other. No condition but what each lemma says. -/
import Derived.Test.YtngbfblmejjipaaGreatDoorMI
import Derived.Test.YtngbfblmejjipaaGreatDoorMD
import Derived.Test.YtngbfblmejjipaaGreatDoorMJ
import Derived.Test.YtngbfblmejjipaaGreatDoorMC
set_option maxRecDepth 100000
set_option maxHeartbeats 16000000
namespace Go.Proofs.YtngbfblmejjipaaGreatDoor
open Go.RowKit
def D7 (b:List UInt8):Bool:=(B4 b).code==0
theorem Zm (b:List UInt8):(∃s,B4 b=⟨[s],0,0⟩)∨(∃c o,c≠0∧B4 b=⟨[],c,o⟩):=by
 have hF:=C3 b 16 b.length (by omega) 0 (by omega)
 dsimp only at hF
 unfold B4
 generalize As b 16 0 b.length=r at hF
 by_cases h:r.code=0
 ·obtain⟨s,rfl,h1,h2⟩:=hF.1 h
  by_cases h3:s.stop<b.length
  ·rw[D0 h3];exact .inr ⟨_,_,by simp,rfl⟩
  ·rw[Fw h3];exact .inl ⟨s,rfl⟩
 ·obtain⟨l,c,o⟩:=r
  have hl:l=[]:=(hF.2 h).2
  subst hl
  have h':¬c=0:=h
  rw[Ew];exact .inr ⟨c,o,h',by simp[SR.bad]⟩
theorem Om {α:Type} (f:α→Bool) {l:List α} {i:Nat} {x:α} (h:l[i]?=some x) (hx:f x=true) (ha:(l.take i).all f=true):(l.take (i+1)).all f=true:=by
 obtain⟨hlt,he⟩:=List.getElem?_eq_some_iff.1 h
 rw[List.take_succ_eq_append_getElem hlt,he,List.all_append,ha];simp[hx]
def On (p:List UInt8):List D:=[Ac true p]
theorem H4 (l:List (List UInt8)):D.uns (l.flatMap On)=l.flatMap E5:=by
 induction l with
 |nil=>rfl
 |cons p r ih=>
  show D.un (Ac true p)::D.uns (r.flatMap On)=_
  rw[Ai,ih];rfl
structure Mu where
 oid:List UInt8
 vs:List (List UInt8)
theorem Jq {p:List UInt8}:∀{l:List (List UInt8)},p∈l→p.length≤l.flatten.length
 |[],h=>by cases h
 |q::r,h=>by
  rw[List.flatten_cons,List.length_append]
  rcases List.mem_cons.1 h with rfl|h
  ·omega
  ·have:=Jq h;omega
structure Mu.sm (m:Mu):Prop where
 o:m.oid.length≤70000
 n:m.vs.length≤1000000
 v:m.vs.flatten.length≤70000
end Go.Proofs.YtngbfblmejjipaaGreatDoor
