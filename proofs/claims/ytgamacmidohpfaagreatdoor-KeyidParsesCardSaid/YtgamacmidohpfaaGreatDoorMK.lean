/- MK: the texts Mul Mul2, one behind the other. No condition but what each lemma says. -/
import Derived.Test.YtgamacmidohpfaaGreatDoorMI
import Derived.Test.YtgamacmidohpfaaGreatDoorMD
import Derived.Test.YtgamacmidohpfaaGreatDoorMJ
import Derived.Test.YtgamacmidohpfaaGreatDoorMC
set_option maxRecDepth 100000
set_option maxHeartbeats 16000000
namespace Go.Proofs.YtgamacmidohpfaaGreatDoor
open Go.RowKit
def Dl (b:List UInt8):Bool:=(Dt b).code==0
theorem nP (b:List UInt8):(∃s,Dt b=⟨[s],0,0⟩)∨(∃c o,c≠0∧Dt b=⟨[],c,o⟩):=by
 have hF:=Fk b 16 b.length (by omega) 0 (by omega)
 dsimp only at hF
 unfold Dt
 generalize A8 b 16 0 b.length=r at hF
 by_cases h:r.code=0
 ·obtain⟨s,rfl,h1,h2⟩:=hF.1 h
  by_cases h3:s.stop<b.length
  ·rw[Gs h3];exact .inr ⟨_,_,by simp,rfl⟩
  ·rw[Jd h3];exact .inl ⟨s,rfl⟩
 ·obtain⟨l,c,o⟩:=r
  have hl:l=[]:=(hF.2 h).2
  subst hl
  have h':¬c=0:=h
  rw[Hr];exact .inr ⟨c,o,h',by simp[SR.bad]⟩
theorem Hb {α:Type} (f:α→Bool) {l:List α} {i:Nat} {x:α} (h:l[i]?=some x) (hx:f x=true) (ha:(l.take i).all f=true):(l.take (i+1)).all f=true:=by
 obtain⟨hlt,he⟩:=List.getElem?_eq_some_iff.1 h
 rw[List.take_succ_eq_append_getElem hlt,he,List.all_append,ha];simp[hx]
def Ej (p:List UInt8):List D:=[Ac true p]
theorem Bg (l:List (List UInt8)):D.uns (l.flatMap Ej)=l.flatMap H4:=by
 induction l with
 |nil=>rfl
 |cons p r ih=>
  show D.un (Ac true p)::D.uns (r.flatMap Ej)=_
  rw[Ag,ih];rfl
structure Mu where
 oid:List UInt8
 vs:List (List UInt8)
theorem Gu {p:List UInt8}:∀{l:List (List UInt8)},p∈l→p.length≤l.flatten.length
 |[],h=>by cases h
 |q::r,h=>by
  rw[List.flatten_cons,List.length_append]
  rcases List.mem_cons.1 h with rfl|h
  ·omega
  ·have:=Gu h;omega
structure Mu.sm (m:Mu):Prop where
 o:m.oid.length≤70000
 n:m.vs.length≤1000000
 v:m.vs.flatten.length≤70000
end Go.Proofs.YtgamacmidohpfaaGreatDoor
