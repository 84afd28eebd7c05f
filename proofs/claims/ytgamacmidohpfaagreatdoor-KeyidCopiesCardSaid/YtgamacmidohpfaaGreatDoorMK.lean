/- MK: the texts Mul Mul2, one behind the other. No condition but what each lemma says. -/
import Derived.Test.YtgamacmidohpfaaGreatDoorMJ
set_option maxRecDepth 100000
set_option maxHeartbeats 16000000
namespace Go.Proofs.YtgamacmidohpfaaGreatDoor
open Go.RowKit
def Ea (b:List UInt8):Bool:=(Ek b).code==0
theorem nJ (b:List UInt8):(∃s,Ek b=⟨[s],0,0⟩)∨(∃c o,c≠0∧Ek b=⟨[],c,o⟩):=by
 have hF:=F7 b 16 b.length (by omega) 0 (by omega)
 dsimp only at hF
 unfold Ek
 generalize Bs b 16 0 b.length=r at hF
 by_cases h:r.code=0
 ·obtain⟨s,rfl,h1,h2⟩:=hF.1 h
  by_cases h3:s.stop<b.length
  ·rw[He h3];exact .inr ⟨_,_,by simp,rfl⟩
  ·rw[J4 h3];exact .inl ⟨s,rfl⟩
 ·obtain⟨l,c,o⟩:=r
  have hl:l=[]:=(hF.2 h).2
  subst hl
  have h':¬c=0:=h
  rw[Ij];exact .inr ⟨c,o,h',by simp[SR.bad]⟩
theorem H2 {α:Type} (f:α→Bool) {l:List α} {i:Nat} {x:α} (h:l[i]?=some x) (hx:f x=true) (ha:(l.take i).all f=true):(l.take (i+1)).all f=true:=by
 obtain⟨hlt,he⟩:=A1.1 h
 rw[List.take_succ_eq_append_getElem hlt,he,List.all_append,ha];simp[hx]
def Fe (p:List UInt8):List D:=[Ag true p]
theorem Cl (l:List (List UInt8)):D.uns (l.flatMap Fe)=l.flatMap Iz:=by
 induction l with
 |nil=>rfl
 |cons p r ih=>
  show D.un (Ag true p)::D.uns (r.flatMap Fe)=_
  rw[Al,ih];rfl
structure Mu where
 oid:List UInt8
 vs:List (List UInt8)
theorem Hg {p:List UInt8}:∀{l:List (List UInt8)},p∈l→p.length≤l.flatten.length
 |[],h=>by cases h
 |q::r,h=>by
  rw[List.flatten_cons,Ap]
  rcases List.mem_cons.1 h with rfl|h
  ·omega
  ·have:=Hg h;omega
structure Mu.sm (m:Mu):Prop where
 o:m.oid.length≤70000
 n:m.vs.length≤1000000
 v:m.vs.flatten.length≤70000
end Go.Proofs.YtgamacmidohpfaaGreatDoor
