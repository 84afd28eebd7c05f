/- MR: the texts GenZ R11 R12 EqG T4 GenZ2, one behind the other. No condition but what each lemma says. -/
import Derived.Test.YtngbfblmejjipaaGreatDoorMP
import Derived.Test.YtngbfblmejjipaaGreatDoorMI
import Derived.Test.YtngbfblmejjipaaGreatDoorMQ
import Derived.Test.YtngbfblmejjipaaGreatDoorMM
import Derived.Test.YtngbfblmejjipaaGreatDoorME
set_option maxRecDepth 100000
set_option maxHeartbeats 16000000
namespace Go.Proofs.YtngbfblmejjipaaGreatDoor
open Go.RowKit
def Tr.c:Tr→Nat
 | .mk c _ _ _ _=>c
def Tr.k:Tr→Bool
 | .mk _ _ k _ _=>k
structure Tr.at (t:Tr):Prop where
 o:(t.kid 0).v.length≤30000
 v:∀k,t.ks[1]?=some k→k.ok∧k.enc.length≤900000000
structure Tr.nm (t:Tr):Prop where
 l:t.ks.length≤100000
 k:∀k∈t.ks,k.ks.length≤100000∧∀j∈k.ks,j.at
structure Att.eqs (a:Att):Prop where
 v:a.val.length≤1000000000
def nQ (r:List Att):Prop:=r.length≤1000000∧∀a∈r,a.eqs
def nR (n:List (List Att)):Prop:=n.length≤1000000∧∀r∈n,nQ r
structure Gn.eqs (g:Gn):Prop where
 b:g.by'.length≤1000000000
 n:nR g.nm
def Tr.isB (c n:Nat) (k:Bool):Tr→Bool
 | .mk c' n' k' _ _=>c'==c&&k'==k&&n'==n
def okT (d:Nat) (p:List UInt8) (t:Tr):Prop:=One d p∧trD d p=t
theorem okT.of {d:Nat} {p:List UInt8} (h:One d p):okT d p (trD d p):=⟨h,rfl⟩
theorem Z0 (n:Nat):1≤(Ec n).length:=by
 unfold Ec
 split
 ·rename_i h;rw[Bp (by omega)];simp
 ·simp
end Go.Proofs.YtngbfblmejjipaaGreatDoor
