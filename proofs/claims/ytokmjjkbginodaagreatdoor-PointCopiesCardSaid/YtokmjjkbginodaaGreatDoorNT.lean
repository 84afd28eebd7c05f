/- NT: the texts Frz2, one behind the other. No condition but what each lemma says. -/
import Derived.Test.YtokmjjkbginodaaGreatDoorMU
import Derived.Test.YtokmjjkbginodaaGreatDoorMT
namespace Go.Proofs.YtokmjjkbginodaaGreatDoor
open Go.RowKit
theorem Nf {b:Bool} {A B:Prop} (h:b=true) (ha:A):(bif b then A else B):=by subst h;exact ha
theorem uZ (n:List (List Att)):(Oy n).fresh=true:=
 Nt 1 fun r _=>by
  show((Jn r).fresh&&true)=true
  rw[Bool.and_true]
  exact Nt 2 fun a _=>by
   show(true&&((Af true a.val).fresh&&true))=true
   rw[Ms];rfl
theorem mH (g:Gn):D.freshs (gX g)=true:=by
 show(true&&(true&&(true&&((Af true g.by').fresh&&((Oy g.nm).fresh&&(true&&(true&&(true&&(true&&true)))))))))=true
 rw[Ms,uZ];rfl
theorem W9 (l:List Gn):(Jo l).fresh=true:=Nt 9 fun g _=>mH g
def Sb (i:Nat) (b:List UInt8):List UInt8:=(b.take i).map (fun x=>UInt8.ofNat (x.toNat+1))++b.drop i
theorem bX (i:Nat) (b:List UInt8):(Sb i b).length=b.length:=by
 unfold Sb
 rw[Ap,List.length_map,Al,Az];omega
theorem mI {i:Nat} {b:List UInt8} {x:UInt8} (h:b[i]?=some x):(Sb i b)[i]?=some x:=by
 have hi:=(Aw.1 h).1
 unfold Sb
 rw[List.getElem?_append_right (by rw[List.length_map,Al];omega),List.length_map,Al,List.getElem?_drop,←h]
 congr 1;omega
theorem bY {i:Nat} {b:List UInt8} {x:UInt8} (h:b[i]?=some x):(Sb i b).set i (UInt8.ofNat (x.toNat+1))=Sb (i+1) b:=by
 obtain⟨hi,he⟩:=Aw.1 h
 unfold Sb
 have hl:((b.take i).map fun x=>UInt8.ofNat (x.toNat+1)).length=i:=by rw[List.length_map,Al];omega
 rw[List.set_append_right _ _ (by omega),hl,Nat.sub_self,List.take_succ_eq_append_getElem hi,List.map_append,he,List.append_assoc,List.drop_eq_getElem_cons hi]
 rfl
end Go.Proofs.YtokmjjkbginodaaGreatDoor
