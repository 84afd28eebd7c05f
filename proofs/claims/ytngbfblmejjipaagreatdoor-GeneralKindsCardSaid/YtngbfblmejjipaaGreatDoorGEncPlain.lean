/- GEncPlain: the texts EncPlain, one behind the other. No condition but what each lemma says. -/
import Derived.Test.YtngbfblmejjipaaGreatDoorGDecPlain
namespace Go.Proofs.YtngbfblmejjipaaGreatDoor
open Go.Lib (validD decodeL)
theorem fL {k:Int} {l:List UInt8} (hv:Af k l=true):F4 k (Gx k l)=k∧Dg k (Gx k l)=l∧Dk k (Gx k l)=0:=by
 have hneg:¬Ae k<0:=by
  intro h;unfold Af at hv;simp[h] at hv
 obtain⟨W,hW⟩:∃W:Nat,Ae k=(W:Int):=⟨(Ae k).toNat,by omega⟩
 have hall:∀x∈rns l,A8 k x=true:=by
  unfold Af at hv
  simp only[Bool.and_eq_true,List.all_eq_true] at hv
  exact hv.2
 have hd:validD l=true:=by
  unfold Af at hv
  simp only[Bool.and_eq_true] at hv
  exact hv.1.1
 have key:okD k (Gx k l)=true∧Df k (Gx k l)=l:=by
  unfold Gx
  rw[hv,if_pos rfl]
  by_cases h0:W=0
  ·have hk:Ae k=0:=by rw[hW,h0];rfl
   have he:chS k l=l:=by unfold chS;rw[if_pos hk]
   have hb:Df k l=l:=by unfold Df;rw[if_pos hk]
   rw[he]
   exact⟨by unfold okD;rw[hb,hv,he];simp,hb⟩
  ·have he:chS k l=(rns l).flatMap (Em W):=by unfold chS;rw[if_neg (by omega),hW,Int.toNat_natCast]
   have hlen:(chS k l).length=(rns l).length*W:=by rw[he,Lu]
   have hq:(chS k l).length/W=(rns l).length:=by rw[hlen];exact Nat.mul_div_cancel _ (by omega)
   have hn:Gr W (chS k l) ((chS k l).length/W)=rns l:=by
    refine Lt W (by omega) _ _ (fun x hx=>by
     obtain⟨q,_,rfl⟩:=List.mem_map.1 hx
     exact Gy _ (q*W) W) (fun y hy=>N1 hW (by omega) (hall y hy)) ?_
    rw[Hl W _ _ (by rw[hq,hlen];exact Nat.le_refl _),hq,←hlen,List.take_of_length_le (Nat.le_refl _),he]
   obtain⟨o1,o2,-⟩:=O6 (c:=chS k l) hW (by omega) (by rw[hlen];exact Nat.mul_mod_left _ _) (by rw[hn];exact hall)
   exact⟨o1,by rw[o2,hn];exact Fi l hd⟩
 unfold F4 Dg Dk
 rw[if_neg hneg,if_neg hneg,if_neg hneg,key.1,key.2]
 exact⟨rfl,rfl,rfl⟩
end Go.Proofs.YtngbfblmejjipaaGreatDoor
