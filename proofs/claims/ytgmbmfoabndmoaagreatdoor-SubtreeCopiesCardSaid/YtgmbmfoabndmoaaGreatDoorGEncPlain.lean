/- GEncPlain: the texts EncPlain, one behind the other. No condition but what each lemma says. -/
import Derived.Test.YtgmbmfoabndmoaaGreatDoorGDecPlain
namespace Go.Proofs.YtgmbmfoabndmoaaGreatDoor
open Go.Lib (validD decodeL)
theorem xP {k:Int} {l:List UInt8} (hv:Af k l=true):Ed k (Dl k l)=k∧Bs k (Dl k l)=l∧Cw k (Dl k l)=0:=by
 have hneg:¬Ag k<0:=by
  intro h;unfold Af at hv;simp[h] at hv
 obtain⟨W,hW⟩:∃W:Nat,Ag k=(W:Int):=⟨(Ag k).toNat,by omega⟩
 have hall:∀x∈rns l,A6 k x=true:=by
  unfold Af at hv
  simp only[Bool.and_eq_true,List.all_eq_true] at hv
  exact hv.2
 have hd:validD l=true:=by
  unfold Af at hv
  simp only[Bool.and_eq_true] at hv
  exact hv.1.1
 have key:okD k (Dl k l)=true∧Ef k (Dl k l)=l:=by
  unfold Dl
  rw[hv,if_pos rfl]
  by_cases h0:W=0
  ·have hk:Ag k=0:=by rw[hW,h0];rfl
   have he:chS k l=l:=by unfold chS;rw[if_pos hk]
   have hb:Ef k l=l:=by unfold Ef;rw[if_pos hk]
   rw[he]
   exact⟨by unfold okD;rw[hb,hv,he];simp,hb⟩
  ·have he:chS k l=(rns l).flatMap (Hh W):=by unfold chS;rw[if_neg (by omega),hW,Int.toNat_natCast]
   have hlen:(chS k l).length=(rns l).length*W:=by rw[he,Sr]
   have hq:(chS k l).length/W=(rns l).length:=by rw[hlen];exact Nat.mul_div_cancel _ (by omega)
   have hn:Kp W (chS k l) ((chS k l).length/W)=rns l:=by
    refine Sq W (by omega) _ _ (fun x hx=>by
     obtain⟨q,_,rfl⟩:=List.mem_map.1 hx
     exact Kz _ (q*W) W) (fun y hy=>V2 hW (by omega) (hall y hy)) ?_
    rw[L6 W _ _ (by rw[hq,hlen];exact Nat.le_refl _),hq,←hlen,List.take_of_length_le (Nat.le_refl _),he]
   obtain⟨o1,o2,-⟩:=Xl (c:=chS k l) hW (by omega) (by rw[hlen];exact Nat.mul_mod_left _ _) (by rw[hn];exact hall)
   exact⟨o1,by rw[o2,hn];exact Hf l hd⟩
 unfold Ed Bs Cw
 rw[if_neg hneg,if_neg hneg,if_neg hneg,key.1,key.2]
 exact⟨rfl,rfl,rfl⟩
end Go.Proofs.YtgmbmfoabndmoaaGreatDoor
