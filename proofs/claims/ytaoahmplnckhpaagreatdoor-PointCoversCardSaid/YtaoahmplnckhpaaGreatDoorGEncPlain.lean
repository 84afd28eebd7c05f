/- GEncPlain: the texts EncPlain, one behind the other. No condition but what each lemma says. -/
import Derived.Test.YtaoahmplnckhpaaGreatDoorGDecPlain
namespace Go.Proofs.YtaoahmplnckhpaaGreatDoor
open Go.Lib (validD decodeL)
theorem uV {k:Int} {l:List UInt8} (hv:An k l=true):I4 k (J0 k l)=k∧Fv k (J0 k l)=l∧Fx k (J0 k l)=0:=by
 have hneg:¬Aq k<0:=by
  intro h;unfold An at hv;simp[h] at hv
 obtain⟨W,hW⟩:∃W:Nat,Aq k=(W:Int):=⟨(Aq k).toNat,by omega⟩
 have hall:∀x∈rns l,Bh k x=true:=by
  unfold An at hv
  simp only[Ap,List.all_eq_true] at hv
  exact hv.2
 have hd:validD l=true:=by
  unfold An at hv
  simp only[Ap] at hv
  exact hv.1.1
 have key:okD k (J0 k l)=true∧Fu k (J0 k l)=l:=by
  unfold J0
  rw[hv,if_pos rfl]
  by_cases h0:W=0
  ·have hk:Aq k=0:=by rw[hW,h0];rfl
   have he:chS k l=l:=by unfold chS;rw[if_pos hk]
   have hb:Fu k l=l:=by unfold Fu;rw[if_pos hk]
   rw[he]
   exact⟨by unfold okD;rw[hb,hv,he];simp,hb⟩
  ·have he:chS k l=(rns l).flatMap (G5 W):=by unfold chS;rw[if_neg (by omega),hW,Int.toNat_natCast]
   have hlen:(chS k l).length=(rns l).length*W:=by rw[he,Qp]
   have hq:(chS k l).length/W=(rns l).length:=by rw[hlen];exact Nat.mul_div_cancel _ (by omega)
   have hn:Jq W (chS k l) ((chS k l).length/W)=rns l:=by
    refine Qo W (by omega) _ _ (fun x hx=>by
     obtain⟨q,_,rfl⟩:=List.mem_map.1 hx
     exact J1 _ (q*W) W) (fun y hy=>Tk hW (by omega) (hall y hy)) ?_
    rw[Kr W _ _ (by rw[hq,hlen];exact Nat.le_refl _),hq,←hlen,List.take_of_length_le (Nat.le_refl _),he]
   obtain⟨o1,o2,-⟩:=U0 (c:=chS k l) hW (by omega) (by rw[hlen];exact Nat.mul_mod_left _ _) (by rw[hn];exact hall)
   exact⟨o1,by rw[o2,hn];exact G3 l hd⟩
 unfold I4 Fv Fx
 rw[if_neg hneg,if_neg hneg,if_neg hneg,key.1,key.2]
 exact⟨rfl,rfl,rfl⟩
end Go.Proofs.YtaoahmplnckhpaaGreatDoor
