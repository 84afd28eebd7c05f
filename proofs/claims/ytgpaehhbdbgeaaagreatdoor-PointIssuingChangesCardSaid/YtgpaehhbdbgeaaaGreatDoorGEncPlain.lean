/- GEncPlain: the texts EncPlain, one behind the other. No condition but what each lemma says. -/
import Derived.Test.YtgpaehhbdbgeaaaGreatDoorGDecPlain
namespace Go.Proofs.YtgpaehhbdbgeaaaGreatDoor
open Go.Lib (validD decodeL)
theorem rZ {k:Int} {l:List UInt8} (hv:Ah k l=true):G9 k (I9 k l)=k∧C9 k (I9 k l)=l∧Dw k (I9 k l)=0:=by
 have hneg:¬Aj k<0:=by
  intro h;unfold Ah at hv;simp[h] at hv
 obtain⟨W,hW⟩:∃W:Nat,Aj k=(W:Int):=⟨(Aj k).toNat,by omega⟩
 have hall:∀x∈rns l,Bn k x=true:=by
  unfold Ah at hv
  simp only[Bool.and_eq_true,List.all_eq_true] at hv
  exact hv.2
 have hd:validD l=true:=by
  unfold Ah at hv
  simp only[Bool.and_eq_true] at hv
  exact hv.1.1
 have key:okD k (I9 k l)=true∧E2 k (I9 k l)=l:=by
  unfold I9
  rw[hv,if_pos rfl]
  by_cases h0:W=0
  ·have hk:Aj k=0:=by rw[hW,h0];rfl
   have he:chS k l=l:=by unfold chS;rw[if_pos hk]
   have hb:E2 k l=l:=by unfold E2;rw[if_pos hk]
   rw[he]
   exact⟨by unfold okD;rw[hb,hv,he];simp,hb⟩
  ·have he:chS k l=(rns l).flatMap (Gi W):=by unfold chS;rw[if_neg (by omega),hW,Int.toNat_natCast]
   have hlen:(chS k l).length=(rns l).length*W:=by rw[he,Pv]
   have hq:(chS k l).length/W=(rns l).length:=by rw[hlen];exact Nat.mul_div_cancel _ (by omega)
   have hn:I2 W (chS k l) ((chS k l).length/W)=rns l:=by
    refine Pu W (by omega) _ _ (fun x hx=>by
     obtain⟨q,_,rfl⟩:=List.mem_map.1 hx
     exact Ja _ (q*W) W) (fun y hy=>Sx hW (by omega) (hall y hy)) ?_
    rw[Jw W _ _ (by rw[hq,hlen];exact Nat.le_refl _),hq,←hlen,List.take_of_length_le (Nat.le_refl _),he]
   obtain⟨o1,o2,-⟩:=Ue (c:=chS k l) hW (by omega) (by rw[hlen];exact Nat.mul_mod_left _ _) (by rw[hn];exact hall)
   exact⟨o1,by rw[o2,hn];exact Hj l hd⟩
 unfold G9 C9 Dw
 rw[if_neg hneg,if_neg hneg,if_neg hneg,key.1,key.2]
 exact⟨rfl,rfl,rfl⟩
end Go.Proofs.YtgpaehhbdbgeaaaGreatDoor
