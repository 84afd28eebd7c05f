/- GEncPlain: the texts EncPlain, one behind the other. No condition but what each lemma says. -/
import Derived.Test.YtjakkpcpommojaaGreatDoorGDecPlain
namespace Go.Proofs.YtjakkpcpommojaaGreatDoor
open Go.Lib (validD decodeL)
theorem BD {k:Int} {l:List UInt8} (hv:Al k l=true):Jc k (Gh k l)=k∧Eo k (Gh k l)=l∧Fi k (Gh k l)=0:=by
 have hneg:¬Ao k<0:=by
  intro h;unfold Al at hv;simp[h] at hv
 obtain⟨W,hW⟩:∃W:Nat,Ao k=(W:Int):=⟨(Ao k).toNat,by omega⟩
 have hall:∀x∈rns l,Bp k x=true:=by
  unfold Al at hv
  simp only[Bool.and_eq_true,List.all_eq_true] at hv
  exact hv.2
 have hd:validD l=true:=by
  unfold Al at hv
  simp only[Bool.and_eq_true] at hv
  exact hv.1.1
 have key:okD k (Gh k l)=true∧Gu k (Gh k l)=l:=by
  unfold Gh
  rw[hv,if_pos rfl]
  by_cases h0:W=0
  ·have hk:Ao k=0:=by rw[hW,h0];rfl
   have he:chS k l=l:=by unfold chS;rw[if_pos hk]
   have hb:Gu k l=l:=by unfold Gu;rw[if_pos hk]
   rw[he]
   exact⟨by unfold okD;rw[hb,hv,he];simp,hb⟩
  ·have he:chS k l=(rns l).flatMap (Ie W):=by unfold chS;rw[if_neg (by omega),hW,Int.toNat_natCast]
   have hlen:(chS k l).length=(rns l).length*W:=by rw[he,S6]
   have hq:(chS k l).length/W=(rns l).length:=by rw[hlen];exact Nat.mul_div_cancel _ (by omega)
   have hn:Lc W (chS k l) ((chS k l).length/W)=rns l:=by
    refine S5 W (by omega) _ _ (fun x hx=>by
     obtain⟨q,_,rfl⟩:=List.mem_map.1 hx
     exact Lm _ (q*W) W) (fun y hy=>Wn hW (by omega) (hall y hy)) ?_
    rw[Me W _ _ (by rw[hq,hlen];exact Nat.le_refl _),hq,←hlen,List.take_of_length_le (Nat.le_refl _),he]
   obtain⟨o1,o2,-⟩:=Yc (c:=chS k l) hW (by omega) (by rw[hlen];exact Nat.mul_mod_left _ _) (by rw[hn];exact hall)
   exact⟨o1,by rw[o2,hn];exact Ib l hd⟩
 unfold Jc Eo Fi
 rw[if_neg hneg,if_neg hneg,if_neg hneg,key.1,key.2]
 exact⟨rfl,rfl,rfl⟩
end Go.Proofs.YtjakkpcpommojaaGreatDoor
