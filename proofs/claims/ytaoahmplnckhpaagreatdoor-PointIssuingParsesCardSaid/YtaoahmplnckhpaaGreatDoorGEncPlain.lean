/- GEncPlain: the texts EncPlain, one behind the other. No condition but what each lemma says. -/
import Derived.Test.YtaoahmplnckhpaaGreatDoorGDecPlain
namespace Go.Proofs.YtaoahmplnckhpaaGreatDoor
open Go.Lib (validD decodeL)
theorem CM {k:Int} {l:List UInt8} (hv:Al k l=true):Fg k (Fc k l)=k∧Cw k (Fc k l)=l∧D4 k (Fc k l)=0:=by
 have hneg:¬Ap k<0:=by
  intro h;unfold Al at hv;simp[h] at hv
 obtain⟨W,hW⟩:∃W:Nat,Ap k=(W:Int):=⟨(Ap k).toNat,by omega⟩
 have hall:∀x∈rns l,Bz k x=true:=by
  unfold Al at hv
  simp only[At,List.all_eq_true] at hv
  exact hv.2
 have hd:validD l=true:=by
  unfold Al at hv
  simp only[At] at hv
  exact hv.1.1
 have key:okD k (Fc k l)=true∧Fj k (Fc k l)=l:=by
  unfold Fc
  rw[hv,if_pos rfl]
  by_cases h0:W=0
  ·have hk:Ap k=0:=by rw[hW,h0];rfl
   have he:chS k l=l:=by unfold chS;rw[if_pos hk]
   have hb:Fj k l=l:=by unfold Fj;rw[if_pos hk]
   rw[he]
   exact⟨by unfold okD;rw[hb,hv,he];simp,hb⟩
  ·have he:chS k l=(rns l).flatMap (Iw W):=by unfold chS;rw[if_neg (by omega),hW,Int.toNat_natCast]
   have hlen:(chS k l).length=(rns l).length*W:=by rw[he,Ug]
   have hq:(chS k l).length/W=(rns l).length:=by rw[hlen];exact Nat.mul_div_cancel _ (by omega)
   have hn:L0 W (chS k l) ((chS k l).length/W)=rns l:=by
    refine Uf W (by omega) _ _ (fun x hx=>by
     obtain⟨q,_,rfl⟩:=List.mem_map.1 hx
     exact Ma _ (q*W) W) (fun y hy=>Xv hW (by omega) (hall y hy)) ?_
    rw[M8 W _ _ (by rw[hq,hlen];exact Nat.le_refl _),hq,←hlen,List.take_of_length_le (Nat.le_refl _),he]
   obtain⟨o1,o2,-⟩:=Zj (c:=chS k l) hW (by omega) (by rw[hlen];exact Nat.mul_mod_left _ _) (by rw[hn];exact hall)
   exact⟨o1,by rw[o2,hn];exact Iu l hd⟩
 unfold Fg Cw D4
 rw[if_neg hneg,if_neg hneg,if_neg hneg,key.1,key.2]
 exact⟨rfl,rfl,rfl⟩
end Go.Proofs.YtaoahmplnckhpaaGreatDoor
