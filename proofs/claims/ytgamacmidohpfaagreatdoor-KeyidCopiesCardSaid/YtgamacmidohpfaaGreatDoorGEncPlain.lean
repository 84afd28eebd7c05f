/- GEncPlain: the texts EncPlain, one behind the other. No condition but what each lemma says. -/
import Derived.Test.YtgamacmidohpfaaGreatDoorGDecPlain
namespace Go.Proofs.YtgamacmidohpfaaGreatDoor
open Go.Lib (validD decodeL)
theorem wJ {k:Int} {l:List UInt8} (hv:Ao k l=true):E2 k (Eb k l)=k∧Cm k (Eb k l)=l∧Dl k (Eb k l)=0:=by
 have hneg:¬Aq k<0:=by
  intro h;unfold Ao at hv;simp[h] at hv
 obtain⟨W,hW⟩:∃W:Nat,Aq k=(W:Int):=⟨(Aq k).toNat,by omega⟩
 have hall:∀x∈rns l,Bt k x=true:=by
  unfold Ao at hv
  simp only[Aw,List.all_eq_true] at hv
  exact hv.2
 have hd:validD l=true:=by
  unfold Ao at hv
  simp only[Aw] at hv
  exact hv.1.1
 have key:okD k (Eb k l)=true∧E6 k (Eb k l)=l:=by
  unfold Eb
  rw[hv,if_pos rfl]
  by_cases h0:W=0
  ·have hk:Aq k=0:=by rw[hW,h0];rfl
   have he:chS k l=l:=by unfold chS;rw[if_pos hk]
   have hb:E6 k l=l:=by unfold E6;rw[if_pos hk]
   rw[he]
   exact⟨by unfold okD;rw[hb,hv,he];simp,hb⟩
  ·have he:chS k l=(rns l).flatMap (H5 W):=by unfold chS;rw[if_neg (by omega),hW,Int.toNat_natCast]
   have hlen:(chS k l).length=(rns l).length*W:=by rw[he,Sn]
   have hq:(chS k l).length/W=(rns l).length:=by rw[hlen];exact Nat.mul_div_cancel _ (by omega)
   have hn:K4 W (chS k l) ((chS k l).length/W)=rns l:=by
    refine Sm W (by omega) _ _ (fun x hx=>by
     obtain⟨q,_,rfl⟩:=List.mem_map.1 hx
     exact Ld _ (q*W) W) (fun y hy=>Vn hW (by omega) (hall y hy)) ?_
    rw[Ml W _ _ (by rw[hq,hlen];exact Nat.le_refl _),hq,←hlen,List.take_of_length_le (Nat.le_refl _),he]
   obtain⟨o1,o2,-⟩:=W5 (c:=chS k l) hW (by omega) (by rw[hlen];exact Nat.mul_mod_left _ _) (by rw[hn];exact hall)
   exact⟨o1,by rw[o2,hn];exact H3 l hd⟩
 unfold E2 Cm Dl
 rw[if_neg hneg,if_neg hneg,if_neg hneg,key.1,key.2]
 exact⟨rfl,rfl,rfl⟩
end Go.Proofs.YtgamacmidohpfaaGreatDoor
