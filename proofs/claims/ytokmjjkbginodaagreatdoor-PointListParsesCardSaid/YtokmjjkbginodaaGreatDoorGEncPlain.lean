/- GEncPlain: the texts EncPlain, one behind the other. No condition but what each lemma says. -/
import Derived.Test.YtokmjjkbginodaaGreatDoorGDecPlain
namespace Go.Proofs.YtokmjjkbginodaaGreatDoor
open Go.Lib (validD decodeL)
theorem EE {k:Int} {l:List UInt8} (hv:Aq k l=true):Fl k (Fh k l)=k∧Cu k (Fh k l)=l∧D7 k (Fh k l)=0:=by
 have hneg:¬Ar k<0:=by
  intro h;unfold Aq at hv;simp[h] at hv
 obtain⟨W,hW⟩:∃W:Nat,Ar k=(W:Int):=⟨(Ar k).toNat,by omega⟩
 have hall:∀x∈rns l,B5 k x=true:=by
  unfold Aq at hv
  simp only[At,List.all_eq_true] at hv
  exact hv.2
 have hd:validD l=true:=by
  unfold Aq at hv
  simp only[At] at hv
  exact hv.1.1
 have key:okD k (Fh k l)=true∧Fp k (Fh k l)=l:=by
  unfold Fh
  rw[hv,if_pos rfl]
  by_cases h0:W=0
  ·have hk:Ar k=0:=by rw[hW,h0];rfl
   have he:chS k l=l:=by unfold chS;rw[if_pos hk]
   have hb:Fp k l=l:=by unfold Fp;rw[if_pos hk]
   rw[he]
   exact⟨by unfold okD;rw[hb,hv,he];simp,hb⟩
  ·have he:chS k l=(rns l).flatMap (I1 W):=by unfold chS;rw[if_neg (by omega),hW,Int.toNat_natCast]
   have hlen:(chS k l).length=(rns l).length*W:=by rw[he,Uj]
   have hq:(chS k l).length/W=(rns l).length:=by rw[hlen];exact Nat.mul_div_cancel _ (by omega)
   have hn:L5 W (chS k l) ((chS k l).length/W)=rns l:=by
    refine Ui W (by omega) _ _ (fun x hx=>by
     obtain⟨q,_,rfl⟩:=List.mem_map.1 hx
     exact Mf _ (q*W) W) (fun y hy=>X6 hW (by omega) (hall y hy)) ?_
    rw[Nn W _ _ (by rw[hq,hlen];exact Nat.le_refl _),hq,←hlen,List.take_of_length_le (Nat.le_refl _),he]
   obtain⟨o1,o2,-⟩:=Zv (c:=chS k l) hW (by omega) (by rw[hlen];exact Nat.mul_mod_left _ _) (by rw[hn];exact hall)
   exact⟨o1,by rw[o2,hn];exact Iz l hd⟩
 unfold Fl Cu D7
 rw[if_neg hneg,if_neg hneg,if_neg hneg,key.1,key.2]
 exact⟨rfl,rfl,rfl⟩
end Go.Proofs.YtokmjjkbginodaaGreatDoor
