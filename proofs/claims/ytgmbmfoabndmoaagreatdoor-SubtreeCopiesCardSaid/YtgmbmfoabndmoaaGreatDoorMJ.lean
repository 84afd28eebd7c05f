/- MJ: the texts Kid Kid2 Law15, one behind the other. No condition but what each lemma says. -/
import Derived.Test.YtgmbmfoabndmoaaGreatDoorMG
import Derived.Test.YtgmbmfoabndmoaaGreatDoorME
import Derived.Test.YtgmbmfoabndmoaaGreatDoorMI
set_option maxRecDepth 100000
set_option maxHeartbeats 16000000
namespace Go.Proofs.YtgmbmfoabndmoaaGreatDoor
open Go.RowKit
theorem Al (c n:Nat) (k:Bool) (l:List UInt8) (hl:l.length≤1000000000):(Ae c n k l).length≤l.length+6:=by
 have:=Ht l.length (by omega)
 simp only[Ae,Iu,List.length_cons,List.length_append];omega
structure Kd where
 has:Bool
 id:List UInt8
 iss:List Gn
 ser:List UInt8
theorem Jp (c n:Nat) (k:Bool) (p:List UInt8) (hc1:c≤3) (hn:n≤30) (hl:p.length≤900000000):Aa Tryz.prog 23 [iv c,bv k,iv n,.d (Cs [p])] (fun r=>r= .tup [Aq 0 5 (Ae c n k p),iv 0]):=by
 have h:=Hu c n k [p] hc1 hn (by simpa using hl) (by simp)
 rwa[show [p].flatten=p by simp] at h
theorem iC (c o n:Nat) (h1:c=0→o=0) (h2:c≠0→o≤n):Aa Tryz.prog 18 [erA c o,iv n] (fun r=>r=bv true):=by
 by_cases hz:c=0
 ·have ho:=h1 hz
  subst hz ho
  refine Bf 25 _ D3 mixed Tryz.func18 rfl (by kernel_rfl) rfl rfl rfl rfl fun W0 fp0 z0=> ?_
  (repeat'((conv=>whnf);refine NBr.yes ?_));(all_goals(conv=>whnf))
  all_goals(refine NEnd.eq ?_;(repeat'(first|exact Ak _|refine And.intro ?_ ?_|exact rfl)))
 ·have ho:=h2 hz
  have g1:((c:Int)==0)=false:=by rw[beq_eq_false_iff_ne];omega
  have g2:decide ((c:Int)>0)=true:=decide_eq_true (by omega)
  have g3:decide ((o:Int)≥0)=true:=decide_eq_true (by omega)
  have g4:decide ((o:Int)≤n)=true:=decide_eq_true (by omega)
  refine Bf 25 _ D3 mixed Tryz.func18 rfl (by kernel_rfl) rfl rfl rfl rfl fun W0 fp0 z0=> ?_
  (repeat'((conv=>whnf);first|refine NBr.yes ?_|refine NBr.pos (by assumption) ?_|refine NBr.neg (by assumption) ?_));(all_goals(conv=>whnf))
  all_goals(refine NEnd.eq ?_;(repeat'(first|refine And.intro ?_ ?_|exact rfl));(all_goals(conv=>whnf)))
  all_goals assumption
theorem EC {n:Nat} {k:Int} (h:(n:Int)>k):decide ((n:Int)>k)=true:=by simpa using h
theorem GT {n:Nat} {k:Int} (h:¬(n:Int)>k):decide ((n:Int)>k)=false:=by simpa using h
end Go.Proofs.YtgmbmfoabndmoaaGreatDoor
