/- MJ: the texts Kid Kid2 Law15, one behind the other. No condition but what each lemma says. -/
import Derived.Test.YtcojanjphgmcmaaGreatDoorMG
import Derived.Test.YtcojanjphgmcmaaGreatDoorME
import Derived.Test.YtcojanjphgmcmaaGreatDoorMI
set_option maxRecDepth 100000
set_option maxHeartbeats 16000000
namespace Go.Proofs.YtcojanjphgmcmaaGreatDoor
open Go.RowKit
theorem Aj (c n:Nat) (k:Bool) (l:List UInt8) (hl:l.length≤1000000000):(Ae c n k l).length≤l.length+6:=by
 have:=Jh l.length (by omega)
 simp only[Ae,Ji,List.length_cons,List.length_append];omega
structure Kd where
 has:Bool
 id:List UInt8
 iss:List Gn
 ser:List UInt8
theorem Jv (c n:Nat) (k:Bool) (p:List UInt8) (hc1:c≤3) (hn:n≤30) (hl:p.length≤900000000):Aa Tryz.prog 40 [iv c,bv k,iv n,.d (Bw [p])] (fun r=>r= .tup [As 0 5 (Ae c n k p),iv 0]):=by
 have h:=F1 c n k [p] hc1 hn (by simpa using hl) (by simp)
 rwa[show [p].flatten=p by simp] at h
theorem fN (c o n:Nat) (h1:c=0→o=0) (h2:c≠0→o≤n):Aa Tryz.prog 13 [erA c o,iv n] (fun r=>r=bv true):=by
 by_cases hz:c=0
 ·have ho:=h1 hz
  subst hz ho
  refine Dw 25 _ G1 mixed Tryz.func13 rfl (by kernel_rfl) rfl rfl rfl rfl fun W0 fp0 z0=> ?_
  (repeat'((conv=>whnf);refine NBr.yes ?_));(all_goals(conv=>whnf))
  all_goals(refine NEnd.eq ?_;(repeat'(first|exact Ao _|refine And.intro ?_ ?_|exact rfl)))
 ·have ho:=h2 hz
  have g1:((c:Int)==0)=false:=by rw[beq_eq_false_iff_ne];omega
  have g2:decide ((c:Int)>0)=true:=decide_eq_true (by omega)
  have g3:decide ((o:Int)≥0)=true:=decide_eq_true (by omega)
  have g4:decide ((o:Int)≤n)=true:=decide_eq_true (by omega)
  refine Dw 25 _ G1 mixed Tryz.func13 rfl (by kernel_rfl) rfl rfl rfl rfl fun W0 fp0 z0=> ?_
  (repeat'((conv=>whnf);first|refine NBr.yes ?_|refine NBr.pos (by assumption) ?_|refine NBr.neg (by assumption) ?_));(all_goals(conv=>whnf))
  all_goals(refine NEnd.eq ?_;(repeat'(first|refine And.intro ?_ ?_|exact rfl));(all_goals(conv=>whnf)))
  all_goals assumption
theorem CV {n:Nat} {k:Int} (h:(n:Int)>k):decide ((n:Int)>k)=true:=by simpa using h
theorem FN {n:Nat} {k:Int} (h:¬(n:Int)>k):decide ((n:Int)>k)=false:=by simpa using h
end Go.Proofs.YtcojanjphgmcmaaGreatDoor
