/- MJ: the texts Kid Kid2 Law15, one behind the other. No condition but what each lemma says. -/
import Derived.Test.YtblabcopgeobgaaGreatDoorMG
import Derived.Test.YtblabcopgeobgaaGreatDoorME
import Derived.Test.YtblabcopgeobgaaGreatDoorMI
namespace Go.Proofs.YtblabcopgeobgaaGreatDoor
open Go.RowKit
set_option maxRecDepth 100000
set_option maxHeartbeats 8000000
theorem encS_len (c n : Nat) (k : Bool) (l : List UInt8) (hl : l.length ≤ 1000000000) : (encS c n k l).length ≤ l.length + 6 := by
 have := lenS_len l.length (by omega)
 simp only [encS, putS, List.length_cons, List.length_append]; omega
structure Kd where
 has : Bool
 id : List UInt8
 iss : List Gn
 ser : List UInt8
end Go.Proofs.YtblabcopgeobgaaGreatDoor

namespace Go.Proofs.YtblabcopgeobgaaGreatDoor
open Go.RowKit
set_option maxRecDepth 100000
set_option maxHeartbeats 8000000
end Go.Proofs.YtblabcopgeobgaaGreatDoor

namespace Go.Proofs.YtblabcopgeobgaaGreatDoor
open Go.RowKit
set_option maxRecDepth 100000
set_option maxHeartbeats 8000000
theorem wi_any (c o n : Nat) (h1 : c = 0 → o = 0) (h2 : c ≠ 0 → o ≤ n) : ACalls Tryz.prog 17 [erA c o, iv n] (fun r => r = bv true) := by
 by_cases hz : c = 0
 ·have ho := h1 hz
  subst hz ho
  refine acalls_vc 25 _ tabOk mixed Tryz.func17 rfl (by kernel_rfl) rfl rfl rfl rfl fun W0 fp0 z0 => ?_
  (repeat' ((conv => whnf); refine NBr.yes ?_)); (all_goals (conv => whnf))
  all_goals (refine NEnd.eq ?_; (repeat' (first | exact leW_refl _ | refine And.intro ?_ ?_ | exact rfl)))
 ·have ho := h2 hz
  have g1 : ((c : Int) == 0) = false := by rw [beq_eq_false_iff_ne]; omega
  have g2 : decide ((c : Int) > 0) = true := decide_eq_true (by omega)
  have g3 : decide ((o : Int) ≥ 0) = true := decide_eq_true (by omega)
  have g4 : decide ((o : Int) ≤ n) = true := decide_eq_true (by omega)
  refine acalls_vc 25 _ tabOk mixed Tryz.func17 rfl (by kernel_rfl) rfl rfl rfl rfl fun W0 fp0 z0 => ?_
  (repeat' ((conv => whnf); first | refine NBr.yes ?_ | refine NBr.pos (by assumption) ?_ | refine NBr.neg (by assumption) ?_)); (all_goals (conv => whnf))
  all_goals (refine NEnd.eq ?_; (repeat' (first | refine And.intro ?_ ?_ | exact rfl)); (all_goals (conv => whnf)))
  all_goals assumption
end Go.Proofs.YtblabcopgeobgaaGreatDoor
