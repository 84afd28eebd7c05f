/- NK: the texts LawPM, one behind the other. No condition but what each lemma says. -/
import Derived.Test.YtokmjjkbginodaaGreatDoorNI
namespace Go.Proofs.YtokmjjkbginodaaGreatDoor
open Go.RowKit
set_option maxRecDepth 100000
set_option maxHeartbeats 8000000
theorem KE:pt0.eqs:=⟨⟨⟨by simp[pt0],fun p hp=>by simp[pt0] at hp⟩,⟨by simp[pt0],fun p hp=>by simp[pt0] at hp⟩⟩,⟨by simp[pt0],fun p hp=>by simp[pt0] at hp⟩⟩
end Go.Proofs.YtokmjjkbginodaaGreatDoor
