/- NK: the texts LawPM LawIM, one behind the other. No condition but what each lemma says. -/
import Derived.Test.YtgpaehhbdbgeaaaGreatDoorNI
namespace Go.Proofs.YtgpaehhbdbgeaaaGreatDoor
open Go.RowKit
set_option maxRecDepth 100000
set_option maxHeartbeats 8000000
theorem wT:pt0.eqs:=⟨⟨⟨by simp[pt0],fun p hp=>by simp[pt0] at hp⟩,⟨by simp[pt0],fun p hp=>by simp[pt0] at hp⟩⟩,⟨by simp[pt0],fun p hp=>by simp[pt0] at hp⟩⟩
theorem wU:nmEq is0.f is0.r:=⟨⟨by simp[is0],fun p hp=>by simp[is0] at hp⟩,⟨by simp[is0],fun p hp=>by simp[is0] at hp⟩⟩
end Go.Proofs.YtgpaehhbdbgeaaaGreatDoor
