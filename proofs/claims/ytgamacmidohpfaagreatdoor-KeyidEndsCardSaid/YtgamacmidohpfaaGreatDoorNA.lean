/- NA: the text LawKX. No condition but what each lemma says. -/
import Derived.Test.YtgamacmidohpfaaGreatDoorMX
set_option maxRecDepth 100000
set_option maxHeartbeats 16000000
namespace Go.Proofs.YtgamacmidohpfaaGreatDoor
open Go.RowKit
structure Kd.okk (k:Kd):Prop where
 d:k.id.length≤big
 i:k.iss.length≤big∧∀g∈k.iss,g.ok
 s:k.ser.length≤big
theorem Rz {k:Kd} (h:O4 k=true):k.mid∧k.zz∧(kdE k).length≤190000∧k.eqs:=by
 obtain⟨h1,h2⟩:=oM h
 unfold O4 at h
 simp only[Bool.and_eq_true,decide_eq_true_eq] at h
 obtain⟨⟨a1,a2⟩,a3⟩:=h
 exact⟨h1,⟨by omega,by omega,(EX a2).z⟩,h2,⟨by omega,by omega,⟨h1.i.n,fun g hg=>(h1.i.m g hg).s.z.q⟩⟩⟩
end Go.Proofs.YtgamacmidohpfaaGreatDoor
namespace Go.Proofs.YtgamacmidohpfaaGreatDoor
open Go.ChangeShapes Go.WideShapes Go.ChangeAt Go.RowKit Go.Joins
structure Kd.wf (k:Kd):Prop where
 d:k.id.length≤big
 i:k.iss.length≤big∧∀g∈k.iss,g.wf
 s:k.ser.length≤big
theorem Kd.wf.okk {k:Kd} (h:k.wf):k.okk:=⟨h.d,⟨h.i.1,fun g hg=>(h.i.2 g hg).ok⟩,h.s⟩
theorem kE:Op 25 4 (fun k:Kd=>[.v (.bool k.has),Ac false k.id,Fw k.iss,Ac false k.ser]) Kd.wf:=by
 intro H enc w fuel cs x h
 obtain⟨xs,m,-,-,hl,hn,hf⟩:=DataW.trod_struct Tryz.underlying25 h
 have hl':cs.length=4:=hl.trans (by kernel_rfl)
 obtain⟨a,-,r0⟩:=C8 hn hf (o:=0) 0 (by kernel_rfl) (by kernel_rfl) (yH Tryz.underlying4)
 obtain⟨b,k1,r1⟩:=C8 hn hf (o:=1) 1 (by kernel_rfl) (by kernel_rfl) Hp
 obtain⟨c,k2,r2⟩:=C8 hn hf (o:=2) 2 (by kernel_rfl) (by kernel_rfl) CW
 obtain⟨d,k3,r3⟩:=C8 hn hf (o:=3) 3 (by kernel_rfl) (by kernel_rfl) Hp
 exact⟨⟨a,b,c,d⟩,⟨k1,k2,k3⟩,hl',iN (C7 r0 (C7 r1 (C7 r2 (C7 r3 (Rb hl')))))⟩
end Go.Proofs.YtgamacmidohpfaaGreatDoor
