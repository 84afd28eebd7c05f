/- NA: the text LawKX. No condition but what each lemma says. -/
import Derived.Test.YtgamacmidohpfaaGreatDoorMX
set_option maxRecDepth 100000
set_option maxHeartbeats 16000000
namespace Go.Proofs.YtgamacmidohpfaaGreatDoor
open Go.RowKit
structure Kd.okk (k:Kd):Prop where
 d:k.id.length≤big
 i:k.iss.length≤big∧∀g∈k.iss,g.ok
 s:k.ser.length≤big
theorem Rz {k:Kd} (h:O4 k=true):k.mid∧k.zz∧(kdE k).length≤190000∧k.eqs:=by
 obtain⟨h1,h2⟩:=oM h
 unfold O4 at h
 simp only[Bool.and_eq_true,decide_eq_true_eq] at h
 obtain⟨⟨a1,a2⟩,a3⟩:=h
 exact⟨h1,⟨by omega,by omega,(EX a2).z⟩,h2,⟨by omega,by omega,⟨h1.i.n,fun g hg=>(h1.i.m g hg).s.z.q⟩⟩⟩
theorem Hw {p:Prop} (h:p:=by first|rfl|(simp only[AV.gives,AV.ren,AV.give,D.un,D.uns,Ag,Af,List.nil_append,List.append_nil,List.cons_append,Ai,Al,As,Aq,An,Ar,Ax,Ck,Bq,Ce,Bg,J9,J8];first|done|rfl)):p:=h
theorem AP (k:Kd) (l:List UInt8) (h:k.okk) (hl:l.length≤big):Aa Tryz.prog 3 [kdA k,.d (Ac false l)] (fun r=>r=bv true):=by
 have hA:=Oq
 have hF:=Kb k ⟨h.d,h.i,h.s⟩
 unfold big at hl
 cases hf:O4 k
 ·rw[hf] at hF
  refine acQ 38 Tryz.func3 rfl rfl fun _ _ _=> ?_
  (repeat'((conv=>whnf);first|refine NBr.yes ?_|refine NBr.no ?_|refine NCall.eq hA rfl ?_|refine NCall.eq hF Hw ?_));(all_goals(conv=>whnf))
  all_goals exact NEnd.eq leQ
 rw[hf] at hF
 by_cases h1:(l.length:Int)>500
 ·have g1:=DC h1
  clear h1
  refine acQ 38 Tryz.func3 rfl rfl fun _ _ _=> ?_
  (repeat'((conv=>whnf);first|refine NBr.pos asQ ?_|refine NBr.no ?_|refine NCall.eq hA rfl ?_|refine NCall.eq hF Hw ?_));(all_goals(conv=>whnf))
  all_goals exact NEnd.eq leQ
 have g1:=FV h1
 obtain⟨hm,hz,-,-⟩:=Rz hf
 have hd:=hm.d
 have a1:=Wl k hm l (by omega)
 have a2:=gO k hz l (by omega)
 have a3:=Wl k hm k.id (by omega)
 have a4:=O5 k hz
 have e3:gN k k.id=(kdW k&&k.has):=by unfold gN;rw[beq_self_eq_true,Bool.and_true]
 rw[e3] at a3
 generalize gN k l=q at a1 a2
 generalize kdW k=w at a3 a4
 clear hf hm hz h hd e3 h1
 obtain⟨has,id,iss,ser⟩:=k
 simp only at a3
 cases q<;>cases w<;>cases has
 all_goals
  refine acQ 38 Tryz.func3 rfl rfl fun _ _ _=> ?_
  (repeat'((conv=>whnf);first|refine NBr.neg asQ ?_|refine NBr.yes ?_|refine NBr.no ?_|refine NCall.eq hA rfl ?_|refine NCall.eq hF Hw ?_|refine NCall.eq a1 Hw ?_|refine NCall.eq a2 Hw ?_|refine NCall.eq a3 Hw ?_|refine NCall.eq a4 Hw ?_|refine NFact.go ⟨by decide+kernel,by kernel_rfl⟩ ?_));(all_goals(conv=>whnf))
  all_goals exact NEnd.eq leQ
end Go.Proofs.YtgamacmidohpfaaGreatDoor
