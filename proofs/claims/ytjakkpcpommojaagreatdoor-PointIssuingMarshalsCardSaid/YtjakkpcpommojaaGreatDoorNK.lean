/- NK: the texts LawPM LawIM, one behind the other. No condition but what each lemma says. -/
import Derived.Test.YtjakkpcpommojaaGreatDoorNI
namespace Go.Proofs.YtjakkpcpommojaaGreatDoor
open Go.RowKit
set_option maxRecDepth 100000
set_option maxHeartbeats 8000000
theorem D0 {p:Prop} (h:p:=by first|rfl|(simp only[AV.gives,AV.ren,AV.give,D.un,D.uns,Aj,Ak,List.nil_append,List.append_nil,List.cons_append,AV.frz,AV.frzs,Ap,A0,Bk,A7,Ay,Bj,Bs,Bg,A9,Bx,A5,Hg,K3];first|done|rfl)):p:=h
theorem FN (k:Pt) (h:k.okk):Ab Tryz.prog 3 [dpA k] (fun r=>r=bv true):=by
 have hA:=aP
 have hF:=Vt k h
 cases hf:Kh k
 ·rw[hf] at hF
  refine acQ 75 Tryz.func3 rfl rfl fun _ _ _=> ?_
  (repeat'((conv=>whnf);first|refine Ac ?_|refine Ae ?_|refine Aa hA rfl ?_|refine Aa hF D0 ?_|exact zE))
 rw[hf] at hF
 obtain⟨hm,hz,hl,hq⟩:=P2 hf
 have hM:=M2 k hm h.s
 have hR:=fK k hz
 have hV:=M1 k hm.m h.s
 have hW:=Vs k hz
 cases hw:ptW k
 ·rw[hw] at hM hR hV hW
  have hM:Ab Tryz.prog 8 [dpA k] (fun r=>r= .tup [Ax,iv 8]):=hM
  have hR:Ab Tryz.prog 9 [dpA k] (fun r=>r= .tup [Ax,iv 8]):=hR
  have hB:=C5 false false [] [] (by simp) (by simp)
  rw[beq_self_eq_true] at hB
  refine acQ 75 Tryz.func3 rfl rfl fun _ _ _=> ?_
  (repeat'((conv=>whnf);first|refine Ac ?_|refine Ae ?_|refine Aa hA rfl ?_|refine Aa hF D0 ?_|refine Aa hM D0 ?_|refine Aa hR D0 ?_|refine Aa hV D0 ?_|refine Aa hW D0 ?_|refine A6 hB M5 ?_|refine zF ?_|exact zE))
 ·have hput:=hm.put hw
  rw[hw] at hM hR hV hW
  have hM:Ab Tryz.prog 8 [dpA k] (fun r=>r= .tup [A4 0 5 (ptE k),iv 0]):=hM
  have hR:Ab Tryz.prog 9 [dpA k] (fun r=>r= .tup [A4 0 5 (ptE k),iv 0]):=hR
  have hP:=X2 (ptE k) (by omega)
  rw[hput] at hP
  have hP:Ab Tryz.prog 13 [.d (Ag false (ptE k))] (fun r=>r= .tup [ptQ k,erA 0 0]):=hP
  have hC:=AD k k hq hq
  rw[decide_eq_true rfl] at hC
  have hB:=C5 false false (ptE k) (ptE k) (by omega) (by omega)
  rw[beq_self_eq_true] at hB
  generalize ptE k=e at hM hR hP hB
  refine acQ 75 Tryz.func3 rfl rfl fun _ _ _=> ?_
  (repeat'((conv=>whnf);first|refine Ac ?_|refine Ae ?_|refine Aa hA rfl ?_|refine Aa hF D0 ?_|refine Aa hM D0 ?_|refine Aa hR D0 ?_|refine Aa hV D0 ?_|refine Aa hW D0 ?_|refine Aa hP D0 ?_|refine Aa hC D0 ?_|refine Aa hB D0 ?_|refine An (Qk rfl rfl (ltN rfl) rfl rfl) ?_|refine zF ?_|exact zE))
theorem D1 {p:Prop} (h:p:=by first|rfl|(simp only[AV.gives,AV.ren,AV.give,D.un,D.uns,Aj,Ak,List.nil_append,List.append_nil,List.cons_append,AV.frz,AV.frzs,Ap,A0,Bk,A7,Ay,Bj,Bs,Bg,A9,Bx,A5,Hg,K3];first|done|rfl)):p:=h
theorem FO (k:Iss) (h:k.okk):Ab Tryz.prog 4 [diA k] (fun r=>r=bv true):=by
 have hA:=aP
 have hF:=lA k h
 cases hf:Vn k
 ·rw[hf] at hF
  refine acQ 75 Tryz.func4 rfl rfl fun _ _ _=> ?_
  (repeat'((conv=>whnf);first|refine Ac ?_|refine Ae ?_|refine Aa hA rfl ?_|refine Aa hF D1 ?_|exact zE))
 rw[hf] at hF
 obtain⟨hm,hz,hl,hq⟩:=FH hf
 have hM:=Xz k hm h.s
 have hR:=AJ k hz
 have hV:=Q3 k hm.m h.s
 have hW:=fL k hz
 cases hw:isW k
 ·rw[hw] at hM hR hV hW
  have hM:Ab Tryz.prog 16 [diA k] (fun r=>r= .tup [Ax,iv 8]):=hM
  have hR:Ab Tryz.prog 17 [diA k] (fun r=>r= .tup [Ax,iv 8]):=hR
  have hB:=C5 false false [] [] (by simp) (by simp)
  rw[beq_self_eq_true] at hB
  refine acQ 75 Tryz.func4 rfl rfl fun _ _ _=> ?_
  (repeat'((conv=>whnf);first|refine Ac ?_|refine Ae ?_|refine Aa hA rfl ?_|refine Aa hF D1 ?_|refine Aa hM D1 ?_|refine Aa hR D1 ?_|refine Aa hV D1 ?_|refine Aa hW D1 ?_|refine A6 hB M5 ?_|refine zF ?_|exact zE))
 ·have hput:=hm.put hw
  rw[hw] at hM hR hV hW
  have hM:Ab Tryz.prog 16 [diA k] (fun r=>r= .tup [A4 0 5 (isE k),iv 0]):=hM
  have hR:Ab Tryz.prog 17 [diA k] (fun r=>r= .tup [A4 0 5 (isE k),iv 0]):=hR
  have hP:=sU (isE k) (by omega)
  rw[hput] at hP
  have hP:Ab Tryz.prog 20 [.d (Ag false (isE k))] (fun r=>r= .tup [isQ k,erA 0 0]):=hP
  have hC:=oG k k hq hq
  rw[decide_eq_true rfl] at hC
  have hB:=C5 false false (isE k) (isE k) (by omega) (by omega)
  rw[beq_self_eq_true] at hB
  generalize isE k=e at hM hR hP hB
  refine acQ 75 Tryz.func4 rfl rfl fun _ _ _=> ?_
  (repeat'((conv=>whnf);first|refine Ac ?_|refine Ae ?_|refine Aa hA rfl ?_|refine Aa hF D1 ?_|refine Aa hM D1 ?_|refine Aa hR D1 ?_|refine Aa hV D1 ?_|refine Aa hW D1 ?_|refine Aa hP D1 ?_|refine Aa hC D1 ?_|refine Aa hB D1 ?_|refine An (Qk rfl rfl (ltN rfl) rfl rfl) ?_|refine zF ?_|exact zE))
end Go.Proofs.YtjakkpcpommojaaGreatDoor
