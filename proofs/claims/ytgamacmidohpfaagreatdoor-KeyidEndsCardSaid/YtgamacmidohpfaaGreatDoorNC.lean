/- NC: the text LawYM. No condition but what each lemma says. -/
import Derived.Test.YtgamacmidohpfaaGreatDoorNI
import Derived.Test.YtgamacmidohpfaaGreatDoorNA
set_option maxRecDepth 100000
set_option maxHeartbeats 16000000
namespace Go.Proofs.YtgamacmidohpfaaGreatDoor
open Go.RowKit
theorem Bb {p:Prop} (h:p:=by first|rfl|(simp only[AV.gives,AV.ren,AV.give,D.un,D.uns,Ag,Af,List.nil_append,List.append_nil,List.cons_append,AV.frz,AV.frzs,Ai,Al,As,Aq,An,Ar,Ax,Ck,Bq,Ce,Bg,J9,J8];first|done|rfl)):p:=h
theorem Jo (k:Kd) (h:k.mid) (hl:(kdE k).length≤400000):Aa Tryz.prog 14 [kdA k] (fun r=>r=P0 (kdW k) (kdE k)):=by
 have hV:=Jm k h
 have hd:=h.d
 have hs:=h.s
 cases hw:kdW k
 ·rw[hw] at hV
  refine acQ 58 Tryz.func14 rfl rfl fun _ _ _=> ?_
  (repeat'((conv=>whnf);first|refine NBr.yes ?_|refine NCall.eq hV Bb ?_));(all_goals(conv=>whnf))
  all_goals exact NEnd.eq leQ
 rw[hw] at hV
 show Aa _ _ _ (fun r=>r= .tup [Au 0 5 (kdE k),iv 0])
 by_cases i0:k.iss=[]
 ·cases hh:k.has
  ·have e:kdE k=Ae 0 16 true []:=by
    unfold kdE kdP
    rw[hh,if_neg (by simp),if_pos i0];rfl
   rw[e]
   have hS:=H5 [] (by simp) (by simp)
   have hS:Aa Tryz.prog 31 [.d (Cg [])] (fun r=>r= .tup [Au 0 5 (Ae 0 16 true []),iv 0]):=hS
   obtain⟨has,id,iss,ser⟩:=k
   simp only at i0 hh
   subst i0 hh
   refine acQ 58 Tryz.func14 rfl rfl fun _ _ _=> ?_
   (repeat'((conv=>whnf);first|refine NBr.no ?_|refine NCall.eq hV Bb ?_|refine NCall.le hS Ux ?_));(all_goals(conv=>whnf))
   all_goals exact NEnd.eq leQ
  ·have hM:=V7 k hh i0 (by omega) hV
   have e:kdE k=Ae 0 16 true (Ae 2 0 false k.id):=by
    unfold kdE kdP
    rw[hh,if_pos rfl,if_pos i0];simp
   rwa[e]
 ·have hwi:=(G7.1 hw).2
  have hg:=(hwi.resolve_left fun e=>i0 e.1).2.1
  have hL:=gH k.iss h.i
  rw[show Jl k.iss=true by rw[AH i0];exact hg] at hL
  exact V9 k (Bc k.iss) i0 (by omega) (by have:=vQ k hw;have:=Cm 0 16 true (kdP k (Bc k.iss)).flatten;have e:(kdE k).length=(Ae 0 16 true (kdP k (Bc k.iss)).flatten).length:=rfl;omega) (by omega) hV hL
theorem AQ (k:Kd) (h:k.okk):Aa Tryz.prog 4 [kdA k] (fun r=>r=bv true):=by
 have hA:=Oq
 have hF:=Kb k ⟨h.d,h.i,h.s⟩
 cases hf:O4 k
 ·rw[hf] at hF
  refine acQ 75 Tryz.func4 rfl rfl fun _ _ _=> ?_
  (repeat'((conv=>whnf);first|refine NBr.yes ?_|refine NBr.no ?_|refine NCall.eq hA rfl ?_|refine NCall.eq hF Bb ?_));(all_goals(conv=>whnf))
  all_goals exact NEnd.eq leQ
 rw[hf] at hF
 obtain⟨hm,hz,hl,hq⟩:=Rz hf
 have hM:=Jo k hm (by omega)
 have hR:=cJ k hz
 have hV:=Jm k hm
 have hW:=O5 k hz
 cases hw:kdW k
 ·rw[hw] at hM hR hV hW
  have hM:Aa Tryz.prog 14 [kdA k] (fun r=>r= .tup [Av,iv 8]):=hM
  have hR:Aa Tryz.prog 15 [kdA k] (fun r=>r= .tup [Av,iv 8]):=hR
  have hB:=A7 false false [] [] (by simp) (by simp)
  rw[beq_self_eq_true] at hB
  refine acQ 75 Tryz.func4 rfl rfl fun _ _ _=> ?_
  (repeat'((conv=>whnf);first|refine NBr.yes ?_|refine NBr.no ?_|refine NCall.eq hA rfl ?_|refine NCall.eq hF Bb ?_|refine NCall.eq hM Bb ?_|refine NCall.eq hR Bb ?_|refine NCall.eq hV Bb ?_|refine NCall.eq hW Bb ?_|refine NCall.le hB Ux ?_|refine NFact.go ⟨by decide+kernel,by kernel_rfl⟩ ?_));(all_goals(conv=>whnf))
  all_goals exact NEnd.eq leQ
 ·rw[hw] at hM hR hV hW
  have hM:Aa Tryz.prog 14 [kdA k] (fun r=>r= .tup [Au 0 5 (kdE k),iv 0]):=hM
  have hR:Aa Tryz.prog 15 [kdA k] (fun r=>r= .tup [Au 0 5 (kdE k),iv 0]):=hR
  have hP:=Jn (kdE k) (by omega)
  rw[P4 hw hm] at hP
  have hP:Aa Tryz.prog 18 [.d (Ac false (kdE k))] (fun r=>r= .tup [kdQ k,erA 0 0]):=hP
  have hC:=Uq k k hq hq
  rw[decide_eq_true rfl] at hC
  have hB:=A7 false false (kdE k) (kdE k) (by omega) (by omega)
  rw[beq_self_eq_true] at hB
  generalize kdE k=e at hM hR hP hB
  refine acQ 75 Tryz.func4 rfl rfl fun _ _ _=> ?_
  (repeat'((conv=>whnf);first|refine NBr.yes ?_|refine NBr.no ?_|refine NCall.eq hA rfl ?_|refine NCall.eq hF Bb ?_|refine NCall.eq hM Bb ?_|refine NCall.eq hR Bb ?_|refine NCall.eq hV Bb ?_|refine NCall.eq hW Bb ?_|refine NCall.eq hP Bb ?_|refine NCall.eq hC Bb ?_|refine NCall.eq hB Bb ?_|refine NStep.go (mP rfl rfl (ltN rfl) rfl rfl) ?_|refine NFact.go ⟨by decide+kernel,by kernel_rfl⟩ ?_));(all_goals(conv=>whnf))
  all_goals exact NEnd.eq leQ
theorem kF (k:Kd):0<(kdE k).length:=by have h:=Cm 0 16 true (kdP k (Bc k.iss)).flatten;have:(kdE k).length=(Ae 0 16 true (kdP k (Bc k.iss)).flatten).length:=rfl;omega
theorem Kd.mid.q {k:Kd} (h:k.mid):k.eqs:=⟨by have:=h.d;omega,by have:=h.s;omega,⟨h.i.n,fun g hg=>(h.i.m g hg).s.z.q⟩⟩
theorem kG:kd0.eqs:=⟨by simp[kd0],by simp[kd0],⟨by simp[kd0],fun p hp=>by cases hp⟩⟩
end Go.Proofs.YtgamacmidohpfaaGreatDoor
