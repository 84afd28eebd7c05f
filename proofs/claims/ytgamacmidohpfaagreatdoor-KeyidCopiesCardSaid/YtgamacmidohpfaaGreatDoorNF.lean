/- NF: the texts LawYM, one behind the other. No condition but what each lemma says. -/
import Derived.Test.YtgamacmidohpfaaGreatDoorNE
import Derived.Test.YtgamacmidohpfaaGreatDoorNM
namespace Go.Proofs.YtgamacmidohpfaaGreatDoor
open Go.RowKit
set_option maxRecDepth 100000
set_option maxHeartbeats 8000000
theorem cL {p:Prop} (h:p:=by first|rfl|(simp only[AV.gives,AV.ren,AV.give,D.un,D.uns,Al,Ak,List.nil_append,List.append_nil,List.cons_append,AV.frz,AV.frzs,As,A0,Bb,A5,A2,Ba,Bi,Dn,Cq,C9,Cl,Pp,Pm];first|done|rfl)):p:=h
theorem Ww (k:Kd) (h:k.mid) (hl:(kdE k).length≤400000):Ab Tryz.prog 14 [kdA k] (fun r=>r=Qk (kdW k) (kdE k)):=by
 have hV:=Wv k h
 have hd:=h.d
 have hs:=h.s
 cases hw:kdW k
 ·rw[hw] at hV
  refine acQ 58 Tryz.func14 rfl rfl fun _ _ _=> ?_
  (repeat'((conv=>whnf);first|refine Ac ?_|refine Aa hV cL ?_|exact zE))
 rw[hw] at hV
 show Ab _ _ _ (fun r=>r= .tup [Be 0 5 (kdE k),iv 0])
 by_cases i0:k.iss=[]
 ·cases hh:k.has
  ·have e:kdE k=Ai 0 16 true []:=by
    unfold kdE kdP
    rw[hh,if_neg (by simp),if_pos i0];rfl
   rw[e]
   have hS:=I0 [] (by simp) (by simp)
   have hS:Ab Tryz.prog 31 [.d (C7 [])] (fun r=>r= .tup [Be 0 5 (Ai 0 16 true []),iv 0]):=hS
   obtain⟨has,id,iss,ser⟩:=k
   simp only at i0 hh
   subst i0 hh
   refine acQ 58 Tryz.func14 rfl rfl fun _ _ _=> ?_
   (repeat'((conv=>whnf);first|refine Af ?_|refine Aa hV cL ?_|refine Bj hS U6 ?_|exact zE))
  ·have hM:=Wk k hh i0 (by omega) hV
   have e:kdE k=Ai 0 16 true (Ai 2 0 false k.id):=by
    unfold kdE kdP
    rw[hh,if_pos rfl,if_pos i0];simp
   rwa[e]
 ·have hwi:=(Hx.1 hw).2
  have hg:=(hwi.resolve_left fun e=>i0 e.1).2.1
  have hL:=gE k.iss h.i
  rw[show Kc k.iss=true by rw[AI i0];exact hg] at hL
  exact Wm k (Cg k.iss) i0 (by omega) (by have:=vN k hw;have:=Dh 0 16 true (kdP k (Cg k.iss)).flatten;have e:(kdE k).length=(Ai 0 16 true (kdP k (Cg k.iss)).flatten).length:=rfl;omega) (by omega) hV hL
theorem kB (k:Kd):0<(kdE k).length:=by have h:=Dh 0 16 true (kdP k (Cg k.iss)).flatten;have:(kdE k).length=(Ai 0 16 true (kdP k (Cg k.iss)).flatten).length:=rfl;omega
theorem Kd.mid.q {k:Kd} (h:k.mid):k.eqs:=⟨by have:=h.d;omega,by have:=h.s;omega,⟨h.i.n,fun g hg=>(h.i.m g hg).s.z.q⟩⟩
theorem BF:kd0.eqs:=⟨by simp[kd0],by simp[kd0],⟨by simp[kd0],fun p hp=>by cases hp⟩⟩
end Go.Proofs.YtgamacmidohpfaaGreatDoor
