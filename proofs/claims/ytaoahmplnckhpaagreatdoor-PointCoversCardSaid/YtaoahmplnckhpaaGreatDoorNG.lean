/- NG: the texts Prp Prr, one behind the other. No condition but what each lemma says. -/
import Derived.Test.YtaoahmplnckhpaaGreatDoorNE
namespace Go.Proofs.YtaoahmplnckhpaaGreatDoor
open Go.RowKit
set_option maxRecDepth 100000
set_option maxHeartbeats 16000000
theorem DD {p:Prop} (h:p:=by first|rfl|(simp only[AV.gives,AV.ren,AV.give,D.un,D.uns,Ai,Am,List.nil_append,List.append_nil,List.cons_append,AV.frz,AV.frzs,At,A5,Cm,Bm,A4,Cf,Ck,Cn,Bp,C7,Be];first|done|rfl)):p:=h
theorem yT (x:Iss):isW x=(yR x.u x.c x.a&&(!decide (x=is0)&&plV x.f x.r x.s)):=by
 have hz:x=is0↔¬Pj x:=by
  obtain⟨f,r,u,c,n,a,s⟩:=x
  unfold is0 Pj
  simp only[Iss.mk.injEq]
  cases u<;>cases c<;>cases n<;>cases a<;>simp
 unfold isW plV Pi yR
 obtain⟨f,r,u,c,n,a,s⟩:=x
 simp only at hz⊢
 rw[Bool.eq_iff_iff]
 simp only[decide_eq_true_iff,Ap,Bool.not_eq_true',decide_eq_false_iff_not,hz,Decidable.not_not]
 cases u<;>cases c<;>cases a<;>simp[and_assoc,and_comm]
theorem yU (x:Iss) (h:nmEq x.f x.r):Ac Tryz.prog 20 [diA x,.agg [.d (Ch []),.d (Dm []),bv false,bv false,bv false,bv false,iv 0]] (fun r=>r=bv (decide (x=is0))):=yS x is0 h ⟨⟨by simp[is0],fun p hp=>by simp[is0] at hp⟩,⟨by simp[is0],fun p hp=>by simp[is0] at hp⟩⟩
theorem nmZZ.q {f:List Gn} {r:List Att} (h:nmZZ f r):nmEq f r:=⟨⟨by have:=h.f.n;omega,fun p hp=>(h.f.z p hp).q⟩,⟨by have:=h.r.l;omega,fun p hp=>⟨by have:=(h.r.a p hp).v;omega⟩⟩⟩
theorem DE {p:Prop} (h:p:=by((try simp only[AV.gives,AV.ren,AV.give,D.un,D.uns,Ai,Am,List.nil_append,List.append_nil,List.cons_append,AV.frz,AV.frzs,At,A5,Cm,Bm,A4,Cf,Ck,Cn,Bp,C7,Be]);(repeat'(first|exact trivial|exact Cp _|refine And.intro ?_ ?_|exact rfl|exact Or.inr rfl|exact Or.inl rfl|exact Or.inl (by rfl)|omega|refine Or.inr ?_));first|done|fail)):p:=h
theorem uC (x:Iss) (h:nmZZ x.f x.r):Ac Tryz.prog 33 [diA x] (fun q=>q=bv (isW x)):=by
 have hN:=Sx x.f x.r x.s h.f h.r
 have hZ:=yU x h.q
 have n1:=h.f.n
 have n2:=h.r.l
 rw[yT]
 generalize decide (x=is0)=z at hZ⊢
 obtain⟨f,r,u,c,n,a,s⟩:=x
 simp only at hN hZ n1 n2⊢
 clear h
 generalize plV f r s=w at hN⊢
 cases u<;>cases c<;>cases a<;>cases z<;>cases w
 all_goals
  refine acQ 37 Tryz.func33 rfl rfl fun _ _ _=> ?_
  (repeat'((conv=>whnf);first|refine Ab ?_|refine Ae ?_|refine Bc hZ DE ?_|refine Aa hN DD ?_|exact zE))

end Go.Proofs.YtaoahmplnckhpaaGreatDoor
