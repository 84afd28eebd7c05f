/- NG: the texts Prp Prr, one behind the other. No condition but what each lemma says. -/
import Derived.Test.YtjakkpcpommojaaGreatDoorNE
import Derived.Test.YtjakkpcpommojaaGreatDoorNB
import Derived.Test.YtjakkpcpommojaaGreatDoorMS
namespace Go.Proofs.YtjakkpcpommojaaGreatDoor
open Go.RowKit
set_option maxRecDepth 100000
set_option maxHeartbeats 16000000
theorem fJ {f:List Gn} {r:List Att} (h:nmZZ f r):(nmC f r).length≤90000006:=by
 have a:(Br f).length≤90000000:=h.f.e
 have b:(Dy r).length≤90000000:=h.r.e
 have e1:=Aq 2 1 true (Dy r) (by omega)
 have e2:=Aq 2 0 true (Br f) (by omega)
 unfold nmC
 split<;>omega
theorem X4 {c:Prop} [Decidable c] {w:List UInt8}:(if c then [w] else []).flatten.length≤w.length∧(if c then [w] else []).length≤1:=by
 split<;>simp
theorem AF {p:Pt} (h:p.z):(L8 p).flatten.length≤300000000∧(L8 p).length≤3:=by
 have a:=fJ h.m
 have b:(Br p.i).length≤90000000:=h.i.e
 have c:=Gt p.s.toNat
 have e1:=Aq 2 0 true (nmC p.f p.r) (by omega)
 have e2:=Aq 2 1 false (Dx p.s.toNat) (by omega)
 have e3:=Aq 2 2 true (Br p.i) (by omega)
 have f1:=@X4 (p.f≠[]∨p.r≠[]) _ (Ah 2 0 true (nmC p.f p.r))
 have f2:=@X4 (p.s≠0) _ (Ah 2 1 false (Dx p.s.toNat))
 have f3:=@X4 (p.i≠[]) _ (Ah 2 2 true (Br p.i))
 unfold L8
 simp only[List.flatten_append,List.length_append]
 omega
theorem AG {f:List Gn} {r:List Att}:(¬(f≠[]∨r≠[])∧plO (Wg f r)=Ax)∨((f≠[]∨r≠[])∧plO (Wg f r)=Bx 0 1 29 Ct [Ah 2 0 true (nmC f r)]):=by
 unfold Wg
 by_cases h:f≠[]∨r≠[]
 ·rw[if_pos h];exact .inr ⟨h,rfl⟩
 ·rw[if_neg h];exact .inl ⟨h,rfl⟩
theorem AH (n:Nat) {s:Nat}:(¬((s:Int)≠0)∧plO (rsP n s)=Ax)∨(((s:Int)≠0)∧plO (rsP n s)=Bx 0 1 29 Ct [Ah 2 n false (Dx s)]):=by
 unfold rsP
 by_cases h:(s:Int)≠0
 ·rw[if_pos h];exact .inr ⟨h,rfl⟩
 ·rw[if_neg h];exact .inl ⟨h,rfl⟩
theorem Q6 {p:Prop} (h:p:=by first|rfl|(simp only[AV.gives,AV.ren,AV.give,D.un,D.uns,Aj,Ak,List.nil_append,List.append_nil,List.cons_append,AV.frz,AV.frzs,Ap,A0,Bk,A7,Ay,Bj,Bs,Bg,A9,Bx,A5];first|done|rfl)):p:=h
theorem fK (p:Pt) (h:p.z):Ab Tryz.prog 9 [dpA p] (fun q=>q=L6 (ptW p) (ptE p)):=by
 have hV:=Vs p h
 cases hw:ptW p
 ·rw[hw] at hV
  show Ab _ _ _ (fun q=>q= .tup [Ax,iv 8])
  refine acQ 29 Tryz.func9 rfl rfl fun _ _ _=> ?_
  (repeat'((conv=>whnf);first|refine Ac ?_|refine Aa hV Q6 ?_|exact zE))
 rw[hw] at hV
 show Ab _ _ _ (fun q=>q= .tup [A4 0 5 (ptE p),iv 0])
 obtain⟨w1,w2,w3,-⟩:=Pw.1 hw
 obtain⟨l1,l2⟩:=AF h
 have hS:=Et 48 (L8 p) (by omega) (by omega)
 have eS:Iz 48 (L8 p).flatten=ptE p:=by rw[←Ss];rfl
 rw[eS] at hS
 have hN:=X3 p.f p.r h.m.f h.m.r w1
 have hB:=fI 1 p.s.toNat 129 (by unfold rsW at w2;omega) rfl
 have hT:p.i.all gnW=true→Ab Tryz.prog 41 [cv 162,.d (E4 p.i)] (fun r=>r=A4 0 5 (Ah 2 2 true (Br p.i))):=eW 162 p.i h.i
 have hin:=h.i.n
 unfold L8 at hS
 generalize ptE p=R at hS⊢
 clear hw eS l1 l2
 obtain⟨f,r,s,i⟩:=p
 simp only at*
 clear h
 obtain⟨n,rfl⟩:=Int.eq_ofNat_of_zero_le w2.1
 rw[Int.toNat_natCast] at*
 have hk:=@AG f r
 have hn0:=@AH 1 n
 have hi0:(i=[]∧¬(i≠[]))∨(i≠[]∧decide ((i.length:Int)>0)=true∧i.all gnW=true):=by
  by_cases h:i=[]
  ·exact .inl ⟨h,fun a=>a h⟩
  ·exact .inr ⟨h,Pz h,w3.resolve_left h⟩
 generalize plO (Wg f r)=N at hN hk
 generalize plO (rsP 1 n)=B at hB hn0
 generalize Ah 2 1 false (Dx n)=p1 at hn0 hS
 generalize Ah 2 0 true (nmC f r)=p0 at hk hS
 generalize Ah 2 2 true (Br i)=p2 at hT hS
 rcases hi0 with⟨rfl,i1⟩|⟨i1,gi,gw⟩
 all_goals rcases hk with⟨e0,rfl⟩|⟨e0,rfl⟩
 all_goals rcases hn0 with⟨n0,rfl⟩|⟨n0,rfl⟩
 all_goals
  first|rw[if_neg i1] at hS|(rw[if_pos i1] at hS;have hT:=hT gw)
  first|rw[if_neg e0] at hS|rw[if_pos e0] at hS
  first|rw[if_neg n0] at hS|rw[if_pos n0] at hS
  simp only[List.nil_append,List.cons_append,List.append_nil] at hS
  refine acQ 29 Tryz.func9 rfl rfl fun _ _ _=> ?_
  (repeat'((conv=>whnf);first|refine zP ?_|refine Ae ?_|refine Aa hV Q6 ?_|refine Aa hN Q6 ?_|refine Aa hB rfl ?_|refine Aa hT Q6 ?_|(refine NApp.tab Ct (l:=[p0]) (m:=[p1]) rfl rfl ?_)|(refine NApp.tab Ct (l:=[p0]) (m:=[]) rfl rfl ?_)|(refine NApp.tab0 Ct (m:=[p1]) rfl rfl ?_)|(refine NApp.tab0 Ct (m:=[]) rfl rfl ?_)|refine A3 Ct p2 ?_|refine Aa hS Q6 ?_|refine zF ?_|exact zE))
theorem FF (x:Iss):isW x=(FC x.u x.c x.a&&(!decide (x=is0)&&plV x.f x.r x.s)):=by
 have hz:x=is0↔¬Rv x:=by
  obtain⟨f,r,u,c,n,a,s⟩:=x
  unfold is0 Rv
  simp only[Iss.mk.injEq]
  cases u<;>cases c<;>cases n<;>cases a<;>simp
 unfold isW plV Ps FC
 obtain⟨f,r,u,c,n,a,s⟩:=x
 simp only at hz⊢
 rw[Bool.eq_iff_iff]
 simp only[decide_eq_true_iff,Bool.and_eq_true,Bool.not_eq_true',decide_eq_false_iff_not,hz,Decidable.not_not]
 cases u<;>cases c<;>cases a<;>simp[and_assoc,and_comm]
theorem FG (x:Iss) (h:nmEq x.f x.r):Ab Tryz.prog 21 [diA x,.agg [.d (E4 []),.d (Fq []),bv false,bv false,bv false,bv false,iv 0]] (fun r=>r=bv (decide (x=is0))):=oG x is0 h ⟨⟨by simp[is0],fun p hp=>by simp[is0] at hp⟩,⟨by simp[is0],fun p hp=>by simp[is0] at hp⟩⟩
theorem nmZZ.q {f:List Gn} {r:List Att} (h:nmZZ f r):nmEq f r:=⟨⟨by have:=h.f.n;omega,fun p hp=>(h.f.z p hp).q⟩,⟨by have:=h.r.l;omega,fun p hp=>⟨by have:=(h.r.a p hp).v;omega⟩⟩⟩
theorem KP {p:Prop} (h:p:=by((try simp only[AV.gives,AV.ren,AV.give,D.un,D.uns,Aj,Ak,List.nil_append,List.append_nil,List.cons_append,AV.frz,AV.frzs,Ap,A0,Bk,A7,Ay,Bj,Bs,Bg,A9,Bx,A5]);(repeat'(first|exact trivial|exact By _|refine And.intro ?_ ?_|exact rfl|exact Or.inr rfl|exact Or.inl rfl|exact Or.inl (by rfl)|omega|refine Or.inr ?_));first|done|fail)):p:=h
theorem fL (x:Iss) (h:nmZZ x.f x.r):Ab Tryz.prog 19 [diA x] (fun q=>q=bv (isW x)):=by
 have hN:=Vr x.f x.r x.s h.f h.r
 have hZ:=FG x h.q
 have n1:=h.f.n
 have n2:=h.r.l
 rw[FF]
 generalize decide (x=is0)=z at hZ⊢
 obtain⟨f,r,u,c,n,a,s⟩:=x
 simp only at hN hZ n1 n2⊢
 clear h
 generalize plV f r s=w at hN⊢
 cases u<;>cases c<;>cases a<;>cases z<;>cases w
 all_goals
  refine acQ 37 Tryz.func19 rfl rfl fun _ _ _=> ?_
  (repeat'((conv=>whnf);first|refine Ac ?_|refine Ae ?_|refine A6 hZ KP ?_|refine Aa hN Q6 ?_|exact zE))

end Go.Proofs.YtjakkpcpommojaaGreatDoor
