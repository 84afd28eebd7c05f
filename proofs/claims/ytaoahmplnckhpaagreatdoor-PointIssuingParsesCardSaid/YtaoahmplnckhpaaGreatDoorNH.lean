/- NH: the texts Prq, one behind the other. No condition but what each lemma says. -/
import Derived.Test.YtaoahmplnckhpaaGreatDoorNG
namespace Go.Proofs.YtaoahmplnckhpaaGreatDoor
open Go.RowKit
set_option maxRecDepth 100000
set_option maxHeartbeats 16000000
theorem iA {x:Iss} (h:nmZZ x.f x.r):(M3 x).flatten.length≤300000000∧(M3 x).length≤6:=by
 have a:=gX h
 have c:=Ez x.s.toNat
 have e1:=Ar 2 0 true (nmC x.f x.r) (by omega)
 have e2:=Ar 2 3 false (C9 x.s.toNat) (by omega)
 have f1:=@Zb (x.f≠[]∨x.r≠[]) _ (Ah 2 0 true (nmC x.f x.r))
 have f2:=@Zb (x.s≠0) _ (Ah 2 3 false (C9 x.s.toNat))
 have g:∀n b,(flP n b).flatten.length≤10∧(flP n b).length≤1:=fun n b=>by
  have f:=@Zb (b=true) _ (Ah 2 n false [255])
  have e:=Ar 2 n false [255] (by simp)
  have e1:([255]:List UInt8).length=1:=rfl
  unfold flP;omega
 have g1:=g 1 x.u
 have g2:=g 2 x.c
 have g4:=g 4 x.n
 have g5:=g 5 x.a
 unfold M3
 simp only[List.flatten_append,Ak]
 omega
theorem bW (w:List UInt8) (b:Bool):(b=false∧plO (if b=true then [w] else [])=A3)∨(b=true∧plO (if b=true then [w] else [])=Bw 0 1 33 Du [w]):=by
 cases b
 ·exact .inl ⟨rfl,rfl⟩
 ·exact .inr ⟨rfl,rfl⟩
theorem bX {p:Prop} (h:p:=by first|rfl|(simp only[AV.gives,AV.ren,AV.give,D.un,D.uns,Aj,Am,List.nil_append,List.append_nil,List.cons_append,AV.frz,AV.frzs,Do,Fp,I4,Du,List.flatMap_cons,List.flatMap_nil,Ag,List.length_nil,D.uns_app,Cc,Bn,A8,B5,Cj,B6,Bk,Bw,Bd];first|done|rfl)):p:=h
theorem BS (x:Iss) (h:nmZZ x.f x.r):Ab Tryz.prog 54 [diA x] (fun q=>q=O8 (isW x) (isE x)):=by
 have hV:=BQ x h
 cases hw:isW x
 ·rw[hw] at hV
  show Ab _ _ _ (fun q=>q= .tup [A3,iv 8])
  refine acQ 39 Tryz.func54 rfl rfl fun _ _ _=> ?_
  (repeat'((conv=>whnf);first|refine Ac ?_|refine Aa hV bX ?_|exact zE))
 rw[hw] at hV
 show Ab _ _ _ (fun q=>q= .tup [A7 0 5 (isE x),iv 0])
 obtain⟨w1,w2,w3,-⟩:=Lt.1 hw
 obtain⟨l1,l2⟩:=iA h
 have hS:=Fv 48 (M3 x) (by omega) (by omega)
 have eS:J3 48 (M3 x).flatten=isE x:=by rw[←Q5];rfl
 rw[eS] at hS
 have hN:=Za x.f x.r h.f h.r w1
 have hB:=gW 3 x.s.toNat 131 (by unfold rsW at w2;omega) rfl
 have h1:=Nt 129 x.u
 have h2:=Nt 130 x.c
 have h4:=Nt 132 x.n
 have h5:=Nt 133 x.a
 have k1:=bW [129,1,255] x.u
 have k2:=bW [130,1,255] x.c
 have k4:=bW [132,1,255] x.n
 have k5:=bW [133,1,255] x.a
 have q1:Ah 2 1 false [255]=[129,1,255]:=by rw[Df _ _ _ _ (by decide)];decide
 have q2:Ah 2 2 false [255]=[130,1,255]:=by rw[Df _ _ _ _ (by decide)];decide
 have q4:Ah 2 4 false [255]=[132,1,255]:=by rw[Df _ _ _ _ (by decide)];decide
 have q5:Ah 2 5 false [255]=[133,1,255]:=by rw[Df _ _ _ _ (by decide)];decide
 unfold M3 flP at hS
 rw[q1,q2,q4,q5] at hS
 clear q1 q2 q4 q5
 generalize isE x=R at hS⊢
 clear hw eS l1 l2
 obtain⟨f,r,u,c,n,a,s⟩:=x
 unfold Qx at w3
 simp only at*
 clear h
 obtain⟨k,rfl⟩:=Int.eq_ofNat_of_zero_le w2.1
 rw[Int.toNat_natCast] at*
 have hk:=@BN f r
 have hn0:=@BO 3 k
 generalize plO (Xp f r)=N at hN hk
 generalize plO (rsP 3 k)=B at hB hn0
 generalize plO (if u=true then [[129,1,255]] else [])=F1 at h1 k1
 generalize plO (if c=true then [[130,1,255]] else [])=F2 at h2 k2
 generalize plO (if n=true then [[132,1,255]] else [])=F4 at h4 k4
 generalize plO (if a=true then [[133,1,255]] else [])=F5 at h5 k5
 generalize Ah 2 3 false (C9 k)=p3 at hn0 hS
 generalize Ah 2 0 true (nmC f r)=p0 at hk hS
 generalize ([129,1,255]:List UInt8)=p1 at k1 hS
 generalize ([130,1,255]:List UInt8)=p2 at k2 hS
 generalize ([132,1,255]:List UInt8)=p4 at k4 hS
 generalize ([133,1,255]:List UInt8)=p5 at k5 hS
 have ho:(u=false∧c=false)∨(u=false∧c=true∧a=false)∨(u=true∧c=false∧a=false):=by
  cases u<;>cases c<;>cases a<;>simp at w3⊢
 clear w3
 rcases hk with⟨e0,rfl⟩|⟨e0,rfl⟩
 all_goals first|rw[if_neg e0] at hS|rw[if_pos e0] at hS
 all_goals rcases hn0 with⟨n0,rfl⟩|⟨n0,rfl⟩
 all_goals first|rw[if_neg n0] at hS|rw[if_pos n0] at hS
 all_goals rcases ho with⟨rfl,rfl⟩|⟨rfl,rfl,rfl⟩|⟨rfl,rfl,rfl⟩
 all_goals rcases k1 with⟨z1,rfl⟩|⟨z1,rfl⟩
 all_goals try cases z1
 all_goals rcases k2 with⟨z2,rfl⟩|⟨z2,rfl⟩
 all_goals try cases z2
 all_goals rcases k5 with⟨z5,rfl⟩|⟨z5,rfl⟩
 all_goals try cases z5
 all_goals rcases k4 with⟨rfl,rfl⟩|⟨rfl,rfl⟩
 all_goals
  simp only[List.nil_append,List.cons_append,List.append_nil,if_true,if_false,Bool.false_eq_true] at hS
  refine acQ 39 Tryz.func54 rfl rfl fun _ _ _=> ?_
  (repeat'((conv=>whnf);first|refine Ae ?_|refine Aa hV bX ?_|refine Aa hN bX ?_|refine Aa hB rfl ?_|refine Aa h1 rfl ?_|refine Aa h2 rfl ?_|refine Aa h4 rfl ?_|refine Aa h5 rfl ?_|(refine E2 0 _ ?_)|(refine E2 1 _ ?_)|(refine E2 2 _ ?_)|(refine E2 3 _ ?_)|(refine E2 4 _ ?_)|refine Aa hS bX ?_|refine zF ?_|exact zE))
end Go.Proofs.YtaoahmplnckhpaaGreatDoor
