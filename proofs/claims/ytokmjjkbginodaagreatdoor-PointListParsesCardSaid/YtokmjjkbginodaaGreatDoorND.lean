/- ND: the texts Plj, one behind the other. No condition but what each lemma says. -/
import Derived.Test.YtokmjjkbginodaaGreatDoorNB
namespace Go.Proofs.YtokmjjkbginodaaGreatDoor
open Go.RowKit
set_option maxRecDepth 100000
set_option maxHeartbeats 16000000
def flP (n:Nat) (b:Bool):List (List UInt8):=if b=true then [Ah 2 n false [255]] else []
def cH (x:Iss):List (List UInt8):=(if x.f≠[]∨x.r≠[] then [Ah 2 0 true (nmC x.f x.r)] else [])++(flP 1 x.u++(flP 2 x.c++((if x.s≠0 then [Ah 2 3 false (Dd x.s.toNat)] else [])++(flP 4 x.n++flP 5 x.a))))
theorem cI (x:Iss):vsB (Sc x)=cH x:=by
 unfold Sc cH flP
 rw[Ej,Ej,Ej,Ej,Ej,Iq,Iq,Iq,Iq,Iq,Iq]
 rfl
theorem Sh {p:Prop} (h:p:=by first|rfl|(simp only[AV.gives,AV.ren,AV.give,D.un,D.uns,An,Ao,List.nil_append,List.append_nil,List.cons_append,AV.share,AV.shares,Av,A9,Ca,Bn,Bd,B8,Ck,Bw,Bl,Bx,Bf];first|done|rfl)):p:=h
theorem vE (x:Iss) (h:x.sm) (hs:L2 x.s):Ab Tryz.prog 17 [diA x] (fun q=>q=Oh (isW x) (isE x)):=by
 have hV:=vD x h.m hs
 cases hw:isW x
 ·rw[hw] at hV
  show Ab _ _ _ (fun q=>q= .tup [A4,iv 8])
  refine acQ 46 Tryz.func17 rfl rfl fun _ _ _=> ?_
  (repeat'((conv=>whnf);first|refine Ac ?_|refine Aa hV Sh ?_|exact zE))
 rw[hw] at hV
 show Ab _ _ _ (fun q=>q= .tup [Bb 0 5 (isE x),iv 0])
 obtain⟨w1,w2,w3,-⟩:=cC.1 hw
 have hl:=CX h.m h.f
 have hr:(Dj x.r).length≤90000000:=h.m.r.e
 have hf:=h.f
 have hpl:∀b n,(flP n b).length≤1:=fun b n=>by unfold flP;split<;>simp
 have hS:=Nw (cH x) (by rw[←cI];omega) (by
  have a1:=hpl x.u 1
  have a2:=hpl x.c 2
  have a3:=hpl x.n 4
  have a4:=hpl x.a 5
  unfold cH
  simp only[Ap]
  split<;>split<;>simp only[Ag,List.length_nil]<;>omega)
 have eS:Ah 0 16 true (cH x).flatten=isE x:=by rw[←cI];rfl
 rw[eS] at hS
 have hE:=T7 x.f x.r h.m.f.n (by have:=h.m.r.l;omega)
 have hN:=Zm x.f x.r h.m.f h.m.r w1
 have hB:=Zi x.s.toNat (by unfold rsW at w2;omega)
 have hq:=E1 x.s.toNat
 have hW3:=D3 2 3 false (Dd x.s.toNat) (by omega) (by omega) (by omega)
 have hb:=bW
 have hF:=fun n (hn:n≤30)=>D3 2 n false [255] (by omega) hn (by simp)
 have hF1:=hF 1 (by omega)
 have hF2:=hF 2 (by omega)
 have hF4:=hF 4 (by omega)
 have hF5:=hF 5 (by omega)
 unfold cH flP at hS
 generalize isE x=R at hS⊢
 clear hw eS hl hr hF hpl
 obtain⟨f,r,u,c,n,a,s⟩:=x
 unfold Xc at w3
 simp only at*
 clear h hs
 obtain⟨k,rfl⟩:=Int.eq_ofNat_of_zero_le w2.1
 rw[Int.toNat_natCast] at*
 have hk:(Lh f r=true∧¬(f≠[]∨r≠[]))∨(Lh f r=false∧(f≠[]∨r≠[])):=by
  cases e:Lh f r
  ·exact .inr ⟨rfl,Jk.1 e⟩
  ·refine .inl ⟨rfl,fun h=> ?_⟩
   rw[Jk.2 h] at e;cases e
 have hn0:(k=0∧((k:Int) !=0)=false∧¬((k:Int)≠0))∨(((k:Int) !=0)=true∧(k:Int)≠0):=by
  by_cases h:k=0
  ·exact .inl ⟨h,by rw[h];rfl,by omega⟩
  ·exact .inr ⟨by rw[bne_iff_ne];omega,by omega⟩
 generalize Dd k=sl at hB hW3 hS hq
 generalize Ah 2 3 false sl=p3 at hW3 hS
 generalize nmC f r=nc at hN hS
 generalize Ah 2 0 true nc=p0 at hN hS
 generalize Ah 2 1 false [255]=p1 at hF1 hS
 generalize Ah 2 2 false [255]=p2 at hF2 hS
 generalize Ah 2 4 false [255]=p4 at hF4 hS
 generalize Ah 2 5 false [255]=p5 at hF5 hS
 clear hq
 have ho:(u=false∧c=false)∨(u=false∧c=true∧a=false)∨(u=true∧c=false∧a=false):=by
  cases u<;>cases c<;>cases a<;>simp at w3⊢
 clear w3
 rcases hk with⟨em,e0⟩|⟨em,e0⟩
 all_goals
  rw[em] at hE
  first|rw[if_neg e0] at hS|(rw[if_pos e0] at hS;have hN:=hN e0 hf)
 all_goals rcases hn0 with⟨rfl,gn,n0⟩|⟨gn,n0⟩
 all_goals first|rw[if_neg n0] at hS|rw[if_pos n0] at hS
 all_goals rcases ho with⟨rfl,rfl⟩|⟨rfl,rfl,rfl⟩|⟨rfl,rfl,rfl⟩
 all_goals try cases a
 all_goals cases n
 all_goals
  simp only[List.nil_append,List.cons_append,List.append_nil,if_true,if_false,Bool.false_eq_true] at hS
  refine acQ 46 Tryz.func17 rfl rfl fun _ _ _=> ?_
  (repeat'((conv=>whnf);first|refine zP ?_|refine zN ?_|refine Ac ?_|refine Ae ?_|refine Aa hV Sh ?_|refine Aa hE Sh ?_|refine Aa hN Sh ?_|(refine NStep.inl 200 32 _ C2 mixed rfl rfl rfl Tryz.func23 rfl (by kernel_rfl) rfl rfl rfl rfl (fun gh=> ?_))|(refine NStep.inl 300 25 _ C2 mixed rfl rfl rfl Tryz.func21 rfl (by kernel_rfl) rfl rfl rfl rfl (fun gh=> ?_))|(refine NStep.inl 400 20 _ C2 mixed rfl rfl rfl Tryz.func27 rfl (by kernel_rfl) rfl rfl rfl rfl (fun gh=> ?_))|(refine O6 240 13 #[] C2 mixed rfl rfl rfl rfl Tryz.func39 rfl (by kernel_rfl) rfl rfl rfl rfl (fun gh=> ?_))|refine Aa hb rfl ?_|refine Aa hF1 rfl ?_|refine Aa hF2 rfl ?_|refine Aa hF4 rfl ?_|refine Aa hF5 rfl ?_|refine Aa hB rfl ?_|refine Aa hW3 Sh ?_|refine Aj (Wb 0 rfl rfl rfl (ltN rfl) rfl rfl) ?_|refine Aj (Fy rfl rfl (ltN rfl) rfl) ?_|(refine H3 1 _ ?_)|(refine H3 2 _ ?_)|(refine H3 3 _ ?_)|(refine H3 4 _ ?_)|refine Aa hS Sh ?_|refine Bk hS Mq ?_|exact zE))
end Go.Proofs.YtokmjjkbginodaaGreatDoor
