/- ND: the texts Plj, one behind the other. No condition but what each lemma says. -/
import Derived.Test.YtaoahmplnckhpaaGreatDoorNB
namespace Go.Proofs.YtaoahmplnckhpaaGreatDoor
open Go.RowKit
set_option maxRecDepth 100000
set_option maxHeartbeats 16000000
def flP (n:Nat) (b:Bool):List (List UInt8):=if b=true then [Ao 2 n false [255]] else []
def W6 (x:Iss):List (List UInt8):=(if x.f≠[]∨x.r≠[] then [Ao 2 0 true (nmC x.f x.r)] else [])++(flP 1 x.u++(flP 2 x.c++((if x.s≠0 then [Ao 2 3 false (Hj x.s.toNat)] else [])++(flP 4 x.n++flP 5 x.a))))
theorem W7 (x:Iss):vsB (Mj x)=W6 x:=by
 unfold Mj W6 flP
 rw[Ed,Ed,Ed,Ed,Ed,Gx,Gx,Gx,Gx,Gx,Gx]
 rfl
theorem Ow {p:Prop} (h:p:=by first|rfl|(simp only[AV.gives,AV.ren,AV.give,D.un,D.uns,Ai,Am,List.nil_append,List.append_nil,List.cons_append,AV.share,AV.shares,At,A5,Cm,Bm,A4,Cf,Ck,Cn,Bp,C7,Be];first|done|rfl)):p:=h
theorem nC (x:Iss) (h:x.sm) (hs:Ny x.s):Ac Tryz.prog 21 [diA x] (fun q=>q=Oq (isW x) (isE x)):=by
 have hV:=Us x h.m hs
 cases hw:isW x
 ·rw[hw] at hV
  show Ac _ _ _ (fun q=>q= .tup [Bj,iv 8])
  refine acQ 46 Tryz.func21 rfl rfl fun _ _ _=> ?_
  (repeat'((conv=>whnf);first|refine Ab ?_|refine Aa hV Ow ?_|exact zE))
 rw[hw] at hV
 show Ac _ _ _ (fun q=>q= .tup [Cg 0 5 (isE x),iv 0])
 obtain⟨w1,w2,w3,-⟩:=Nx.1 hw
 have hl:=eO h.m h.f
 have hr:(E1 x.r).length≤90000000:=h.m.r.e
 have hf:=h.f
 have hpl:∀b n,(flP n b).length≤1:=fun b n=>by unfold flP;split<;>simp
 have hS:=P1 (W6 x) (by rw[←W7];omega) (by
  have a1:=hpl x.u 1
  have a2:=hpl x.c 2
  have a3:=hpl x.n 4
  have a4:=hpl x.a 5
  unfold W6
  simp only[Aj]
  split<;>split<;>simp only[Ag,List.length_nil]<;>omega)
 have eS:Ao 0 16 true (W6 x).flatten=isE x:=by rw[←W7];rfl
 rw[eS] at hS
 have hE:=N0 x.f x.r h.m.f.n (by have:=h.m.r.l;omega)
 have hN:=Uq x.f x.r h.m.f h.m.r w1
 have hB:=Uo x.s.toNat (by unfold rsW at w2;omega)
 have hq:=I2 x.s.toNat
 have hW3:=Dk 2 3 false (Hj x.s.toNat) (by omega) (by omega) (by omega)
 have hb:=W2
 have hF:=fun n (hn:n≤30)=>Dk 2 n false [255] (by omega) hn (by simp)
 have hF1:=hF 1 (by omega)
 have hF2:=hF 2 (by omega)
 have hF4:=hF 4 (by omega)
 have hF5:=hF 5 (by omega)
 unfold W6 flP at hS
 generalize isE x=R at hS⊢
 clear hw eS hl hr hF hpl
 obtain⟨f,r,u,c,n,a,s⟩:=x
 unfold Pi at w3
 simp only at*
 clear h hs
 obtain⟨k,rfl⟩:=Int.eq_ofNat_of_zero_le w2.1
 rw[Int.toNat_natCast] at*
 have hk:(Ib f r=true∧¬(f≠[]∨r≠[]))∨(Ib f r=false∧(f≠[]∨r≠[])):=by
  cases e:Ib f r
  ·exact .inr ⟨rfl,Ft.1 e⟩
  ·refine .inl ⟨rfl,fun h=> ?_⟩
   rw[Ft.2 h] at e;cases e
 have hn0:(k=0∧((k:Int) !=0)=false∧¬((k:Int)≠0))∨(((k:Int) !=0)=true∧(k:Int)≠0):=by
  by_cases h:k=0
  ·exact .inl ⟨h,by rw[h];rfl,by omega⟩
  ·exact .inr ⟨by rw[bne_iff_ne];omega,by omega⟩
 generalize Hj k=sl at hB hW3 hS hq
 generalize Ao 2 3 false sl=p3 at hW3 hS
 generalize nmC f r=nc at hN hS
 generalize Ao 2 0 true nc=p0 at hN hS
 generalize Ao 2 1 false [255]=p1 at hF1 hS
 generalize Ao 2 2 false [255]=p2 at hF2 hS
 generalize Ao 2 4 false [255]=p4 at hF4 hS
 generalize Ao 2 5 false [255]=p5 at hF5 hS
 clear hq
 have ho:(u=false∧c=false)∨(u=false∧c=true∧a=false)∨(u=true∧c=false∧a=false):=by
  cases u<;>cases c<;>cases a<;>simp at w3⊢
 clear w3
 rcases hk with⟨em,e0⟩|⟨em,e0⟩
 all_goals
  rw[em] at hE
  first|rw[if_neg e0] at hS|(rw[if_pos e0] at hS;have hN:=hN e0 hf)
 all_goals rcases hn0 with⟨rfl,gn,n0⟩|⟨gn,n0⟩
 all_goals first|rw[if_neg n0] at hS|rw[if_pos n0] at hS
 all_goals rcases ho with⟨rfl,rfl⟩|⟨rfl,rfl,rfl⟩|⟨rfl,rfl,rfl⟩
 all_goals try cases a
 all_goals cases n
 all_goals
  simp only[List.nil_append,List.cons_append,List.append_nil,if_true,if_false,Bool.false_eq_true] at hS
  refine acQ 46 Tryz.func21 rfl rfl fun _ _ _=> ?_
  (repeat'((conv=>whnf);first|refine zP ?_|refine zN ?_|refine Ab ?_|refine Ae ?_|refine Aa hV Ow ?_|refine Aa hE Ow ?_|refine Aa hN Ow ?_|(refine NStep.inl 200 32 _ Hq mixed rfl rfl rfl Tryz.func46 rfl (by kernel_rfl) rfl rfl rfl rfl (fun gh=> ?_))|(refine NStep.inl 300 25 _ Hq mixed rfl rfl rfl Tryz.func44 rfl (by kernel_rfl) rfl rfl rfl rfl (fun gh=> ?_))|(refine NStep.inl 400 20 _ Hq mixed rfl rfl rfl Tryz.func50 rfl (by kernel_rfl) rfl rfl rfl rfl (fun gh=> ?_))|(refine Ly 240 13 #[] Hq mixed rfl rfl rfl rfl Tryz.func55 rfl (by kernel_rfl) rfl rfl rfl rfl (fun gh=> ?_))|refine Aa hb rfl ?_|refine Aa hF1 rfl ?_|refine Aa hF2 rfl ?_|refine Aa hF4 rfl ?_|refine Aa hF5 rfl ?_|refine Aa hB rfl ?_|refine Aa hW3 Ow ?_|refine A9 (Zi 0 rfl rfl rfl (ltN rfl) rfl rfl) ?_|refine A9 (Su rfl rfl (ltN rfl) rfl) ?_|(refine Ja 1 _ ?_)|(refine Ja 2 _ ?_)|(refine Ja 3 _ ?_)|(refine Ja 4 _ ?_)|refine Aa hS Ow ?_|refine Bc hS Pm ?_|exact zE))
end Go.Proofs.YtaoahmplnckhpaaGreatDoor
