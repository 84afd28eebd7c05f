/- ND: the texts Plj, one behind the other. No condition but what each lemma says. -/
import Derived.Test.YtgpaehhbdbgeaaaGreatDoorNB
namespace Go.Proofs.YtgpaehhbdbgeaaaGreatDoor
open Go.RowKit
set_option maxRecDepth 100000
set_option maxHeartbeats 16000000
def flP (n:Nat) (b:Bool):List (List UInt8):=if b=true then [Ae 2 n false [255]] else []
def Wa (x:Iss):List (List UInt8):=(if x.f≠[]∨x.r≠[] then [Ae 2 0 true (nmC x.f x.r)] else [])++(flP 1 x.u++(flP 2 x.c++((if x.s≠0 then [Ae 2 3 false (Fl x.s.toNat)] else [])++(flP 4 x.n++flP 5 x.a))))
theorem Wb (x:Iss):vsB (Gx x)=Wa x:=by
 unfold Gx Wa flP
 rw[Ct,Ct,Ct,Ct,Ct,Ge,Ge,Ge,Ge,Ge,Ge]
 rfl
theorem Ny {p:Prop} (h:p:=by first|rfl|(simp only[AV.gives,AV.ren,AV.give,D.un,D.uns,Ag,Ai,List.nil_append,List.append_nil,List.cons_append,AV.share,AV.shares,Al,A3,Bz,Bd,Aw,Bt,Cd,Ce,Bg,Dk,Bk];first|done|rfl)):p:=h
theorem Nz (x:Iss) (h:x.sm) (hs:M3 x.s):Ab Tryz.prog 28 [diA x] (fun q=>q=Ox (isW x) (isE x)):=by
 have hV:=T4 x h.m hs
 cases hw:isW x
 ·rw[hw] at hV
  show Ab _ _ _ (fun q=>q= .tup [Ay,iv 8])
  refine acQ 46 Tryz.func28 rfl rfl fun _ _ _=> ?_
  (repeat'((conv=>whnf);first|refine NBr.yes ?_|refine NCall.eq hV Ny ?_));(all_goals(conv=>whnf))
  all_goals exact NEnd.eq leQ
 rw[hw] at hV
 show Ab _ _ _ (fun q=>q= .tup [B7 0 5 (isE x),iv 0])
 obtain⟨w1,w2,w3,-⟩:=M0.1 hw
 have hl:=cW h.m h.f
 have hr:(D3 x.r).length≤90000000:=h.m.r.e
 have hf:=h.f
 have hpl:∀b n,(flP n b).length≤1:=fun b n=>by unfold flP;split<;>simp
 have hS:=L4 (Wa x) (by rw[←Wb];omega) (by
  have a1:=hpl x.u 1
  have a2:=hpl x.c 2
  have a3:=hpl x.n 4
  have a4:=hpl x.a 5
  unfold Wa
  simp only[List.length_append]
  split<;>split<;>simp only[List.length_cons,List.length_nil]<;>omega)
 have eS:Ae 0 16 true (Wa x).flatten=isE x:=by rw[←Wb];rfl
 rw[eS] at hS
 have hE:=Pk x.f x.r h.m.f.n (by have:=h.m.r.l;omega)
 have hN:=T3 x.f x.r h.m.f h.m.r w1
 have hB:=Ty x.s.toNat (by unfold rsW at w2;omega)
 have hq:=H9 x.s.toNat
 have hW3:=Cj 2 3 false (Fl x.s.toNat) (by omega) (by omega) (by omega)
 have hb:=V2
 have hF:=fun n (hn:n≤30)=>Cj 2 n false [255] (by omega) hn (by simp)
 have hF1:=hF 1 (by omega)
 have hF2:=hF 2 (by omega)
 have hF4:=hF 4 (by omega)
 have hF5:=hF 5 (by omega)
 unfold Wa flP at hS
 generalize isE x=R at hS⊢
 clear hw eS hl hr hF hpl
 obtain⟨f,r,u,c,n,a,s⟩:=x
 unfold R8 at w3
 simp only at*
 clear h hs
 obtain⟨k,rfl⟩:=Int.eq_ofNat_of_zero_le w2.1
 rw[Int.toNat_natCast] at*
 have hk:(Ko f r=true∧¬(f≠[]∨r≠[]))∨(Ko f r=false∧(f≠[]∨r≠[])):=by
  cases e:Ko f r
  ·exact .inr ⟨rfl,Jr.1 e⟩
  ·refine .inl ⟨rfl,fun h=> ?_⟩
   rw[Jr.2 h] at e;cases e
 have hn0:(k=0∧((k:Int) !=0)=false∧¬((k:Int)≠0))∨(((k:Int) !=0)=true∧(k:Int)≠0):=by
  by_cases h:k=0
  ·exact .inl ⟨h,by rw[h];rfl,by omega⟩
  ·exact .inr ⟨by rw[bne_iff_ne];omega,by omega⟩
 generalize Fl k=sl at hB hW3 hS hq
 generalize Ae 2 3 false sl=p3 at hW3 hS
 generalize nmC f r=nc at hN hS
 generalize Ae 2 0 true nc=p0 at hN hS
 generalize Ae 2 1 false [255]=p1 at hF1 hS
 generalize Ae 2 2 false [255]=p2 at hF2 hS
 generalize Ae 2 4 false [255]=p4 at hF4 hS
 generalize Ae 2 5 false [255]=p5 at hF5 hS
 clear hq
 have ho:(u=false∧c=false)∨(u=false∧c=true∧a=false)∨(u=true∧c=false∧a=false):=by
  cases u<;>cases c<;>cases a<;>simp at w3⊢
 clear w3
 rcases hk with⟨em,e0⟩|⟨em,e0⟩
 all_goals
  rw[em] at hE
  first|rw[if_neg e0] at hS|(rw[if_pos e0] at hS;have hN:=hN e0 hf)
 all_goals rcases hn0 with⟨rfl,gn,n0⟩|⟨gn,n0⟩
 all_goals first|rw[if_neg n0] at hS|rw[if_pos n0] at hS
 all_goals rcases ho with⟨rfl,rfl⟩|⟨rfl,rfl,rfl⟩|⟨rfl,rfl,rfl⟩
 all_goals try cases a
 all_goals cases n
 all_goals
  simp only[List.nil_append,List.cons_append,List.append_nil,if_true,if_false,Bool.false_eq_true] at hS
  refine acQ 46 Tryz.func28 rfl rfl fun _ _ _=> ?_
  (repeat'((conv=>whnf);first|refine NBr.pos asQ ?_|refine NBr.neg asQ ?_|refine NBr.yes ?_|refine NBr.no ?_|refine NCall.eq hV Ny ?_|refine NCall.eq hE Ny ?_|refine NCall.eq hN Ny ?_|(refine NStep.inl 200 32 _ Be mixed rfl rfl rfl Tryz.func59 rfl (by kernel_rfl) rfl rfl rfl rfl (fun gh=> ?_))|(refine NStep.inl 300 25 _ Be mixed rfl rfl rfl Tryz.func57 rfl (by kernel_rfl) rfl rfl rfl rfl (fun gh=> ?_))|(refine NStep.inl 400 20 _ Be mixed rfl rfl rfl Tryz.func63 rfl (by kernel_rfl) rfl rfl rfl rfl (fun gh=> ?_))|(refine NStep.inlC 240 13 #[] Be mixed rfl rfl rfl rfl Tryz.func76 rfl (by kernel_rfl) rfl rfl rfl rfl (fun gh=> ?_))|refine NCall.eq hb rfl ?_|refine NCall.eq hF1 rfl ?_|refine NCall.eq hF2 rfl ?_|refine NCall.eq hF4 rfl ?_|refine NCall.eq hF5 rfl ?_|refine NCall.eq hB rfl ?_|refine NCall.eq hW3 Ny ?_|refine NStep.go (Yh 0 rfl rfl rfl (ltN rfl) rfl rfl) ?_|refine NStep.go (Fm rfl rfl (ltN rfl) rfl) ?_|(refine NApp.at 1 _ ?_)|(refine NApp.at 2 _ ?_)|(refine NApp.at 3 _ ?_)|(refine NApp.at 4 _ ?_)|refine NCall.eq hS Ny ?_|refine NCall.le hS K5 ?_));(all_goals(conv=>whnf))
  all_goals exact NEnd.eq leQ
end Go.Proofs.YtgpaehhbdbgeaaaGreatDoor
