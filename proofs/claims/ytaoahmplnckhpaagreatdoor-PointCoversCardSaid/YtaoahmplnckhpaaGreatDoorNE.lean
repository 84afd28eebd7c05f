/- NE: the texts Plr Plq Peq Prf, one behind the other. No condition but what each lemma says. -/
import Derived.Test.YtaoahmplnckhpaaGreatDoorND
namespace Go.Proofs.YtaoahmplnckhpaaGreatDoor
open Go.RowKit
set_option maxRecDepth 100000
set_option maxHeartbeats 16000000
structure kdsW (k:List UInt8):Prop where
 n:k.length≤6
 o:∀(n:Nat) (kd:UInt8),k[n]?=some kd→kd=110∨kd=114∨kd=105∨(kd=102∧(n=1∨n=2∨n=4∨n=5))
structure nmEq (f:List Gn) (r:List Att):Prop where
 f:f.length≤1000000∧∀g∈f,g.eqs
 r:r.length≤1000000∧∀g∈r,g.eqs
structure Pt.eqs (p:Pt):Prop where
 m:nmEq p.f p.r
 i:p.i.length≤1000000∧∀g∈p.i,g.eqs
theorem DC (a b:Iss):decide (a=b)=(decide (a.f=b.f)&&(decide (a.r=b.r)&&((a.u==b.u)&&((a.c==b.c)&&((a.s==b.s)&&((a.n==b.n)&&(a.a==b.a))))))):=by
 obtain⟨a1,a2,a3,a4,a5,a6,a7⟩:=a;obtain⟨b1,b2,b3,b4,b5,b6,b7⟩:=b
 rw[Bool.eq_iff_iff]
 simp only[decide_eq_true_iff,Ap,beq_iff_eq,Iss.mk.injEq]
 exact⟨fun⟨a,b,c,d,e,f,g⟩=>⟨a,b,c,d,g,e,f⟩,fun⟨a,b,c,d,e,f,g⟩=>⟨a,b,c,d,f,g,e⟩⟩
theorem Gb {p:Prop} (h:p:=by first|rfl|(simp only[AV.gives,AV.ren,AV.give,D.un,D.uns,Ai,Am,List.nil_append,List.append_nil,List.cons_append,At,A5,Cm,Bm,A4,Cf,Ck,Cn,Bp,C7,Be];first|done|rfl)):p:=h
theorem yS (a b:Iss) (ha:nmEq a.f a.r) (hb:nmEq b.f b.r):Ac Tryz.prog 20 [diA a,diA b] (fun r=>r=bv (decide (a=b))):=by
 have h1:=Wz a.f b.f ha.f hb.f
 have h2:=Wy a.r b.r ha.r hb.r
 rw[DC]
 obtain⟨a1,a2,a3,a4,a5,a6,a7⟩:=a;obtain⟨b1,b2,b3,b4,b5,b6,b7⟩:=b
 simp only at h1 h2⊢
 generalize decide (a1=b1)=q1 at h1⊢
 generalize decide (a2=b2)=q2 at h2⊢
 cases q1
 ·refine acQ 52 Tryz.func20 rfl rfl fun _ _ _=> ?_
  (repeat'((conv=>whnf);first|refine Ae ?_|refine Aa h1 Gb ?_|exact zE))
 cases q2
 ·refine acQ 52 Tryz.func20 rfl rfl fun _ _ _=> ?_
  (repeat'((conv=>whnf);first|refine Ab ?_|refine Ae ?_|refine Aa h1 Gb ?_|refine Aa h2 Gb ?_|exact zE))
 cases g3:(a3==b3)
 ·refine acQ 52 Tryz.func20 rfl rfl fun _ _ _=> ?_
  (repeat'((conv=>whnf);first|refine zN ?_|refine Ab ?_|refine Ae ?_|refine Aa h1 Gb ?_|refine Aa h2 Gb ?_|exact zE))
 cases g4:(a4==b4)
 ·refine acQ 52 Tryz.func20 rfl rfl fun _ _ _=> ?_
  (repeat'((conv=>whnf);first|refine zP ?_|refine zN ?_|refine Ab ?_|refine Ae ?_|refine Aa h1 Gb ?_|refine Aa h2 Gb ?_|exact zE))
 cases g7:(a7==b7)
 ·refine acQ 52 Tryz.func20 rfl rfl fun _ _ _=> ?_
  (repeat'((conv=>whnf);first|refine zP ?_|refine zN ?_|refine Ab ?_|refine Ae ?_|refine Aa h1 Gb ?_|refine Aa h2 Gb ?_|exact zE))
 cases g5:(a5==b5)
 ·refine acQ 52 Tryz.func20 rfl rfl fun _ _ _=> ?_
  (repeat'((conv=>whnf);first|refine zP ?_|refine zN ?_|refine Ab ?_|refine Ae ?_|refine Aa h1 Gb ?_|refine Aa h2 Gb ?_|exact zE))
 ·refine acQ 52 Tryz.func20 rfl rfl fun _ _ _=> ?_
  (repeat'((conv=>whnf);first|refine zP ?_|refine Ab ?_|refine Aa h1 Gb ?_|refine Aa h2 Gb ?_|exact zE))
def ptC (p:Pt):List D:=[Ch p.f,Dm p.r,.v (.int .i64 p.s),Ch p.i]
theorem Sw {p:Prop} (h:p:=by first|rfl|(simp only[AV.gives,AV.ren,AV.give,D.un,D.uns,Ai,Am,List.nil_append,List.append_nil,List.cons_append,AV.frz,AV.frzs,At,A5,Cm,Bm,A4,Cf,Ck,Cn,Bp,C7,Be];first|done|rfl)):p:=h
theorem Sx (f:List Gn) (r:List Att) (s:Int) (hf:gnsZ f) (hr:rdnZ r):Ac Tryz.prog 69 [.d (Ch f),.d (Dm r),iv s] (fun q=>q=bv (plV f r s)):=by
 have hL:=Um f hf
 have hR:=Ul r hr
 have hfn:=hf.n
 have hrl:=hr.l
 by_cases s0:s<0
 ·have g0:decide (s<0)=true:=decide_eq_true s0
  have e:plV f r s=false:=decide_eq_false fun h=>by have:=h.2.1;omega
  rw[e]
  refine acQ 30 Tryz.func69 rfl rfl fun _ _ _=> ?_
  (repeat'((conv=>whnf);first|refine zP ?_|refine Ab ?_|exact zE))
 have g0:decide (s<0)=false:=decide_eq_false s0
 by_cases s1:s>511
 ·have g1:decide (s>511)=true:=decide_eq_true s1
  have e:plV f r s=false:=decide_eq_false fun h=>by have:=h.2.2;omega
  rw[e]
  refine acQ 30 Tryz.func69 rfl rfl fun _ _ _=> ?_
  (repeat'((conv=>whnf);first|refine zP ?_|refine zN ?_|refine Ae ?_|exact zE))
 have g1:decide (s>511)=false:=decide_eq_false s1
 have e:plV f r s=decide (nmW f r):=by
  unfold plV
  rw[Bool.eq_iff_iff,decide_eq_true_iff,decide_eq_true_iff]
  exact⟨fun a=>a.1,fun a=>⟨a,by unfold rsW;omega⟩⟩
 rw[e]
 rcases aD f r with⟨rfl,rfl,hw⟩|⟨rfl,h0,hv,hw⟩|⟨rfl,h0,hv,hw⟩|⟨h1,rfl,hv,hw⟩|⟨h1,rfl,hv,hw⟩|⟨h1,h0,hw⟩
 all_goals first|rw[decide_eq_true hw]|rw[decide_eq_false hw]
 all_goals
  first|have g2:=Jp h0|skip
  first|have g3:=Jp h1|skip
  first|rw[hv] at hR|rw[hv] at hL|skip
  refine acQ 30 Tryz.func69 rfl rfl fun _ _ _=> ?_
  (repeat'((conv=>whnf);first|refine zN ?_|refine Ab ?_|refine Ae ?_|refine Aa hR Sw ?_|refine Aa hL Sw ?_|exact zE))
theorem uB (p:Pt) (h:p.z):Ac Tryz.prog 34 [dpA p] (fun q=>q=bv (ptW p)):=by
 have hN:=Sx p.f p.r p.s h.m.f h.m.r
 have hG:=Um p.i h.i
 have n1:=h.m.f.n
 have n2:=h.m.r.l
 have n3:=h.i.n
 rw[uA]
 obtain⟨f,r,s,i⟩:=p
 simp only at hN hG n1 n2 n3⊢
 clear h
 generalize plV f r s=w at hN⊢
 have hk:(f=[]∧r=[]∧Ib f r=true)∨(f=[]∧r≠[]∧Ib f r=false)∨(f≠[]∧Ib f r=false):=by
  by_cases f0:f=[]
  ·by_cases r0:r=[]
   ·exact .inl ⟨f0,r0,by rw[f0,r0];rfl⟩
   ·exact .inr (.inl ⟨f0,r0,Ft.2 (.inr r0)⟩)
  ·exact .inr (.inr ⟨f0,Ft.2 (.inl f0)⟩)
 by_cases i0:i=[]
 ·subst i0
  rcases hk with⟨rfl,rfl,e⟩|⟨rfl,r0,e⟩|⟨f0,e⟩
  all_goals rw[e]
  all_goals first|have g2:=Jp f0|have g1:=Jp r0|skip
  all_goals cases w
  all_goals
   refine acQ 37 Tryz.func34 rfl rfl fun _ _ _=> ?_
   (repeat'((conv=>whnf);first|refine zN ?_|refine Ab ?_|refine Ae ?_|refine Aa hN Sw ?_|exact zE))
 ·have g3:=Jp i0
  rw[show i.isEmpty=false from List.isEmpty_eq_false_iff.2 i0]
  cases hw:Km i
  all_goals rw[hw] at hG
  all_goals clear hw
  all_goals rcases hk with⟨rfl,rfl,e⟩|⟨rfl,r0,e⟩|⟨f0,e⟩
  all_goals rw[e]
  all_goals first|have g2:=Jp f0|have g1:=Jp r0|skip
  all_goals cases w
  all_goals
   refine acQ 37 Tryz.func34 rfl rfl fun _ _ _=> ?_
   (repeat'((conv=>whnf);first|refine zN ?_|refine Ab ?_|refine Ae ?_|refine Aa hN Sw ?_|refine Aa hG Sw ?_|exact zE))
end Go.Proofs.YtaoahmplnckhpaaGreatDoor
