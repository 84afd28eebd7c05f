/- NI: the texts Prs LawPX OpnP, one behind the other. No condition but what each lemma says. -/
import Derived.Test.YtgpaehhbdbgeaaaGreatDoorNH
import Derived.Test.YtgpaehhbdbgeaaaGreatDoorNG
import Derived.Test.YtgpaehhbdbgeaaaGreatDoorNE
import Derived.Test.YtgpaehhbdbgeaaaGreatDoorMJ
import Derived.Test.YtgpaehhbdbgeaaaGreatDoorMT
import Derived.Test.YtgpaehhbdbgeaaaGreatDoorMH
namespace Go.Proofs.YtgpaehhbdbgeaaaGreatDoor
open Go.RowKit
set_option maxRecDepth 100000
set_option maxHeartbeats 16000000
structure Pt.okk (p:Pt):Prop where
 f:p.f.length≤big∧∀g∈p.f,g.ok
 r:p.r.length≤big∧∀a∈p.r,a.ok
 i:p.i.length≤big∧∀g∈p.i,g.ok
 s:M3 p.s
structure Iss.okk (x:Iss):Prop where
 f:x.f.length≤big∧∀g∈x.f,g.ok
 r:x.r.length≤big∧∀a∈x.r,a.ok
 s:M3 x.s
theorem Js {p:Prop} (h:p:=by first|rfl|(simp only[AV.gives,AV.ren,AV.give,D.un,D.uns,Ag,Ai,List.nil_append,List.append_nil,List.cons_append,Al,A3,Bz,Bd,Aw,Bt,Cd,Ce,Bg,Dk,Bk,G7,Pg];first|done|rfl)):p:=h
theorem Sc (p:Pt) (h:p.okk):Ab Tryz.prog 16 [dpA p] (fun r=>r=bv (Oq p)):=by
 have h1:=Ip p.f h.f
 have h2:=Jj p.r h.r
 have h3:=Ip p.i h.i
 unfold Oq
 obtain⟨f,r,s,i⟩:=p
 simp only at h1 h2 h3⊢
 clear h
 generalize C1 f=a at h1⊢
 generalize Cv r=b at h2⊢
 generalize C1 i=c at h3⊢
 cases a<;>cases b
 all_goals
  refine acQ 16 Tryz.func16 rfl rfl fun _ _ _=> ?_
  (repeat'((conv=>whnf);first|refine NBr.yes ?_|refine NBr.no ?_|refine NCall.eq h1 Js ?_|refine NCall.eq h2 Js ?_|refine NCall.eq h3 Js ?_));(all_goals(conv=>whnf))
  all_goals exact NEnd.eq leQ
theorem dA (x:Iss) (h:x.okk):Ab Tryz.prog 15 [diA x] (fun r=>r=bv (Sa x)):=by
 have h1:=Ip x.f h.f
 have h2:=Jj x.r h.r
 unfold Sa
 obtain⟨f,r,u,c,n,a,s⟩:=x
 simp only at h1 h2⊢
 clear h
 generalize C1 f=a at h1⊢
 generalize Cv r=b at h2⊢
 cases a
 all_goals
  refine acQ 11 Tryz.func15 rfl rfl fun _ _ _=> ?_
  (repeat'((conv=>whnf);first|refine NBr.yes ?_|refine NBr.no ?_|refine NCall.eq h1 Js ?_|refine NCall.eq h2 Js ?_));(all_goals(conv=>whnf))
  all_goals exact NEnd.eq leQ
theorem We {l:List Gn} (h:C1 l=true):gnsZ l:=by
 obtain⟨a,b,c⟩:=Rx h
 exact⟨by omega,fun g hg=>(b.m g hg).s.z,by omega⟩
theorem rK {l:List Gn} (h:gnsM l):l.length≤1000000∧∀p∈l,p.eqs:=⟨h.n,fun g hg=>(h.m g hg).s.z.q⟩
theorem zR {l:List Att} (h:rdnZ l):l.length≤1000000∧∀p∈l,p.eqs:=⟨by have:=h.l;omega,fun a ha=>⟨by have:=(h.a a ha).v;omega⟩⟩
theorem nmM.q {f:List Gn} {r:List Att} (h:nmM f r):nmEq f r:=⟨rK h.f,zR h.r⟩
theorem Pt.sm.q {p:Pt} (h:p.sm):p.eqs:=⟨h.m.m.q,rK h.m.i⟩
theorem gE {p:Pt} (h:Oq p=true):p.sm∧p.z∧(ptE p).length≤379000∧p.eqs:=by
 obtain⟨a,b⟩:=rG h
 unfold Oq at h
 rw[Bool.and_eq_true,Bool.and_eq_true] at h
 exact⟨a,⟨⟨We h.1,a.m.m.r⟩,We h.2.2⟩,b,a.q⟩
theorem vZ {x:Iss} (h:Sa x=true):x.sm∧nmZZ x.f x.r∧(isE x).length≤379000∧nmEq x.f x.r:=by
 obtain⟨a,b⟩:=rH h
 unfold Sa at h
 rw[Bool.and_eq_true] at h
 exact⟨a,⟨We h.1,a.m.r⟩,b,a.m.q⟩
theorem rL (p:Pt):ptE p=Ae 0 16 true (Sb p).flatten:=by rw[←V8];rfl
theorem zU (x:Iss):isE x=Ae 0 16 true (Wa x).flatten:=by rw[←Wb];rfl
def Kp:Gn:=⟨2,[],[97],[],[],0,[],0,[]⟩
theorem zV:gnE Kp=[130,1,97]:=kV (n:=2) (k:=false) (c:=[97]) (by decide+kernel) rfl rfl (by decide) (by decide)
theorem dB:Bo [Kp]=[130,1,97]:=by
 unfold Bo
 rw[List.map_cons,List.map_nil,zV];rfl
theorem wQ:nmC [Kp] []=[160,3,130,1,97]:=by
 unfold nmC
 rw[if_neg (by simp),dB,C8 _ _ _ _ (by decide)];decide
theorem wR:nmW [Kp] []:=⟨.inr ⟨rfl,by decide+kernel⟩,.inl rfl⟩
theorem CC:ptE ⟨[Kp],[],0,[]⟩=[48,7,160,5,160,3,130,1,97]:=by
 have e:Sb ⟨[Kp],[],0,[]⟩=[[160,5,160,3,130,1,97]]:=by
  unfold Sb
  rw[if_pos (.inl (by simp)),if_neg (by simp),if_neg (by simp),wQ,C8 _ _ _ _ (by decide)];decide
 rw[rL,e,C8 _ _ _ _ (by decide)];decide
theorem CD:ptE ⟨[Kp],[],2,[]⟩=[48,11,160,5,160,3,130,1,97,129,2,6,64]:=by
 have e:Sb ⟨[Kp],[],2,[]⟩=[[160,5,160,3,130,1,97],[129,2,6,64]]:=by
  unfold Sb
  rw[if_pos (.inl (by simp)),if_pos (by simp),if_neg (by simp),wQ,C8 _ _ _ _ (by decide),show Fl (2:Int).toNat=[6,64] by decide+kernel,C8 _ _ _ _ (by decide)];decide
 rw[rL,e,C8 _ _ _ _ (by decide)];decide
theorem CE:isE ⟨[],[],false,true,false,false,0⟩=[48,3,130,1,255]:=by
 have e:Wa ⟨[],[],false,true,false,false,0⟩=[[130,1,255]]:=by
  unfold Wa flP
  rw[if_neg (by simp),if_neg (by simp),if_pos rfl,if_neg (by simp),if_neg (by simp),C8 _ _ _ _ (by decide)];decide
 rw[zU,e,C8 _ _ _ _ (by decide)];decide
theorem gF (s:Int):(⟨[Kp],[],s,[]⟩:Pt).sm:=by
 have hm:gnsM [Kp]:=Ry (by decide+kernel) (by show(Bo [Kp]).length≤_;rw[dB];decide)
 exact⟨⟨⟨hm,M1⟩,M2⟩,by show(Bo [Kp]).length≤_;rw[dB];decide,by simp[Bo]⟩
theorem Wg:Ab Tryz.prog 14 [] (fun r=>r=bv true):=by
 have m1:=Ia ⟨[Kp],[],0,[]⟩ (gF 0) (by unfold M3;simp)
 rw[Ki.2 ⟨wR,by unfold rsW;simp,.inl rfl,.inl (by simp)⟩,CC] at m1
 have m1:Ab Tryz.prog 19 [dpA ⟨[Kp],[],0,[]⟩] (fun r=>r= .tup [B7 0 5 [48,7,160,5,160,3,130,1,97],iv 0]):=m1
 have m2:=Ia ⟨[Kp],[],2,[]⟩ (gF 2) (by unfold M3;simp)
 rw[Ki.2 ⟨wR,by unfold rsW;simp,.inl rfl,.inl (by simp)⟩,CD] at m2
 have m2:Ab Tryz.prog 19 [dpA ⟨[Kp],[],2,[]⟩] (fun r=>r= .tup [B7 0 5 [48,11,160,5,160,3,130,1,97,129,2,6,64],iv 0]):=m2
 have m3:=Nz ⟨[],[],false,true,false,false,0⟩ ⟨⟨M2,M1⟩,by simp[Bo]⟩ (by unfold M3;simp)
 rw[M0.2 ⟨⟨.inl rfl,.inl rfl⟩,by unfold rsW;simp,by unfold R8;simp,by unfold Tz;simp⟩,CE] at m3
 have m3:Ab Tryz.prog 28 [diA ⟨[],[],false,true,false,false,0⟩] (fun r=>r= .tup [B7 0 5 [48,3,130,1,255],iv 0]):=m3
 have b1:=Dm false false [48,7,160,5,160,3,130,1,97] [48,7,160,5,160,3,130,1,97] (by decide) (by decide)
 have b2:=Dm false false [48,11,160,5,160,3,130,1,97,129,2,6,64] [48,11,160,5,160,3,130,1,97,129,2,6,64] (by decide) (by decide)
 have b3:=Dm false false [48,3,130,1,255] [48,3,130,1,255] (by decide) (by decide)
 rw[beq_self_eq_true] at b1 b2 b3
 refine acQ 52 Tryz.func14 rfl rfl fun _ _ _=> ?_
 (repeat'((conv=>whnf);first|refine NBr.yes ?_|refine NCall.le m1 K5 ?_|refine NCall.le m2 K5 ?_|refine NCall.le m3 K5 ?_|refine NCall.le b1 K5 ?_|refine NCall.le b2 K5 ?_|refine NCall.le b3 K5 ?_));(all_goals(conv=>whnf))
 all_goals exact NEnd.eq leQ
end Go.Proofs.YtgpaehhbdbgeaaaGreatDoor
namespace Go.Proofs.YtgpaehhbdbgeaaaGreatDoor
open Go.ChangeShapes Go.WideShapes Go.ChangeAt Go.RowKit Go.Joins
theorem rM {s:Int} (h:(Lit.int .i64 s).wf=true):M3 s:=by
 simp only[Lit.wf,Bool.and_eq_true,decide_eq_true_eq] at h
 unfold M3
 exact h
structure Pt.wf (p:Pt):Prop where
 f:p.f.length≤big∧∀g∈p.f,g.wf
 r:p.r.length≤big∧∀a∈p.r,a.ok
 s:(Lit.int .i64 p.s).wf=true
 i:p.i.length≤big∧∀g∈p.i,g.wf
structure Iss.wf (x:Iss):Prop where
 f:x.f.length≤big∧∀g∈x.f,g.wf
 r:x.r.length≤big∧∀a∈x.r,a.ok
 s:(Lit.int .i64 x.s).wf=true
theorem Pt.wf.okk {p:Pt} (h:p.wf):p.okk:=⟨⟨h.f.1,fun g hg=>(h.f.2 g hg).ok⟩,h.r,⟨h.i.1,fun g hg=>(h.i.2 g hg).ok⟩,rM h.s⟩
theorem Iss.wf.okk {x:Iss} (h:x.wf):x.okk:=⟨⟨h.f.1,fun g hg=>(h.f.2 g hg).ok⟩,h.r,rM h.s⟩
theorem wS:Op 28 4 ptC Pt.wf:=by
 intro H enc w fuel cs x h
 obtain⟨xs,m,-,-,hl,hn,hf⟩:=DataW.trod_struct Tryz.underlying28 h
 have hl':cs.length=4:=hl.trans (by kernel_rfl)
 obtain⟨a,k0,r0⟩:=A9 hn hf (o:=0) 0 (by kernel_rfl) (by kernel_rfl) bO
 obtain⟨b,k1,r1⟩:=A9 hn hf (o:=1) 1 (by kernel_rfl) (by kernel_rfl) bN
 obtain⟨c,k2,r2⟩:=A9 hn hf (o:=2) 2 (by kernel_rfl) (by kernel_rfl) U2
 obtain⟨d,k3,r3⟩:=A9 hn hf (o:=3) 3 (by kernel_rfl) (by kernel_rfl) bO
 exact⟨⟨a,b,c,d⟩,⟨k0,k1,k2,k3⟩,hl',Xx (A8 r0 (A8 r1 (A8 r2 (A8 r3 (L8 hl')))))⟩
theorem zW:Op 26 7 (fun x:Iss=>[Fs x.f,Gp x.r,.v (.bool x.u),.v (.bool x.c),.v (.bool x.n),.v (.bool x.a),.v (.int .i64 x.s)]) Iss.wf:=by
 intro H enc w fuel cs x h
 obtain⟨xs,m,-,-,hl,hn,hf⟩:=DataW.trod_struct Tryz.underlying26 h
 have hl':cs.length=7:=hl.trans (by kernel_rfl)
 obtain⟨a,k0,r0⟩:=A9 hn hf (o:=0) 0 (by kernel_rfl) (by kernel_rfl) bO
 obtain⟨b,k1,r1⟩:=A9 hn hf (o:=1) 1 (by kernel_rfl) (by kernel_rfl) bN
 obtain⟨c2,-,r2⟩:=A9 hn hf (o:=2) 2 (by kernel_rfl) (by kernel_rfl) (O8 Tryz.underlying4)
 obtain⟨c3,-,r3⟩:=A9 hn hf (o:=3) 3 (by kernel_rfl) (by kernel_rfl) (O8 Tryz.underlying4)
 obtain⟨c4,-,r4⟩:=A9 hn hf (o:=4) 4 (by kernel_rfl) (by kernel_rfl) (O8 Tryz.underlying4)
 obtain⟨c5,-,r5⟩:=A9 hn hf (o:=5) 5 (by kernel_rfl) (by kernel_rfl) (O8 Tryz.underlying4)
 obtain⟨s,k6,r6⟩:=A9 hn hf (o:=6) 6 (by kernel_rfl) (by kernel_rfl) U2
 exact⟨⟨a,b,c2,c3,c4,c5,s⟩,⟨k0,k1,k6⟩,hl',Xx (A8 r0 (A8 r1 (A8 r2 (A8 r3 (A8 r4 (A8 r5 (A8 r6 (L8 hl'))))))))⟩
end Go.Proofs.YtgpaehhbdbgeaaaGreatDoor
