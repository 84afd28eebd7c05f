/- NI: the texts Prs LawPX OpnP, one behind the other. No condition but what each lemma says. -/
import Derived.Test.YtaoahmplnckhpaaGreatDoorNH
namespace Go.Proofs.YtaoahmplnckhpaaGreatDoor
open Go.RowKit
set_option maxRecDepth 100000
set_option maxHeartbeats 16000000
structure Pt.okk (p:Pt):Prop where
 f:p.f.length≤big∧∀g∈p.f,g.ok
 r:p.r.length≤big∧∀a∈p.r,a.ok
 i:p.i.length≤big∧∀g∈p.i,g.ok
 s:Ny p.s
structure Iss.okk (x:Iss):Prop where
 f:x.f.length≤big∧∀g∈x.f,g.ok
 r:x.r.length≤big∧∀a∈x.r,a.ok
 s:Ny x.s
theorem Kn {p:Prop} (h:p:=by first|rfl|(simp only[AV.gives,AV.ren,AV.give,D.un,D.uns,Ai,Am,List.nil_append,List.append_nil,List.cons_append,At,A5,Cm,Bm,A4,Cf,Ck,Cn,Bp,C7,Be,yD,iG];first|done|rfl)):p:=h
theorem eR (p:Pt) (h:p.okk):Ac Tryz.prog 8 [dpA p] (fun r=>r=bv (Ss p)):=by
 have h1:=Jc p.f h.f
 have h2:=J8 p.r h.r
 have h3:=Jc p.i h.i
 unfold Ss
 obtain⟨f,r,s,i⟩:=p
 simp only at h1 h2 h3⊢
 clear h
 generalize Dw f=a at h1⊢
 generalize Dp r=b at h2⊢
 generalize Dw i=c at h3⊢
 cases a<;>cases b
 all_goals
  refine acQ 16 Tryz.func8 rfl rfl fun _ _ _=> ?_
  (repeat'((conv=>whnf);first|refine Ab ?_|refine Ae ?_|refine Aa h1 Kn ?_|refine Aa h2 Kn ?_|refine Aa h3 Kn ?_|exact zE))
theorem eT (x:Iss) (h:x.okk):Ac Tryz.prog 7 [diA x] (fun r=>r=bv (St x)):=by
 have h1:=Jc x.f h.f
 have h2:=J8 x.r h.r
 unfold St
 obtain⟨f,r,u,c,n,a,s⟩:=x
 simp only at h1 h2⊢
 clear h
 generalize Dw f=a at h1⊢
 generalize Dp r=b at h2⊢
 cases a
 all_goals
  refine acQ 11 Tryz.func7 rfl rfl fun _ _ _=> ?_
  (repeat'((conv=>whnf);first|refine Ab ?_|refine Ae ?_|refine Aa h1 Kn ?_|refine Aa h2 Kn ?_|exact zE))
theorem W8 {l:List Gn} (h:Dw l=true):gnsZ l:=by
 obtain⟨a,b,c⟩:=Sm h
 exact⟨by omega,fun g hg=>(b.m g hg).s.z,by omega⟩
theorem uD {l:List Gn} (h:gnsM l):l.length≤1000000∧∀p∈l,p.eqs:=⟨h.n,fun g hg=>(h.m g hg).s.z.q⟩
theorem DF {l:List Att} (h:rdnZ l):l.length≤1000000∧∀p∈l,p.eqs:=⟨by have:=h.l;omega,fun a ha=>⟨by have:=(h.a a ha).v;omega⟩⟩
theorem nmM.q {f:List Gn} {r:List Att} (h:nmM f r):nmEq f r:=⟨uD h.f,DF h.r⟩
theorem Pt.sm.q {p:Pt} (h:p.sm):p.eqs:=⟨h.m.m.q,uD h.m.i⟩
theorem yV {p:Pt} (h:Ss p=true):p.sm∧p.z∧(ptE p).length≤379000∧p.eqs:=by
 obtain⟨a,b⟩:=tY h
 unfold Ss at h
 rw[Ap,Ap] at h
 exact⟨a,⟨⟨W8 h.1,a.m.m.r⟩,W8 h.2.2⟩,b,a.q⟩
theorem yW {x:Iss} (h:St x=true):x.sm∧nmZZ x.f x.r∧(isE x).length≤379000∧nmEq x.f x.r:=by
 obtain⟨a,b⟩:=tZ h
 unfold St at h
 rw[Ap] at h
 exact⟨a,⟨W8 h.1,a.m.r⟩,b,a.m.q⟩
theorem uE (p:Pt):ptE p=Ao 0 16 true (Sv p).flatten:=by rw[←W5];rfl
theorem DG (x:Iss):isE x=Ao 0 16 true (W6 x).flatten:=by rw[←W7];rfl
def Li:Gn:=⟨2,[],[97],[],[],0,[],0,[]⟩
theorem DH:gnE Li=[130,1,97]:=mV (n:=2) (k:=false) (c:=[97]) (by decide+kernel) rfl rfl (by decide) (by decide)
theorem eU:Di [Li]=[130,1,97]:=by
 unfold Di
 rw[List.map_cons,List.map_nil,DH];rfl
theorem zO:nmC [Li] []=[160,3,130,1,97]:=by
 unfold nmC
 rw[if_neg (by simp),eU,D4 _ _ _ _ (by decide)];decide
theorem zQ:nmW [Li] []:=⟨.inr ⟨rfl,by decide+kernel⟩,.inl rfl⟩
theorem FD:ptE ⟨[Li],[],0,[]⟩=[48,7,160,5,160,3,130,1,97]:=by
 have e:Sv ⟨[Li],[],0,[]⟩=[[160,5,160,3,130,1,97]]:=by
  unfold Sv
  rw[if_pos (.inl (by simp)),if_neg (by simp),if_neg (by simp),zO,D4 _ _ _ _ (by decide)];decide
 rw[uE,e,D4 _ _ _ _ (by decide)];decide
theorem FE:ptE ⟨[Li],[],2,[]⟩=[48,11,160,5,160,3,130,1,97,129,2,6,64]:=by
 have e:Sv ⟨[Li],[],2,[]⟩=[[160,5,160,3,130,1,97],[129,2,6,64]]:=by
  unfold Sv
  rw[if_pos (.inl (by simp)),if_pos (by simp),if_neg (by simp),zO,D4 _ _ _ _ (by decide),show Hj (2:Int).toNat=[6,64] by decide+kernel,D4 _ _ _ _ (by decide)];decide
 rw[uE,e,D4 _ _ _ _ (by decide)];decide
theorem FF:isE ⟨[],[],false,true,false,false,0⟩=[48,3,130,1,255]:=by
 have e:W6 ⟨[],[],false,true,false,false,0⟩=[[130,1,255]]:=by
  unfold W6 flP
  rw[if_neg (by simp),if_neg (by simp),if_pos rfl,if_neg (by simp),if_neg (by simp),D4 _ _ _ _ (by decide)];decide
 rw[DG,e,D4 _ _ _ _ (by decide)];decide
theorem iS (s:Int):(⟨[Li],[],s,[]⟩:Pt).sm:=by
 have hm:gnsM [Li]:=tL (by decide+kernel) (by show(Di [Li]).length≤_;rw[eU];decide)
 exact⟨⟨⟨hm,aB⟩,aC⟩,by show(Di [Li]).length≤_;rw[eU];decide,by simp[Di]⟩
theorem yX:Ac Tryz.prog 6 [] (fun r=>r=bv true):=by
 have m1:=Ur ⟨[Li],[],0,[]⟩ (iS 0) (by unfold Ny;simp)
 rw[Lf.2 ⟨zQ,by unfold rsW;simp,.inl rfl,.inl (by simp)⟩,FD] at m1
 have m1:Ac Tryz.prog 15 [dpA ⟨[Li],[],0,[]⟩] (fun r=>r= .tup [Cg 0 5 [48,7,160,5,160,3,130,1,97],iv 0]):=m1
 have m2:=Ur ⟨[Li],[],2,[]⟩ (iS 2) (by unfold Ny;simp)
 rw[Lf.2 ⟨zQ,by unfold rsW;simp,.inl rfl,.inl (by simp)⟩,FE] at m2
 have m2:Ac Tryz.prog 15 [dpA ⟨[Li],[],2,[]⟩] (fun r=>r= .tup [Cg 0 5 [48,11,160,5,160,3,130,1,97,129,2,6,64],iv 0]):=m2
 have m3:=nC ⟨[],[],false,true,false,false,0⟩ ⟨⟨aC,aB⟩,by simp[Di]⟩ (by unfold Ny;simp)
 rw[Nx.2 ⟨⟨.inl rfl,.inl rfl⟩,by unfold rsW;simp,by unfold Pi;simp,by unfold Pj;simp⟩,FF] at m3
 have m3:Ac Tryz.prog 21 [diA ⟨[],[],false,true,false,false,0⟩] (fun r=>r= .tup [Cg 0 5 [48,3,130,1,255],iv 0]):=m3
 have b1:=Gk false false [48,7,160,5,160,3,130,1,97] [48,7,160,5,160,3,130,1,97] (by decide) (by decide)
 have b2:=Gk false false [48,11,160,5,160,3,130,1,97,129,2,6,64] [48,11,160,5,160,3,130,1,97,129,2,6,64] (by decide) (by decide)
 have b3:=Gk false false [48,3,130,1,255] [48,3,130,1,255] (by decide) (by decide)
 rw[beq_self_eq_true] at b1 b2 b3
 refine acQ 52 Tryz.func6 rfl rfl fun _ _ _=> ?_
 (repeat'((conv=>whnf);first|refine Ab ?_|refine Bc m1 Pm ?_|refine Bc m2 Pm ?_|refine Bc m3 Pm ?_|refine Bc b1 Pm ?_|refine Bc b2 Pm ?_|refine Bc b3 Pm ?_|exact zE))
end Go.Proofs.YtaoahmplnckhpaaGreatDoor
namespace Go.Proofs.YtaoahmplnckhpaaGreatDoor
open Go.ChangeShapes Go.WideShapes Go.ChangeAt Go.RowKit Go.Joins
theorem uF {s:Int} (h:(Lit.int .i64 s).wf=true):Ny s:=by
 simp only[Lit.wf,Ap,decide_eq_true_eq] at h
 unfold Ny
 exact h
structure Pt.wf (p:Pt):Prop where
 f:p.f.length≤big∧∀g∈p.f,g.wf
 r:p.r.length≤big∧∀a∈p.r,a.ok
 s:(Lit.int .i64 p.s).wf=true
 i:p.i.length≤big∧∀g∈p.i,g.wf
structure Iss.wf (x:Iss):Prop where
 f:x.f.length≤big∧∀g∈x.f,g.wf
 r:x.r.length≤big∧∀a∈x.r,a.ok
 s:(Lit.int .i64 x.s).wf=true
theorem Pt.wf.okk {p:Pt} (h:p.wf):p.okk:=⟨⟨h.f.1,fun g hg=>(h.f.2 g hg).ok⟩,h.r,⟨h.i.1,fun g hg=>(h.i.2 g hg).ok⟩,uF h.s⟩
theorem Iss.wf.okk {x:Iss} (h:x.wf):x.okk:=⟨⟨h.f.1,fun g hg=>(h.f.2 g hg).ok⟩,h.r,uF h.s⟩
theorem ER:Op 28 4 ptC Pt.wf:=by
 intro H enc w fuel cs x h
 obtain⟨xs,m,-,-,hl,hn,hf⟩:=DataW.trod_struct Tryz.underlying28 h
 have hl':cs.length=4:=hl.trans (by kernel_rfl)
 obtain⟨a,k0,r0⟩:=By hn hf (o:=0) 0 (by kernel_rfl) (by kernel_rfl) dB
 obtain⟨b,k1,r1⟩:=By hn hf (o:=1) 1 (by kernel_rfl) (by kernel_rfl) dA
 obtain⟨c,k2,r2⟩:=By hn hf (o:=2) 2 (by kernel_rfl) (by kernel_rfl) Vq
 obtain⟨d,k3,r3⟩:=By hn hf (o:=3) 3 (by kernel_rfl) (by kernel_rfl) dB
 exact⟨⟨a,b,c,d⟩,⟨k0,k1,k2,k3⟩,hl',Yu (Bx r0 (Bx r1 (Bx r2 (Bx r3 (Nb hl')))))⟩
theorem DI:Op 26 7 (fun x:Iss=>[Ch x.f,Dm x.r,.v (.bool x.u),.v (.bool x.c),.v (.bool x.n),.v (.bool x.a),.v (.int .i64 x.s)]) Iss.wf:=by
 intro H enc w fuel cs x h
 obtain⟨xs,m,-,-,hl,hn,hf⟩:=DataW.trod_struct Tryz.underlying26 h
 have hl':cs.length=7:=hl.trans (by kernel_rfl)
 obtain⟨a,k0,r0⟩:=By hn hf (o:=0) 0 (by kernel_rfl) (by kernel_rfl) dB
 obtain⟨b,k1,r1⟩:=By hn hf (o:=1) 1 (by kernel_rfl) (by kernel_rfl) dA
 obtain⟨c2,-,r2⟩:=By hn hf (o:=2) 2 (by kernel_rfl) (by kernel_rfl) (P2 Tryz.underlying4)
 obtain⟨c3,-,r3⟩:=By hn hf (o:=3) 3 (by kernel_rfl) (by kernel_rfl) (P2 Tryz.underlying4)
 obtain⟨c4,-,r4⟩:=By hn hf (o:=4) 4 (by kernel_rfl) (by kernel_rfl) (P2 Tryz.underlying4)
 obtain⟨c5,-,r5⟩:=By hn hf (o:=5) 5 (by kernel_rfl) (by kernel_rfl) (P2 Tryz.underlying4)
 obtain⟨s,k6,r6⟩:=By hn hf (o:=6) 6 (by kernel_rfl) (by kernel_rfl) Vq
 exact⟨⟨a,b,c2,c3,c4,c5,s⟩,⟨k0,k1,k6⟩,hl',Yu (Bx r0 (Bx r1 (Bx r2 (Bx r3 (Bx r4 (Bx r5 (Bx r6 (Nb hl'))))))))⟩
end Go.Proofs.YtaoahmplnckhpaaGreatDoor
