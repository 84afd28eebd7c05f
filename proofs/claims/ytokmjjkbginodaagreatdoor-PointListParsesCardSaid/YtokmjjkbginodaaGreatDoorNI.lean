/- NI: the texts Prs LawPX OpnP, one behind the other. No condition but what each lemma says. -/
import Derived.Test.YtokmjjkbginodaaGreatDoorNH
namespace Go.Proofs.YtokmjjkbginodaaGreatDoor
open Go.RowKit
set_option maxRecDepth 100000
set_option maxHeartbeats 16000000
theorem PZ {p:Pt} (h:p.z):(ptE p).length≤800000000:=by
 obtain⟨l1,-⟩:=iI h
 have e:ptE p=Ah 0 16 true (Jq p).flatten:=by rw[←Rf];rfl
 have:=As 0 16 true (Jq p).flatten (by omega)
 rw[e];omega
theorem JI {b:List UInt8} (hb:b.length≤3000):(D6 (Bt b)).z∧rsW (D6 (Bt b)).s:=
 mQ (cE hb).2 ⟨⟨⟨Nh,Ia⟩,Nh⟩,by unfold rsW pt0;simp⟩
abbrev RC:AV:= .agg [A4,A4,iv 0,A4]
theorem Px {p:Prop} (h:p:=by first|rfl|(simp only[AV.gives,AV.ren,AV.give,D.un,D.uns,An,Ao,List.nil_append,List.append_nil,List.cons_append,Av,A9,Ca,Bn,Bd,B8,Ck,Bw,Bl,Bx,Bf,Tr.cellss_un,Lx,Q6];first|done|rfl)):p:=h

structure Pt.okk (p:Pt):Prop where
 f:p.f.length≤big∧∀g∈p.f,g.ok
 r:p.r.length≤big∧∀a∈p.r,a.ok
 i:p.i.length≤big∧∀g∈p.i,g.ok
 s:L2 p.s
structure Iss.okk (x:Iss):Prop where
 f:x.f.length≤big∧∀g∈x.f,g.ok
 r:x.r.length≤big∧∀a∈x.r,a.ok
 s:L2 x.s
theorem DI {l:List Gn} (h:gnsM l):l.length≤1000000∧∀p∈l,p.eqs:=⟨h.n,fun g hg=>(h.m g hg).s.z.q⟩
theorem OJ {l:List Att} (h:rdnZ l):l.length≤1000000∧∀p∈l,p.eqs:=⟨by have:=h.l;omega,fun a ha=>⟨by have:=(h.a a ha).v;omega⟩⟩
theorem nmM.q {f:List Gn} {r:List Att} (h:nmM f r):nmEq f r:=⟨DI h.f,OJ h.r⟩
theorem Pt.sm.q {p:Pt} (h:p.sm):p.eqs:=⟨h.m.m.q,DI h.m.i⟩
theorem nA (p:Pt):ptE p=Ah 0 16 true (Jq p).flatten:=by rw[←Rf];rfl
theorem OK (x:Iss):isE x=Ah 0 16 true (cH x).flatten:=by rw[←cI];rfl
def Om:Gn:=⟨2,[],[97],[],[],0,[],0,[]⟩
theorem OL:gnE Om=[130,1,97]:=uR (n:=2) (k:=false) (c:=[97]) (by decide+kernel) rfl rfl (by decide) (by decide)
theorem nB:Bm [Om]=[130,1,97]:=by
 unfold Bm
 rw[List.map_cons,List.map_nil,OL];rfl
theorem KC:nmC [Om] []=[160,3,130,1,97]:=by
 unfold nmC
 rw[if_neg (by simp),nB,E5 _ _ _ _ (by decide)];decide
theorem KD:nmW [Om] []:=⟨.inr ⟨rfl,by decide+kernel⟩,.inl rfl⟩
theorem RD:ptE ⟨[Om],[],0,[]⟩=[48,7,160,5,160,3,130,1,97]:=by
 have e:Jq ⟨[Om],[],0,[]⟩=[[160,5,160,3,130,1,97]]:=by
  unfold Jq
  rw[if_pos (.inl (by simp)),if_neg (by simp),if_neg (by simp),KC,E5 _ _ _ _ (by decide)];decide
 rw[nA,e,E5 _ _ _ _ (by decide)];decide
theorem RE:ptE ⟨[Om],[],2,[]⟩=[48,11,160,5,160,3,130,1,97,129,2,6,64]:=by
 have e:Jq ⟨[Om],[],2,[]⟩=[[160,5,160,3,130,1,97],[129,2,6,64]]:=by
  unfold Jq
  rw[if_pos (.inl (by simp)),if_pos (by simp),if_neg (by simp),KC,E5 _ _ _ _ (by decide),show Dd (2:Int).toNat=[6,64] by decide+kernel,E5 _ _ _ _ (by decide)];decide
 rw[nA,e,E5 _ _ _ _ (by decide)];decide
theorem RF:isE ⟨[],[],false,true,false,false,0⟩=[48,3,130,1,255]:=by
 have e:cH ⟨[],[],false,true,false,false,0⟩=[[130,1,255]]:=by
  unfold cH flP
  rw[if_neg (by simp),if_neg (by simp),if_pos rfl,if_neg (by simp),if_neg (by simp),E5 _ _ _ _ (by decide)];decide
 rw[OK,e,E5 _ _ _ _ (by decide)];decide
theorem qV (s:Int):(⟨[Om],[],s,[]⟩:Pt).sm:=by
 have hm:gnsM [Om]:=Wv (by decide+kernel) (by show(Bm [Om]).length≤_;rw[nB];decide)
 exact⟨⟨⟨hm,Ia⟩,Lf⟩,by show(Bm [Om]).length≤_;rw[nB];decide,by simp[Bm]⟩
theorem qW:Ab Tryz.prog 5 [] (fun r=>r=bv true):=by
 have m1:=Li ⟨[Om],[],0,[]⟩ (qV 0) (by unfold L2;simp)
 rw[H5.2 ⟨KD,by unfold rsW;simp,.inl rfl,.inl (by simp)⟩,RD] at m1
 have m1:Ab Tryz.prog 8 [dpA ⟨[Om],[],0,[]⟩] (fun r=>r= .tup [Bb 0 5 [48,7,160,5,160,3,130,1,97],iv 0]):=m1
 have m2:=Li ⟨[Om],[],2,[]⟩ (qV 2) (by unfold L2;simp)
 rw[H5.2 ⟨KD,by unfold rsW;simp,.inl rfl,.inl (by simp)⟩,RE] at m2
 have m2:Ab Tryz.prog 8 [dpA ⟨[Om],[],2,[]⟩] (fun r=>r= .tup [Bb 0 5 [48,11,160,5,160,3,130,1,97,129,2,6,64],iv 0]):=m2
 have m3:=vE ⟨[],[],false,true,false,false,0⟩ ⟨⟨Lf,Ia⟩,by simp[Bm]⟩ (by unfold L2;simp)
 rw[cC.2 ⟨⟨.inl rfl,.inl rfl⟩,by unfold rsW;simp,by unfold Xc;simp,by unfold Zk;simp⟩,RF] at m3
 have m3:Ab Tryz.prog 17 [diA ⟨[],[],false,true,false,false,0⟩] (fun r=>r= .tup [Bb 0 5 [48,3,130,1,255],iv 0]):=m3
 have b1:=Cw false false [48,7,160,5,160,3,130,1,97] [48,7,160,5,160,3,130,1,97] (by decide) (by decide)
 have b2:=Cw false false [48,11,160,5,160,3,130,1,97,129,2,6,64] [48,11,160,5,160,3,130,1,97,129,2,6,64] (by decide) (by decide)
 have b3:=Cw false false [48,3,130,1,255] [48,3,130,1,255] (by decide) (by decide)
 rw[beq_self_eq_true] at b1 b2 b3
 refine acQ 52 Tryz.func5 rfl rfl fun _ _ _=> ?_
 (repeat'((conv=>whnf);first|refine Ac ?_|refine Bk m1 Mq ?_|refine Bk m2 Mq ?_|refine Bk m3 Mq ?_|refine Bk b1 Mq ?_|refine Bk b2 Mq ?_|refine Bk b3 Mq ?_|exact zE))
end Go.Proofs.YtokmjjkbginodaaGreatDoor
namespace Go.Proofs.YtokmjjkbginodaaGreatDoor
open Go.ChangeShapes Go.WideShapes Go.ChangeAt Go.RowKit Go.Joins
theorem DJ {s:Int} (h:(Lit.int .i64 s).wf=true):L2 s:=by
 simp only[Lit.wf,At,decide_eq_true_eq] at h
 unfold L2
 exact h
structure Pt.wf (p:Pt):Prop where
 f:p.f.length≤big∧∀g∈p.f,g.wf
 r:p.r.length≤big∧∀a∈p.r,a.ok
 s:(Lit.int .i64 p.s).wf=true
 i:p.i.length≤big∧∀g∈p.i,g.wf
structure Iss.wf (x:Iss):Prop where
 f:x.f.length≤big∧∀g∈x.f,g.wf
 r:x.r.length≤big∧∀a∈x.r,a.ok
 s:(Lit.int .i64 x.s).wf=true
theorem Pt.wf.okk {p:Pt} (h:p.wf):p.okk:=⟨⟨h.f.1,fun g hg=>(h.f.2 g hg).ok⟩,h.r,⟨h.i.1,fun g hg=>(h.i.2 g hg).ok⟩,DJ h.s⟩
theorem Iss.wf.okk {x:Iss} (h:x.wf):x.okk:=⟨⟨h.f.1,fun g hg=>(h.f.2 g hg).ok⟩,h.r,DJ h.s⟩
end Go.Proofs.YtokmjjkbginodaaGreatDoor
