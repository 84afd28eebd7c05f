/- NI: the texts Prs LawPX OpnP, one behind the other. No condition but what each lemma says. -/
import Derived.Test.YtaoahmplnckhpaaGreatDoorNH
namespace Go.Proofs.YtaoahmplnckhpaaGreatDoor
open Go.RowKit
set_option maxRecDepth 100000
set_option maxHeartbeats 16000000
theorem OC {p:Pt} (h:p.z):(ptE p).length≤800000000:=by
 obtain⟨l1,-⟩:=gY h
 have e:ptE p=Ah 0 16 true (Lw p).flatten:=by rw[←Q4];rfl
 have:=Ar 0 16 true (Lw p).flatten (by omega)
 rw[e];omega
theorem OD {x:Iss} (h:nmZZ x.f x.r):(isE x).length≤800000000:=by
 obtain⟨l1,-⟩:=iA h
 have e:isE x=Ah 0 16 true (M3 x).flatten:=by rw[←Q5];rfl
 have:=Ar 0 16 true (M3 x).flatten (by omega)
 rw[e];omega
theorem GU {b:List UInt8} (hb:b.length≤3000):(Qz (Cq b)).z∧rsW (Qz (Cq b)).s:=
 BD (T3 hb).2 ⟨⟨⟨Q0,Jd⟩,Q0⟩,by unfold rsW pt0;simp⟩
theorem GV {b:List UInt8} (hb:b.length≤3000):nmZZ (Pi (Cq b)).f (Pi (Cq b)).r∧rsW (Pi (Cq b)).s:=
 BE (T3 hb).2 ⟨⟨Q0,Jd⟩,by unfold rsW is0;simp⟩
abbrev PC:AV:= .agg [A3,A3,iv 0,A3]
abbrev PD:AV:= .agg [A3,A3,bv false,bv false,bv false,bv false,iv 0]
theorem F8 {p:Prop} (h:p:=by first|rfl|(simp only[AV.gives,AV.ren,AV.give,D.un,D.uns,Aj,Am,List.nil_append,List.append_nil,List.cons_append,Av,A6,Cc,Bn,A8,B5,Cj,B6,Bk,Bw,Bd,Tr.cellss_un,Qq,Tx];first|done|rfl)):p:=h
theorem BT (b:List UInt8) (hb:b.length≤3000):Ab Tryz.prog 12 [.d (Af false b)] (fun r=>r=if W4 b (Qz (Cq b))=true then .tup [ptF (Qz (Cq b)),bv true] else .tup [PC,bv false]):=by
 obtain⟨g1,g2⟩:=T3 hb
 obtain⟨g3,g4⟩:=GU hb
 have hD:=fB b (by omega)
 have hR:=BR (Cq b) g1 g2
 have hM:=BP _ g3
 have hle:=OC g3
 have hB:=Cz false false (ptE (Qz (Cq b))) b (by omega) (by omega)
 unfold W4
 clear hle g3 g4
 generalize Qz (Cq b)=v at hR hM hB⊢
 obtain⟨f,r,s,i⟩:=v
 generalize ptE ⟨f,r,s,i⟩=X at hM hB⊢
 generalize ptW ⟨f,r,s,i⟩=W at hM⊢
 clear g1 g2
 generalize Cq b=t at hD hR
 generalize ((Db 60 b).code==0)=q at hD
 obtain⟨c,n,k,b',ks⟩:=t
 rw[Bt] at hR
 rw[Vz rfl] at hD
 cases W with
 |false=>
  have hM:Ab Tryz.prog 42 [dpA ⟨f,r,s,i⟩] (fun r=>r= .tup [A3,iv 8]):=hM
  rw[Bool.false_and]
  refine acQ 31 Tryz.func12 rfl rfl fun _ _ _=> ?_
  (repeat'((conv=>whnf);first|refine Ac ?_|refine Aa hD F8 ?_|refine Aa hR F8 ?_|refine Aa hM F8 ?_|exact zE))
 |true=>
  have hM:Ab Tryz.prog 42 [dpA ⟨f,r,s,i⟩] (fun r=>r= .tup [A7 0 5 X,iv 0]):=hM
  rw[Bool.true_and]
  cases hq:(X==b)
  all_goals
   rw[hq] at hB
   clear hq
   refine acQ 31 Tryz.func12 rfl rfl fun _ _ _=> ?_
   (repeat'((conv=>whnf);first|refine Ac ?_|refine Ae ?_|refine Aa hD F8 ?_|refine Aa hR F8 ?_|refine Aa hM F8 ?_|refine Aa hB F8 ?_|exact zE))
theorem BU (t:Tr) (hn:t.ks.length≤100000) (hk:∀k∈t.ks,k.ok∧k.enc.length≤3004):Ab Tryz.prog 53 [trF t] (fun r=>r=isF (Pi t)):=by
 obtain⟨c,n,k,b,ks⟩:=t
 rw[Bt]
 unfold Pi
 simp only[Tr.ks] at hn hk⊢
 refine acQ 53 Tryz.func53 rfl rfl fun _ _ _=> ?_
 (all_goals(conv=>whnf))
 refine A1 (fun z:Nat×Iss=>z.1≤ks.length∧(ks.take z.1).foldl K5 is0=z.2) (fun z=>ks.length-z.1) (fun z=>⟨[(1,.ptr 1 0),(2,.ptr 2 0),(3,.ptr 3 0),(4,iv z.1)],[(1,[iv c,iv n,bv k,.d (Af false b),.d (.sl false ks.length 5 (Tr.cellss false ks))]),(2,[A3,A3,bv false,bv false,bv false,bv false,iv 0]),(3,[.d (Wn z.2.f),.d (Li z.2.r),bv z.2.u,bv z.2.c,bv z.2.n,bv z.2.a,iv z.2.s])],[]⟩) (0,is0) ⟨by simp,rfl⟩ leQ ?_
 rintro⟨i,f,r,u,cc,nn,a,s⟩ ⟨hi,he⟩
 simp only at hi he
 by_cases hik:i<ks.length
 ·have gi:decide ((i:Int)<ks.length)=true:=decide_eq_true (by omega)
  obtain⟨x,hg⟩:∃p,ks[i]?=some p:=⟨_,An hik⟩
  obtain⟨x1,x2⟩:=hk x (Bi hg)
  have hN:=gZ x x1 x2
  have hS:=Zc x (OB x x1 x2)
  have hfs:=Sz K5 is0 hg
  rw[he] at hfs
  have hst:K5 ⟨f,r,u,cc,nn,a,s⟩ x=if x.n=0 then⟨(Hc x).1,(Hc x).2,u,cc,nn,a,s⟩ else if x.n=1 then⟨f,r,true,cc,nn,a,s⟩ else if x.n=2 then⟨f,r,u,true,nn,a,s⟩ else if x.n=3 then⟨f,r,u,cc,nn,a,rdS x.v⟩ else if x.n=4 then⟨f,r,u,cc,true,a,s⟩ else if x.n=5 then⟨f,r,u,cc,nn,true,s⟩ else⟨f,r,u,cc,nn,a,s⟩:=rfl
  rw[hst] at hfs
  have hnA:tU x=(if(x.kid 0).n=0 then .tup [.d (Wn ((x.kid 0).ks.map Bg)),A3] else .tup [A3,.d (Li (Em (x.kid 0)))]):=rfl
  have hnE:Hc x=if(x.kid 0).n=0 then((x.kid 0).ks.map Bg,[]) else([],Em (x.kid 0)):=rfl
  generalize tU x=NA at hN hnA
  generalize Hc x=NE at hfs hnE
  generalize rdS x.v=SS at hS hfs
  generalize (x.kid 0).ks.map Bg=kg at hnA hnE
  generalize Em (x.kid 0)=kr at hnA hnE
  clear hst x1 x2
  generalize hN0:(x.kid 0).n=k0 at hnA hnE
  clear hN0
  obtain⟨c',n',k',b',ks'⟩:=x
  rw[Bt] at hN hS
  have e1:(Tr.mk c' n' k' b' ks').n=n':=rfl
  rw[e1] at hfs
  clear e1
  by_cases n0:n'=0
  ·have g0:((n':Int)==0)=true:=by rw[beq_iff_eq];omega
   rw[if_pos n0] at hfs
   by_cases h0:k0=0
   all_goals
    first|rw[if_pos h0] at hnA hnE|rw[if_neg h0] at hnA hnE
    subst hnA hnE
    (repeat'((conv=>whnf);first|refine zP ?_|(refine Dd hg ?_)|refine Aa hN F8 ?_|(with_reducible refine NInt.i64 ?_)));(all_goals(conv=>whnf))
    refine⟨(i+1,_),⟨by show i+1≤_;omega,hfs⟩,by show ks.length-(i+1)<ks.length-i;omega,?_⟩
    exact leQ
  have g0:((n':Int)==0)=false:=by rw[beq_eq_false_iff_ne];omega
  rw[if_neg n0] at hfs
  clear hnA hnE hN
  by_cases n1:n'=1
  ·have g1:((n':Int)==1)=true:=by rw[beq_iff_eq];omega
   rw[if_pos n1] at hfs
   (repeat'((conv=>whnf);first|refine zP ?_|refine zN ?_|(refine Dd hg ?_)|(with_reducible refine NInt.i64 ?_)));(all_goals(conv=>whnf))
   refine⟨(i+1,_),⟨by show i+1≤_;omega,hfs⟩,by show ks.length-(i+1)<ks.length-i;omega,?_⟩
   exact leQ
  have g1:((n':Int)==1)=false:=by rw[beq_eq_false_iff_ne];omega
  rw[if_neg n1] at hfs
  by_cases n2:n'=2
  ·have g2:((n':Int)==2)=true:=by rw[beq_iff_eq];omega
   rw[if_pos n2] at hfs
   (repeat'((conv=>whnf);first|refine zP ?_|refine zN ?_|(refine Dd hg ?_)|(with_reducible refine NInt.i64 ?_)));(all_goals(conv=>whnf))
   refine⟨(i+1,_),⟨by show i+1≤_;omega,hfs⟩,by show ks.length-(i+1)<ks.length-i;omega,?_⟩
   exact leQ
  have g2:((n':Int)==2)=false:=by rw[beq_eq_false_iff_ne];omega
  rw[if_neg n2] at hfs
  by_cases n3:n'=3
  ·have g3:((n':Int)==3)=true:=by rw[beq_iff_eq];omega
   rw[if_pos n3] at hfs
   (repeat'((conv=>whnf);first|refine zP ?_|refine zN ?_|(refine Dd hg ?_)|refine Aa hS F8 ?_|(with_reducible refine NInt.i64 ?_)));(all_goals(conv=>whnf))
   refine⟨(i+1,_),⟨by show i+1≤_;omega,hfs⟩,by show ks.length-(i+1)<ks.length-i;omega,?_⟩
   exact leQ
  have g3:((n':Int)==3)=false:=by rw[beq_eq_false_iff_ne];omega
  rw[if_neg n3] at hfs
  by_cases n4:n'=4
  ·have g4:((n':Int)==4)=true:=by rw[beq_iff_eq];omega
   rw[if_pos n4] at hfs
   (repeat'((conv=>whnf);first|refine zP ?_|refine zN ?_|(refine Dd hg ?_)|(with_reducible refine NInt.i64 ?_)));(all_goals(conv=>whnf))
   refine⟨(i+1,_),⟨by show i+1≤_;omega,hfs⟩,by show ks.length-(i+1)<ks.length-i;omega,?_⟩
   exact leQ
  have g4:((n':Int)==4)=false:=by rw[beq_eq_false_iff_ne];omega
  rw[if_neg n4] at hfs
  by_cases n5:n'=5
  ·have g5:((n':Int)==5)=true:=by rw[beq_iff_eq];omega
   rw[if_pos n5] at hfs
   (repeat'((conv=>whnf);first|refine zP ?_|refine zN ?_|(refine Dd hg ?_)|(with_reducible refine NInt.i64 ?_)));(all_goals(conv=>whnf))
   refine⟨(i+1,_),⟨by show i+1≤_;omega,hfs⟩,by show ks.length-(i+1)<ks.length-i;omega,?_⟩
   exact leQ
  have g5:((n':Int)==5)=false:=by rw[beq_eq_false_iff_ne];omega
  rw[if_neg n5] at hfs
  (repeat'((conv=>whnf);first|refine zP ?_|refine zN ?_|(refine Dd hg ?_)|(with_reducible refine NInt.i64 ?_)));(all_goals(conv=>whnf))
  refine⟨(i+1,_),⟨by show i+1≤_;omega,hfs⟩,by show ks.length-(i+1)<ks.length-i;omega,?_⟩
  exact leQ
 ·have gi:decide ((i:Int)<ks.length)=false:=decide_eq_false (by omega)
  obtain rfl:i=ks.length:=by omega
  rw[List.take_length] at he
  rw[he]
  (repeat'((conv=>whnf);refine zN ?_));(all_goals(conv=>whnf))
  all_goals exact zE
theorem BW (b:List UInt8) (hb:b.length≤3000):Ab Tryz.prog 19 [.d (Af false b)] (fun r=>r=if W5 b (Pi (Cq b))=true then .tup [isF (Pi (Cq b)),bv true] else .tup [PD,bv false]):=by
 obtain⟨g1,g2⟩:=T3 hb
 obtain⟨g3,g4⟩:=GV hb
 have hD:=fB b (by omega)
 have hR:=BU (Cq b) g1 g2
 have hM:=BS _ g3
 have hle:=OD g3
 have hB:=Cz false false (isE (Pi (Cq b))) b (by omega) (by omega)
 unfold W5
 clear hle g3 g4
 generalize Pi (Cq b)=v at hR hM hB⊢
 obtain⟨f,r,u,c1,n1,a,s⟩:=v
 generalize isE ⟨f,r,u,c1,n1,a,s⟩=X at hM hB⊢
 generalize isW ⟨f,r,u,c1,n1,a,s⟩=W at hM⊢
 clear g1 g2
 generalize Cq b=t at hD hR
 generalize ((Db 60 b).code==0)=q at hD
 obtain⟨c,n,k,b',ks⟩:=t
 rw[Bt] at hR
 rw[Vz rfl] at hD
 cases W with
 |false=>
  have hM:Ab Tryz.prog 54 [diA ⟨f,r,u,c1,n1,a,s⟩] (fun r=>r= .tup [A3,iv 8]):=hM
  rw[Bool.false_and]
  refine acQ 31 Tryz.func19 rfl rfl fun _ _ _=> ?_
  (repeat'((conv=>whnf);first|refine Ac ?_|refine Aa hD F8 ?_|refine Aa hR F8 ?_|refine Aa hM F8 ?_|exact zE))
 |true=>
  have hM:Ab Tryz.prog 54 [diA ⟨f,r,u,c1,n1,a,s⟩] (fun r=>r= .tup [A7 0 5 X,iv 0]):=hM
  rw[Bool.true_and]
  cases hq:(X==b)
  all_goals
   rw[hq] at hB
   clear hq
   refine acQ 31 Tryz.func19 rfl rfl fun _ _ _=> ?_
   (repeat'((conv=>whnf);first|refine Ac ?_|refine Ae ?_|refine Aa hD F8 ?_|refine Aa hR F8 ?_|refine Aa hM F8 ?_|refine Aa hB F8 ?_|exact zE))
structure Pt.okk (p:Pt):Prop where
 f:p.f.length≤big∧∀g∈p.f,g.ok
 r:p.r.length≤big∧∀a∈p.r,a.ok
 i:p.i.length≤big∧∀g∈p.i,g.ok
 s:N4 p.s
structure Iss.okk (x:Iss):Prop where
 f:x.f.length≤big∧∀g∈x.f,g.ok
 r:x.r.length≤big∧∀a∈x.r,a.ok
 s:N4 x.s
theorem BY {l:List Gn} (h:gnsM l):l.length≤1000000∧∀p∈l,p.eqs:=⟨h.n,fun g hg=>(h.m g hg).s.z.q⟩
theorem MM {l:List Att} (h:rdnZ l):l.length≤1000000∧∀p∈l,p.eqs:=⟨by have:=h.l;omega,fun a ha=>⟨by have:=(h.a a ha).v;omega⟩⟩
theorem nmM.q {f:List Gn} {r:List Att} (h:nmM f r):nmEq f r:=⟨BY h.f,MM h.r⟩
theorem Pt.sm.q {p:Pt} (h:p.sm):p.eqs:=⟨h.m.m.q,BY h.m.i⟩
theorem BZ (p:Pt):ptE p=Ah 0 16 true (Lw p).flatten:=by rw[←Q4];rfl
theorem MN (x:Iss):isE x=Ah 0 16 true (M3 x).flatten:=by rw[←Q5];rfl
def N5:Gn:=⟨2,[],[97],[],[],0,[],0,[]⟩
theorem MO:gnE N5=[130,1,97]:=tG (n:=2) (k:=false) (c:=[97]) (by decide+kernel) rfl rfl (by decide) (by decide)
theorem mH:B7 [N5]=[130,1,97]:=by
 unfold B7
 rw[List.map_cons,List.map_nil,MO];rfl
theorem II:nmC [N5] []=[160,3,130,1,97]:=by
 unfold nmC
 rw[if_neg (by simp),mH,Df _ _ _ _ (by decide)];decide
theorem IJ:nmW [N5] []:=⟨.inr ⟨rfl,by decide+kernel⟩,.inl rfl⟩
theorem PE:ptE ⟨[N5],[],0,[]⟩=[48,7,160,5,160,3,130,1,97]:=by
 have e:Lw ⟨[N5],[],0,[]⟩=[[160,5,160,3,130,1,97]]:=by
  unfold Lw
  rw[if_pos (.inl (by simp)),if_neg (by simp),if_neg (by simp),II,Df _ _ _ _ (by decide)];decide
 rw[BZ,e,Df _ _ _ _ (by decide)];decide
theorem PF:ptE ⟨[N5],[],2,[]⟩=[48,11,160,5,160,3,130,1,97,129,2,6,64]:=by
 have e:Lw ⟨[N5],[],2,[]⟩=[[160,5,160,3,130,1,97],[129,2,6,64]]:=by
  unfold Lw
  rw[if_pos (.inl (by simp)),if_pos (by simp),if_neg (by simp),II,Df _ _ _ _ (by decide),show C9 (2:Int).toNat=[6,64] by decide+kernel,Df _ _ _ _ (by decide)];decide
 rw[BZ,e,Df _ _ _ _ (by decide)];decide
theorem PG:isE ⟨[],[],false,true,false,false,0⟩=[48,3,130,1,255]:=by
 have e:M3 ⟨[],[],false,true,false,false,0⟩=[[130,1,255]]:=by
  unfold M3 flP
  rw[if_neg (by simp),if_neg (by simp),if_pos rfl,if_neg (by simp),if_neg (by simp),Df _ _ _ _ (by decide)];decide
 rw[MN,e,Df _ _ _ _ (by decide)];decide
theorem pJ (s:Int):(⟨[N5],[],s,[]⟩:Pt).sm:=by
 have hm:gnsM [N5]:=Wo (by decide+kernel) (by show(B7 [N5]).length≤_;rw[mH];decide)
 exact⟨⟨⟨hm,Jd⟩,Q1⟩,by show(B7 [N5]).length≤_;rw[mH];decide,by simp[B7]⟩
theorem pL:Ab Tryz.prog 6 [] (fun r=>r=bv true):=by
 have m1:=R6 ⟨[N5],[],0,[]⟩ (pJ 0) (by unfold N4;simp)
 rw[Ju.2 ⟨IJ,by unfold rsW;simp,.inl rfl,.inl (by simp)⟩,PE] at m1
 have m1:Ab Tryz.prog 15 [dpA ⟨[N5],[],0,[]⟩] (fun r=>r= .tup [A7 0 5 [48,7,160,5,160,3,130,1,97],iv 0]):=m1
 have m2:=R6 ⟨[N5],[],2,[]⟩ (pJ 2) (by unfold N4;simp)
 rw[Ju.2 ⟨IJ,by unfold rsW;simp,.inl rfl,.inl (by simp)⟩,PF] at m2
 have m2:Ab Tryz.prog 15 [dpA ⟨[N5],[],2,[]⟩] (fun r=>r= .tup [A7 0 5 [48,11,160,5,160,3,130,1,97,129,2,6,64],iv 0]):=m2
 have m3:=Y7 ⟨[],[],false,true,false,false,0⟩ ⟨⟨Q1,Jd⟩,by simp[B7]⟩ (by unfold N4;simp)
 rw[Lt.2 ⟨⟨.inl rfl,.inl rfl⟩,by unfold rsW;simp,by unfold Qx;simp,by unfold Sy;simp⟩,PG] at m3
 have m3:Ab Tryz.prog 21 [diA ⟨[],[],false,true,false,false,0⟩] (fun r=>r= .tup [A7 0 5 [48,3,130,1,255],iv 0]):=m3
 have b1:=Cz false false [48,7,160,5,160,3,130,1,97] [48,7,160,5,160,3,130,1,97] (by decide) (by decide)
 have b2:=Cz false false [48,11,160,5,160,3,130,1,97,129,2,6,64] [48,11,160,5,160,3,130,1,97,129,2,6,64] (by decide) (by decide)
 have b3:=Cz false false [48,3,130,1,255] [48,3,130,1,255] (by decide) (by decide)
 rw[beq_self_eq_true] at b1 b2 b3
 refine acQ 52 Tryz.func6 rfl rfl fun _ _ _=> ?_
 (repeat'((conv=>whnf);first|refine Ac ?_|refine Be m1 Oo ?_|refine Be m2 Oo ?_|refine Be m3 Oo ?_|refine Be b1 Oo ?_|refine Be b2 Oo ?_|refine Be b3 Oo ?_|exact zE))
end Go.Proofs.YtaoahmplnckhpaaGreatDoor
namespace Go.Proofs.YtaoahmplnckhpaaGreatDoor
open Go.ChangeShapes Go.WideShapes Go.ChangeAt Go.RowKit Go.Joins
theorem CA {s:Int} (h:(Lit.int .i64 s).wf=true):N4 s:=by
 simp only[Lit.wf,At,decide_eq_true_eq] at h
 unfold N4
 exact h
structure Pt.wf (p:Pt):Prop where
 f:p.f.length≤big∧∀g∈p.f,g.wf
 r:p.r.length≤big∧∀a∈p.r,a.ok
 s:(Lit.int .i64 p.s).wf=true
 i:p.i.length≤big∧∀g∈p.i,g.wf
structure Iss.wf (x:Iss):Prop where
 f:x.f.length≤big∧∀g∈x.f,g.wf
 r:x.r.length≤big∧∀a∈x.r,a.ok
 s:(Lit.int .i64 x.s).wf=true
theorem Pt.wf.okk {p:Pt} (h:p.wf):p.okk:=⟨⟨h.f.1,fun g hg=>(h.f.2 g hg).ok⟩,h.r,⟨h.i.1,fun g hg=>(h.i.2 g hg).ok⟩,CA h.s⟩
theorem Iss.wf.okk {x:Iss} (h:x.wf):x.okk:=⟨⟨h.f.1,fun g hg=>(h.f.2 g hg).ok⟩,h.r,CA h.s⟩
end Go.Proofs.YtaoahmplnckhpaaGreatDoor
