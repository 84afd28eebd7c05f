/- NI: the texts Prs LawPX OpnP, one behind the other. No condition but what each lemma says. -/
import Derived.Test.YtjakkpcpommojaaGreatDoorNH
import Derived.Test.YtjakkpcpommojaaGreatDoorNG
import Derived.Test.YtjakkpcpommojaaGreatDoorNE
import Derived.Test.YtjakkpcpommojaaGreatDoorMJ
import Derived.Test.YtjakkpcpommojaaGreatDoorMT
import Derived.Test.YtjakkpcpommojaaGreatDoorMH
namespace Go.Proofs.YtjakkpcpommojaaGreatDoor
open Go.RowKit
set_option maxRecDepth 100000
set_option maxHeartbeats 16000000
structure Pt.okk (p:Pt):Prop where
 f:p.f.length≤big∧∀g∈p.f,g.ok
 r:p.r.length≤big∧∀a∈p.r,a.ok
 i:p.i.length≤big∧∀g∈p.i,g.ok
 s:K7 p.s
structure Iss.okk (x:Iss):Prop where
 f:x.f.length≤big∧∀g∈x.f,g.ok
 r:x.r.length≤big∧∀a∈x.r,a.ok
 s:K7 x.s
theorem L9 {p:Prop} (h:p:=by first|rfl|(simp only[AV.gives,AV.ren,AV.give,D.un,D.uns,Aj,Ak,List.nil_append,List.append_nil,List.cons_append,Ap,A0,Bk,A7,Ay,Bj,Bs,Bg,A9,Bx,A5,Hg,K3];first|done|rfl)):p:=h
theorem Vt (p:Pt) (h:p.okk):Ab Tryz.prog 7 [dpA p] (fun r=>r=bv (Kh p)):=by
 have h1:=Kr p.f h.f
 have h2:=Lt p.r h.r
 have h3:=Kr p.i h.i
 unfold Kh
 obtain⟨f,r,s,i⟩:=p
 simp only at h1 h2 h3⊢
 clear h
 generalize Eb f=a at h1⊢
 generalize D5 r=b at h2⊢
 generalize Eb i=c at h3⊢
 cases a<;>cases b
 all_goals
  refine acQ 16 Tryz.func7 rfl rfl fun _ _ _=> ?_
  (repeat'((conv=>whnf);first|refine Ac ?_|refine Ae ?_|refine Aa h1 L9 ?_|refine Aa h2 L9 ?_|refine Aa h3 L9 ?_|exact zE))
theorem lA (x:Iss) (h:x.okk):Ab Tryz.prog 15 [diA x] (fun r=>r=bv (Vn x)):=by
 have h1:=Kr x.f h.f
 have h2:=Lt x.r h.r
 unfold Vn
 obtain⟨f,r,u,c,n,a,s⟩:=x
 simp only at h1 h2⊢
 clear h
 generalize Eb f=a at h1⊢
 generalize D5 r=b at h2⊢
 cases a
 all_goals
  refine acQ 11 Tryz.func15 rfl rfl fun _ _ _=> ?_
  (repeat'((conv=>whnf);first|refine Ac ?_|refine Ae ?_|refine Aa h1 L9 ?_|refine Aa h2 L9 ?_|exact zE))
theorem aO {l:List Gn} (h:Eb l=true):gnsZ l:=by
 obtain⟨a,b,c⟩:=Va h
 exact⟨by omega,fun g hg=>(b.m g hg).s.z,by omega⟩
theorem AK {l:List Gn} (h:gnsM l):l.length≤1000000∧∀p∈l,p.eqs:=⟨h.n,fun g hg=>(h.m g hg).s.z.q⟩
theorem KQ {l:List Att} (h:rdnZ l):l.length≤1000000∧∀p∈l,p.eqs:=⟨by have:=h.l;omega,fun a ha=>⟨by have:=(h.a a ha).v;omega⟩⟩
theorem nmM.q {f:List Gn} {r:List Att} (h:nmM f r):nmEq f r:=⟨AK h.f,KQ h.r⟩
theorem Pt.sm.q {p:Pt} (h:p.sm):p.eqs:=⟨h.m.m.q,AK h.m.i⟩
theorem P2 {p:Pt} (h:Kh p=true):p.sm∧p.z∧(ptE p).length≤379000∧p.eqs:=by
 obtain⟨a,b⟩:=zZ h
 unfold Kh at h
 rw[Bool.and_eq_true,Bool.and_eq_true] at h
 exact⟨a,⟨⟨aO h.1,a.m.m.r⟩,aO h.2.2⟩,b,a.q⟩
theorem FH {x:Iss} (h:Vn x=true):x.sm∧nmZZ x.f x.r∧(isE x).length≤379000∧nmEq x.f x.r:=by
 obtain⟨a,b⟩:=AA h
 unfold Vn at h
 rw[Bool.and_eq_true] at h
 exact⟨a,⟨aO h.1,a.m.r⟩,b,a.m.q⟩
theorem AL (p:Pt):ptE p=Ah 0 16 true (L8 p).flatten:=by rw[←Ss];rfl
theorem KR (x:Iss):isE x=Ah 0 16 true (Oh x).flatten:=by rw[←St];rfl
def Na:Gn:=⟨2,[],[97],[],[],0,[],0,[]⟩
theorem KT:gnE Na=[130,1,97]:=sJ (n:=2) (k:=false) (c:=[97]) (by decide+kernel) rfl rfl (by decide) (by decide)
theorem lC:Br [Na]=[130,1,97]:=by
 unfold Br
 rw[List.map_cons,List.map_nil,KT];rfl
theorem GD:nmC [Na] []=[160,3,130,1,97]:=by
 unfold nmC
 rw[if_neg (by simp),lC,Cw _ _ _ _ (by decide)];decide
theorem GE:nmW [Na] []:=⟨.inr ⟨rfl,by decide+kernel⟩,.inl rfl⟩
theorem NJ:ptE ⟨[Na],[],0,[]⟩=[48,7,160,5,160,3,130,1,97]:=by
 have e:L8 ⟨[Na],[],0,[]⟩=[[160,5,160,3,130,1,97]]:=by
  unfold L8
  rw[if_pos (.inl (by simp)),if_neg (by simp),if_neg (by simp),GD,Cw _ _ _ _ (by decide)];decide
 rw[AL,e,Cw _ _ _ _ (by decide)];decide
theorem NK:ptE ⟨[Na],[],2,[]⟩=[48,11,160,5,160,3,130,1,97,129,2,6,64]:=by
 have e:L8 ⟨[Na],[],2,[]⟩=[[160,5,160,3,130,1,97],[129,2,6,64]]:=by
  unfold L8
  rw[if_pos (.inl (by simp)),if_pos (by simp),if_neg (by simp),GD,Cw _ _ _ _ (by decide),show Dx (2:Int).toNat=[6,64] by decide+kernel,Cw _ _ _ _ (by decide)];decide
 rw[AL,e,Cw _ _ _ _ (by decide)];decide
theorem NL:isE ⟨[],[],false,true,false,false,0⟩=[48,3,130,1,255]:=by
 have e:Oh ⟨[],[],false,true,false,false,0⟩=[[130,1,255]]:=by
  unfold Oh flP
  rw[if_neg (by simp),if_neg (by simp),if_pos rfl,if_neg (by simp),if_neg (by simp),Cw _ _ _ _ (by decide)];decide
 rw[KR,e,Cw _ _ _ _ (by decide)];decide
theorem oH (s:Int):(⟨[Na],[],s,[]⟩:Pt).sm:=by
 have hm:gnsM [Na]:=Vb (by decide+kernel) (by show(Br [Na]).length≤_;rw[lC];decide)
 exact⟨⟨⟨hm,Px⟩,Py⟩,by show(Br [Na]).length≤_;rw[lC];decide,by simp[Br]⟩
theorem aP:Ab Tryz.prog 6 [] (fun r=>r=bv true):=by
 have m1:=M2 ⟨[Na],[],0,[]⟩ (oH 0) (by unfold K7;simp)
 rw[Pw.2 ⟨GE,by unfold rsW;simp,.inl rfl,.inl (by simp)⟩,NJ] at m1
 have m1:Ab Tryz.prog 8 [dpA ⟨[Na],[],0,[]⟩] (fun r=>r= .tup [A4 0 5 [48,7,160,5,160,3,130,1,97],iv 0]):=m1
 have m2:=M2 ⟨[Na],[],2,[]⟩ (oH 2) (by unfold K7;simp)
 rw[Pw.2 ⟨GE,by unfold rsW;simp,.inl rfl,.inl (by simp)⟩,NK] at m2
 have m2:Ab Tryz.prog 8 [dpA ⟨[Na],[],2,[]⟩] (fun r=>r= .tup [A4 0 5 [48,11,160,5,160,3,130,1,97,129,2,6,64],iv 0]):=m2
 have m3:=Xz ⟨[],[],false,true,false,false,0⟩ ⟨⟨Py,Px⟩,by simp[Br]⟩ (by unfold K7;simp)
 rw[Sq.2 ⟨⟨.inl rfl,.inl rfl⟩,by unfold rsW;simp,by unfold Ps;simp,by unfold Rv;simp⟩,NL] at m3
 have m3:Ab Tryz.prog 16 [diA ⟨[],[],false,true,false,false,0⟩] (fun r=>r= .tup [A4 0 5 [48,3,130,1,255],iv 0]):=m3
 have b1:=C5 false false [48,7,160,5,160,3,130,1,97] [48,7,160,5,160,3,130,1,97] (by decide) (by decide)
 have b2:=C5 false false [48,11,160,5,160,3,130,1,97,129,2,6,64] [48,11,160,5,160,3,130,1,97,129,2,6,64] (by decide) (by decide)
 have b3:=C5 false false [48,3,130,1,255] [48,3,130,1,255] (by decide) (by decide)
 rw[beq_self_eq_true] at b1 b2 b3
 refine acQ 52 Tryz.func6 rfl rfl fun _ _ _=> ?_
 (repeat'((conv=>whnf);first|refine Ac ?_|refine A6 m1 M5 ?_|refine A6 m2 M5 ?_|refine A6 m3 M5 ?_|refine A6 b1 M5 ?_|refine A6 b2 M5 ?_|refine A6 b3 M5 ?_|exact zE))
end Go.Proofs.YtjakkpcpommojaaGreatDoor
namespace Go.Proofs.YtjakkpcpommojaaGreatDoor
open Go.ChangeShapes Go.WideShapes Go.ChangeAt Go.RowKit Go.Joins
theorem AM {s:Int} (h:(Lit.int .i64 s).wf=true):K7 s:=by
 simp only[Lit.wf,Bool.and_eq_true,decide_eq_true_eq] at h
 unfold K7
 exact h
structure Pt.wf (p:Pt):Prop where
 f:p.f.length≤big∧∀g∈p.f,g.wf
 r:p.r.length≤big∧∀a∈p.r,a.ok
 s:(Lit.int .i64 p.s).wf=true
 i:p.i.length≤big∧∀g∈p.i,g.wf
structure Iss.wf (x:Iss):Prop where
 f:x.f.length≤big∧∀g∈x.f,g.wf
 r:x.r.length≤big∧∀a∈x.r,a.ok
 s:(Lit.int .i64 x.s).wf=true
theorem Pt.wf.okk {p:Pt} (h:p.wf):p.okk:=⟨⟨h.f.1,fun g hg=>(h.f.2 g hg).ok⟩,h.r,⟨h.i.1,fun g hg=>(h.i.2 g hg).ok⟩,AM h.s⟩
theorem Iss.wf.okk {x:Iss} (h:x.wf):x.okk:=⟨⟨h.f.1,fun g hg=>(h.f.2 g hg).ok⟩,h.r,AM h.s⟩
theorem GF:Op 26 4 ptC Pt.wf:=by
 intro H enc w fuel cs x h
 obtain⟨xs,m,-,-,hl,hn,hf⟩:=DataW.trod_struct Tryz.underlying26 h
 have hl':cs.length=4:=hl.trans (by kernel_rfl)
 obtain⟨a,k0,r0⟩:=Ca hn hf (o:=0) 0 (by kernel_rfl) (by kernel_rfl) jI
 obtain⟨b,k1,r1⟩:=Ca hn hf (o:=1) 1 (by kernel_rfl) (by kernel_rfl) jH
 obtain⟨c,k2,r2⟩:=Ca hn hf (o:=2) 2 (by kernel_rfl) (by kernel_rfl) Y3
 obtain⟨d,k3,r3⟩:=Ca hn hf (o:=3) 3 (by kernel_rfl) (by kernel_rfl) jI
 exact⟨⟨a,b,c,d⟩,⟨k0,k1,k2,k3⟩,hl',dA (B8 r0 (B8 r1 (B8 r2 (B8 r3 (O8 hl')))))⟩
theorem KU:Op 46 1 (fun l=>[Hr l]) (fun l=>l.length≤big∧∀p∈l,p.wf):=Lv Tryz.underlying46 (by kernel_rfl) GF
theorem KV:Op 40 7 (fun x:Iss=>[E4 x.f,Fq x.r,.v (.bool x.u),.v (.bool x.c),.v (.bool x.n),.v (.bool x.a),.v (.int .i64 x.s)]) Iss.wf:=by
 intro H enc w fuel cs x h
 obtain⟨xs,m,-,-,hl,hn,hf⟩:=DataW.trod_struct Tryz.underlying40 h
 have hl':cs.length=7:=hl.trans (by kernel_rfl)
 obtain⟨a,k0,r0⟩:=Ca hn hf (o:=0) 0 (by kernel_rfl) (by kernel_rfl) jI
 obtain⟨b,k1,r1⟩:=Ca hn hf (o:=1) 1 (by kernel_rfl) (by kernel_rfl) jH
 obtain⟨c2,-,r2⟩:=Ca hn hf (o:=2) 2 (by kernel_rfl) (by kernel_rfl) (Sc Tryz.underlying4)
 obtain⟨c3,-,r3⟩:=Ca hn hf (o:=3) 3 (by kernel_rfl) (by kernel_rfl) (Sc Tryz.underlying4)
 obtain⟨c4,-,r4⟩:=Ca hn hf (o:=4) 4 (by kernel_rfl) (by kernel_rfl) (Sc Tryz.underlying4)
 obtain⟨c5,-,r5⟩:=Ca hn hf (o:=5) 5 (by kernel_rfl) (by kernel_rfl) (Sc Tryz.underlying4)
 obtain⟨s,k6,r6⟩:=Ca hn hf (o:=6) 6 (by kernel_rfl) (by kernel_rfl) Y3
 exact⟨⟨a,b,c2,c3,c4,c5,s⟩,⟨k0,k1,k6⟩,hl',dA (B8 r0 (B8 r1 (B8 r2 (B8 r3 (B8 r4 (B8 r5 (B8 r6 (O8 hl'))))))))⟩
end Go.Proofs.YtjakkpcpommojaaGreatDoor
