/- NG: the texts Prp Prr, one behind the other. No condition but what each lemma says. -/
import Derived.Test.YtokmjjkbginodaaGreatDoorNE
namespace Go.Proofs.YtokmjjkbginodaaGreatDoor
open Go.RowKit
set_option maxRecDepth 100000
set_option maxHeartbeats 16000000
theorem DF {f:List Gn} {r:List Att} (h:nmZZ f r):(nmC f r).length≤90000006:=by
 have a:(Bm f).length≤90000000:=h.f.e
 have b:(Dj r).length≤90000000:=h.r.e
 have e1:=As 2 1 true (Dj r) (by omega)
 have e2:=As 2 0 true (Bm f) (by omega)
 unfold nmC
 split<;>omega
theorem Zp {c:Prop} [Decidable c] {w:List UInt8}:(if c then [w] else []).flatten.length≤w.length∧(if c then [w] else []).length≤1:=by
 split<;>simp
theorem iI {p:Pt} (h:p.z):(Jq p).flatten.length≤300000000∧(Jq p).length≤3:=by
 have a:=DF h.m
 have b:(Bm p.i).length≤90000000:=h.i.e
 have c:=E1 p.s.toNat
 have e1:=As 2 0 true (nmC p.f p.r) (by omega)
 have e2:=As 2 1 false (Dd p.s.toNat) (by omega)
 have e3:=As 2 2 true (Bm p.i) (by omega)
 have f1:=@Zp (p.f≠[]∨p.r≠[]) _ (Ah 2 0 true (nmC p.f p.r))
 have f2:=@Zp (p.s≠0) _ (Ah 2 1 false (Dd p.s.toNat))
 have f3:=@Zp (p.i≠[]) _ (Ah 2 2 true (Bm p.i))
 unfold Jq
 simp only[List.flatten_append,Ap]
 omega
theorem OH {f:List Gn} {r:List Att}:(¬(f≠[]∨r≠[])∧plO (cJ f r)=A4)∨((f≠[]∨r≠[])∧plO (cJ f r)=Bx 0 1 22 Dn [Ah 2 0 true (nmC f r)]):=by
 unfold cJ
 by_cases h:f≠[]∨r≠[]
 ·rw[if_pos h];exact .inr ⟨h,rfl⟩
 ·rw[if_neg h];exact .inl ⟨h,rfl⟩
theorem OI (n:Nat) {s:Nat}:(¬((s:Int)≠0)∧plO (rsP n s)=A4)∨(((s:Int)≠0)∧plO (rsP n s)=Bx 0 1 22 Dn [Ah 2 n false (Dd s)]):=by
 unfold rsP
 by_cases h:(s:Int)≠0
 ·rw[if_pos h];exact .inr ⟨h,rfl⟩
 ·rw[if_neg h];exact .inl ⟨h,rfl⟩
theorem Xh {p:Prop} (h:p:=by first|rfl|(simp only[AV.gives,AV.ren,AV.give,D.un,D.uns,An,Ao,List.nil_append,List.append_nil,List.cons_append,AV.frz,AV.frzs,Av,A9,Ca,Bn,Bd,B8,Ck,Bw,Bl,Bx,Bf];first|done|rfl)):p:=h
theorem iJ (p:Pt) (h:p.z):Ab Tryz.prog 30 [dpA p] (fun q=>q=Oh (ptW p) (ptE p)):=by
 have hV:=iH p h
 cases hw:ptW p
 ·rw[hw] at hV
  show Ab _ _ _ (fun q=>q= .tup [A4,iv 8])
  refine acQ 29 Tryz.func30 rfl rfl fun _ _ _=> ?_
  (repeat'((conv=>whnf);first|refine Ac ?_|refine Aa hV Xh ?_|exact zE))
 rw[hw] at hV
 show Ab _ _ _ (fun q=>q= .tup [Bb 0 5 (ptE p),iv 0])
 obtain⟨w1,w2,w3,-⟩:=H5.1 hw
 obtain⟨l1,l2⟩:=iI h
 have hS:=F1 48 (Jq p) (by omega) (by omega)
 have eS:Kb 48 (Jq p).flatten=ptE p:=by rw[←Rf];rfl
 rw[eS] at hS
 have hN:=vG p.f p.r h.m.f h.m.r w1
 have hB:=DE 1 p.s.toNat 129 (by unfold rsW at w2;omega) rfl
 have hT:p.i.all gnW=true→Ab Tryz.prog 61 [cv 162,.d (Gy p.i)] (fun r=>r=Bb 0 5 (Ah 2 2 true (Bm p.i))):=gV 162 p.i h.i
 have hin:=h.i.n
 unfold Jq at hS
 generalize ptE p=R at hS⊢
 clear hw eS l1 l2
 obtain⟨f,r,s,i⟩:=p
 simp only at*
 clear h
 obtain⟨n,rfl⟩:=Int.eq_ofNat_of_zero_le w2.1
 rw[Int.toNat_natCast] at*
 have hk:=@OH f r
 have hn0:=@OI 1 n
 have hi0:(i=[]∧¬(i≠[]))∨(i≠[]∧decide ((i.length:Int)>0)=true∧i.all gnW=true):=by
  by_cases h:i=[]
  ·exact .inl ⟨h,fun a=>a h⟩
  ·exact .inr ⟨h,Rb h,w3.resolve_left h⟩
 generalize plO (cJ f r)=N at hN hk
 generalize plO (rsP 1 n)=B at hB hn0
 generalize Ah 2 1 false (Dd n)=p1 at hn0 hS
 generalize Ah 2 0 true (nmC f r)=p0 at hk hS
 generalize Ah 2 2 true (Bm i)=p2 at hT hS
 rcases hi0 with⟨rfl,i1⟩|⟨i1,gi,gw⟩
 all_goals rcases hk with⟨e0,rfl⟩|⟨e0,rfl⟩
 all_goals rcases hn0 with⟨n0,rfl⟩|⟨n0,rfl⟩
 all_goals
  first|rw[if_neg i1] at hS|(rw[if_pos i1] at hS;have hT:=hT gw)
  first|rw[if_neg e0] at hS|rw[if_pos e0] at hS
  first|rw[if_neg n0] at hS|rw[if_pos n0] at hS
  simp only[List.nil_append,List.cons_append,List.append_nil] at hS
  refine acQ 29 Tryz.func30 rfl rfl fun _ _ _=> ?_
  (repeat'((conv=>whnf);first|refine zP ?_|refine Ae ?_|refine Aa hV Xh ?_|refine Aa hN Xh ?_|refine Aa hB rfl ?_|refine Aa hT Xh ?_|(refine NApp.tab Dn (l:=[p0]) (m:=[p1]) rfl rfl ?_)|(refine NApp.tab Dn (l:=[p0]) (m:=[]) rfl rfl ?_)|(refine NApp.tab0 Dn (m:=[p1]) rfl rfl ?_)|(refine NApp.tab0 Dn (m:=[]) rfl rfl ?_)|refine A2 Dn p2 ?_|refine Aa hS Xh ?_|refine zF ?_|exact zE))
theorem nmZZ.q {f:List Gn} {r:List Att} (h:nmZZ f r):nmEq f r:=⟨⟨by have:=h.f.n;omega,fun p hp=>(h.f.z p hp).q⟩,⟨by have:=h.r.l;omega,fun p hp=>⟨by have:=(h.r.a p hp).v;omega⟩⟩⟩
abbrev ptF (p:Pt):AV:= .agg [.d (Tb p.f),.d (Jn p.r),iv p.s,.d (Tb p.i)]
def JH (t:Tr):AV:=if(t.kid 0).n=0 then .tup [.d (Tb ((t.kid 0).ks.map Bg)),A4] else .tup [A4,.d (Jn (Ei (t.kid 0)))]
theorem Ni {p:Prop} (h:p:=by first|rfl|(simp only[AV.gives,AV.ren,AV.give,D.un,D.uns,An,Ao,List.nil_append,List.append_nil,List.cons_append,Av,A9,Ca,Bn,Bd,B8,Ck,Bw,Bl,Bx,Bf,Tr.cellss_un,Lx,Q6];first|done|rfl)):p:=h
theorem DG (t:Tr) (h:t.ok) (hl:t.enc.length≤3004):Ab Tryz.prog 55 [trF t] (fun r=>r=JH t):=by
 obtain⟨a1,a2⟩:=Jd h 0
 have hK:=Il t 0 (by omega)
 have hk:=Ji a1
 have hc:=Tr.encs_two (t.kid 0).ks
 have hp:=(t.kid 0).parts
 unfold JH
 generalize t.kid 0=u at a1 a2 hK hk hc hp⊢
 have hG:=Ze u (by omega) fun k hm=>JY (hk k hm).1 (by have:=(hk k hm).2;omega)
 have hR:=Zb u (by omega) fun k hm=>JX (hk k hm).1 (by have:=(hk k hm).2;omega)
 clear hk hc hp a1
 obtain⟨c,n,k,v,ks⟩:=u
 have e1:(Tr.mk c n k v ks).n=n:=rfl
 have e2:(Tr.mk c n k v ks).ks=ks:=rfl
 rw[e1,e2]
 rw[e2] at hG
 generalize ks.map Bg=g at hG⊢
 generalize Ei (Tr.mk c n k v ks)=q at hR⊢
 clear h hl a2 e1 e2
 obtain⟨tc,tn,tk,tv,tks⟩:=t
 simp only[Bv] at hK hG hR⊢
 by_cases h0:n=0
 ·rw[if_pos h0]
  subst h0
  refine acQ 14 Tryz.func55 rfl rfl fun _ _ _=> ?_
  (repeat'((conv=>whnf);first|refine Ac ?_|refine Aa hK Ni ?_|refine Aa hG Ni ?_|exact zE))
 ·rw[if_neg h0]
  have g0:((n:Int)==0)=false:=by rw[beq_eq_false_iff_ne];omega
  refine acQ 14 Tryz.func55 rfl rfl fun _ _ _=> ?_
  (repeat'((conv=>whnf);first|refine zN ?_|refine Aa hK Ni ?_|refine Aa hR Ni ?_|exact zE))
theorem vH (t:Tr) (hl:t.v.length≤1000000):Ab Tryz.prog 56 [trF t] (fun r=>r=iv (rdS t.v)):=by
 have hll:=E1 (Hc (L7 t.v).1 (L7 t.v).2 9)
 obtain⟨k,hD⟩:=mG t.v hl (Cw false false _ _ (by omega) (by omega))
 rw[IU] at hD
 obtain⟨c,n,kk,v,ks⟩:=t
 rw[Bv]
 have e:(Tr.mk c n kk v ks).v=v:=rfl
 rw[e] at hD⊢
 refine acQ 12 Tryz.func56 rfl rfl fun _ _ _=> ?_
 (repeat'((conv=>whnf);refine Aa hD Ni ?_));(all_goals(conv=>whnf))
 all_goals exact zE
theorem RB (t:Tr) (_:t.ok) (hl:t.enc.length≤3004):t.v.length≤1000000:=by
 have:=t.parts
 omega
theorem iK {α β:Type} (f:β→α→β) (b:β) {l:List α} {i:Nat} {x:α} (h:l[i]?=some x):(l.take (i+1)).foldl f b=f ((l.take i).foldl f b) x:=by
 obtain⟨hlt,he⟩:=Aw.1 h
 rw[List.take_succ_eq_append_getElem hlt,he,List.foldl_append];rfl
theorem iL (t:Tr) (hn:t.ks.length≤100000) (hk:∀k∈t.ks,k.ok∧k.enc.length≤3004):Ab Tryz.prog 29 [trF t] (fun r=>r=ptF (D6 t)):=by
 obtain⟨c,n,k,b,ks⟩:=t
 rw[Bv]
 unfold D6
 simp only[Tr.ks] at hn hk⊢
 refine acQ 50 Tryz.func29 rfl rfl fun _ _ _=> ?_
 (all_goals(conv=>whnf))
 refine Ax (fun z:Nat×Pt=>z.1≤ks.length∧(ks.take z.1).foldl Ng pt0=z.2) (fun z=>ks.length-z.1) (fun z=>⟨[(1,.ptr 1 0),(2,.ptr 2 0),(3,.ptr 3 0),(4,iv z.1)],[(1,[iv c,iv n,bv k,.d (Af false b),.d (.sl false ks.length 5 (Tr.cellss false ks))]),(2,[A4,A4,iv 0,A4]),(3,[.d (Tb z.2.f),.d (Jn z.2.r),iv z.2.s,.d (Tb z.2.i)])],[]⟩) (0,pt0) ⟨by simp,rfl⟩ leQ ?_
 rintro⟨i,f,r,s,ii⟩ ⟨hi,he⟩
 simp only at hi he
 by_cases hik:i<ks.length
 ·have gi:decide ((i:Int)<ks.length)=true:=decide_eq_true (by omega)
  obtain⟨x,hg⟩:∃p,ks[i]?=some p:=⟨_,Am hik⟩
  obtain⟨x1,x2⟩:=hk x (A8 hg)
  have hN:=DG x x1 x2
  have hS:=vH x (RB x x1 x2)
  obtain⟨z1,z2,-⟩:=OE x1 (by omega)
  have hG:=Ze x z1 z2
  have hfs:=iK Ng pt0 hg
  rw[he] at hfs
  have hst:Ng ⟨f,r,s,ii⟩ x=if x.n=0 then⟨(Le x).1,(Le x).2,s,ii⟩ else if x.n=1 then⟨f,r,rdS x.v,ii⟩ else if x.n=2 then⟨f,r,s,x.ks.map Bg⟩ else⟨f,r,s,ii⟩:=rfl
  rw[hst] at hfs
  have hnA:JH x=(if(x.kid 0).n=0 then .tup [.d (Tb ((x.kid 0).ks.map Bg)),A4] else .tup [A4,.d (Jn (Ei (x.kid 0)))]):=rfl
  have hnE:Le x=if(x.kid 0).n=0 then((x.kid 0).ks.map Bg,[]) else([],Ei (x.kid 0)):=rfl
  generalize JH x=NA at hN hnA
  generalize Le x=NE at hfs hnE
  generalize rdS x.v=SS at hS hfs
  generalize (x.kid 0).ks.map Bg=kg at hnA hnE
  generalize Ei (x.kid 0)=kr at hnA hnE
  clear hst z1 z2 x1 x2
  have hxn:x.n=x.n:=rfl
  generalize hN0:(x.kid 0).n=k0 at hnA hnE
  clear hN0
  obtain⟨c',n',k',b',ks'⟩:=x
  rw[Bv] at hN hS hG
  have e1:(Tr.mk c' n' k' b' ks').n=n':=rfl
  have e2:(Tr.mk c' n' k' b' ks').ks=ks':=rfl
  rw[e1,e2] at hfs
  rw[e2] at hG
  clear hxn e1 e2
  generalize ks'.map Bg=is2 at hG hfs
  by_cases n0:n'=0
  ·have g0:((n':Int)==0)=true:=by rw[beq_iff_eq];omega
   rw[if_pos n0] at hfs
   by_cases h0:k0=0
   all_goals
    first|rw[if_pos h0] at hnA hnE|rw[if_neg h0] at hnA hnE
    subst hnA hnE
    (repeat'((conv=>whnf);first|refine zP ?_|(refine Fc hg ?_)|refine Aa hN Ni ?_|(with_reducible refine NInt.i64 ?_)));(all_goals(conv=>whnf))
    refine⟨(i+1,_),⟨by show i+1≤_;omega,hfs⟩,by show ks.length-(i+1)<ks.length-i;omega,?_⟩
    exact leQ
  have g0:((n':Int)==0)=false:=by rw[beq_eq_false_iff_ne];omega
  rw[if_neg n0] at hfs
  by_cases n1:n'=1
  ·have g1:((n':Int)==1)=true:=by rw[beq_iff_eq];omega
   rw[if_pos n1] at hfs
   (repeat'((conv=>whnf);first|refine zP ?_|refine zN ?_|(refine Fc hg ?_)|refine Aa hS Ni ?_|(with_reducible refine NInt.i64 ?_)));(all_goals(conv=>whnf))
   refine⟨(i+1,_),⟨by show i+1≤_;omega,hfs⟩,by show ks.length-(i+1)<ks.length-i;omega,?_⟩
   exact leQ
  have g1:((n':Int)==1)=false:=by rw[beq_eq_false_iff_ne];omega
  rw[if_neg n1] at hfs
  by_cases n2:n'=2
  ·have g2:((n':Int)==2)=true:=by rw[beq_iff_eq];omega
   rw[if_pos n2] at hfs
   (repeat'((conv=>whnf);first|refine zP ?_|refine zN ?_|(refine Fc hg ?_)|refine Aa hG Ni ?_|(with_reducible refine NInt.i64 ?_)));(all_goals(conv=>whnf))
   refine⟨(i+1,_),⟨by show i+1≤_;omega,hfs⟩,by show ks.length-(i+1)<ks.length-i;omega,?_⟩
   exact leQ
  have g2:((n':Int)==2)=false:=by rw[beq_eq_false_iff_ne];omega
  rw[if_neg n2] at hfs
  (repeat'((conv=>whnf);first|refine zP ?_|refine zN ?_|(refine Fc hg ?_)|(with_reducible refine NInt.i64 ?_)));(all_goals(conv=>whnf))
  refine⟨(i+1,_),⟨by show i+1≤_;omega,hfs⟩,by show ks.length-(i+1)<ks.length-i;omega,?_⟩
  exact leQ
 ·have gi:decide ((i:Int)<ks.length)=false:=decide_eq_false (by omega)
  obtain rfl:i=ks.length:=by omega
  rw[List.take_length] at he
  rw[he]
  (repeat'((conv=>whnf);refine zN ?_));(all_goals(conv=>whnf))
  all_goals exact zE
end Go.Proofs.YtokmjjkbginodaaGreatDoor
