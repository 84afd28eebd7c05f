/- NG: the texts Prp Prr, one behind the other. No condition but what each lemma says. -/
import Derived.Test.YtaoahmplnckhpaaGreatDoorNE
namespace Go.Proofs.YtaoahmplnckhpaaGreatDoor
open Go.RowKit
set_option maxRecDepth 100000
set_option maxHeartbeats 16000000
theorem gX {f:List Gn} {r:List Att} (h:nmZZ f r):(nmC f r).length≤90000006:=by
 have a:(B7 f).length≤90000000:=h.f.e
 have b:(En r).length≤90000000:=h.r.e
 have e1:=Ar 2 1 true (En r) (by omega)
 have e2:=Ar 2 0 true (B7 f) (by omega)
 unfold nmC
 split<;>omega
theorem Zb {c:Prop} [Decidable c] {w:List UInt8}:(if c then [w] else []).flatten.length≤w.length∧(if c then [w] else []).length≤1:=by
 split<;>simp
theorem gY {p:Pt} (h:p.z):(Lw p).flatten.length≤300000000∧(Lw p).length≤3:=by
 have a:=gX h.m
 have b:(B7 p.i).length≤90000000:=h.i.e
 have c:=Ez p.s.toNat
 have e1:=Ar 2 0 true (nmC p.f p.r) (by omega)
 have e2:=Ar 2 1 false (C9 p.s.toNat) (by omega)
 have e3:=Ar 2 2 true (B7 p.i) (by omega)
 have f1:=@Zb (p.f≠[]∨p.r≠[]) _ (Ah 2 0 true (nmC p.f p.r))
 have f2:=@Zb (p.s≠0) _ (Ah 2 1 false (C9 p.s.toNat))
 have f3:=@Zb (p.i≠[]) _ (Ah 2 2 true (B7 p.i))
 unfold Lw
 simp only[List.flatten_append,Ak]
 omega
theorem BN {f:List Gn} {r:List Att}:(¬(f≠[]∨r≠[])∧plO (Xp f r)=A3)∨((f≠[]∨r≠[])∧plO (Xp f r)=Bw 0 1 33 Du [Ah 2 0 true (nmC f r)]):=by
 unfold Xp
 by_cases h:f≠[]∨r≠[]
 ·rw[if_pos h];exact .inr ⟨h,rfl⟩
 ·rw[if_neg h];exact .inl ⟨h,rfl⟩
theorem BO (n:Nat) {s:Nat}:(¬((s:Int)≠0)∧plO (rsP n s)=A3)∨(((s:Int)≠0)∧plO (rsP n s)=Bw 0 1 33 Du [Ah 2 n false (C9 s)]):=by
 unfold rsP
 by_cases h:(s:Int)≠0
 ·rw[if_pos h];exact .inr ⟨h,rfl⟩
 ·rw[if_neg h];exact .inl ⟨h,rfl⟩
theorem Sa {p:Prop} (h:p:=by first|rfl|(simp only[AV.gives,AV.ren,AV.give,D.un,D.uns,Aj,Am,List.nil_append,List.append_nil,List.cons_append,AV.frz,AV.frzs,Av,A6,Cc,Bn,A8,B5,Cj,B6,Bk,Bw,Bd];first|done|rfl)):p:=h
theorem BP (p:Pt) (h:p.z):Ab Tryz.prog 42 [dpA p] (fun q=>q=O8 (ptW p) (ptE p)):=by
 have hV:=BK p h
 cases hw:ptW p
 ·rw[hw] at hV
  show Ab _ _ _ (fun q=>q= .tup [A3,iv 8])
  refine acQ 29 Tryz.func42 rfl rfl fun _ _ _=> ?_
  (repeat'((conv=>whnf);first|refine Ac ?_|refine Aa hV Sa ?_|exact zE))
 rw[hw] at hV
 show Ab _ _ _ (fun q=>q= .tup [A7 0 5 (ptE p),iv 0])
 obtain⟨w1,w2,w3,-⟩:=Ju.1 hw
 obtain⟨l1,l2⟩:=gY h
 have hS:=Fv 48 (Lw p) (by omega) (by omega)
 have eS:J3 48 (Lw p).flatten=ptE p:=by rw[←Q4];rfl
 rw[eS] at hS
 have hN:=Za p.f p.r h.m.f h.m.r w1
 have hB:=gW 1 p.s.toNat 129 (by unfold rsW at w2;omega) rfl
 have hT:p.i.all gnW=true→Ab Tryz.prog 84 [cv 162,.d (G3 p.i)] (fun r=>r=A7 0 5 (Ah 2 2 true (B7 p.i))):=gJ 162 p.i h.i
 have hin:=h.i.n
 unfold Lw at hS
 generalize ptE p=R at hS⊢
 clear hw eS l1 l2
 obtain⟨f,r,s,i⟩:=p
 simp only at*
 clear h
 obtain⟨n,rfl⟩:=Int.eq_ofNat_of_zero_le w2.1
 rw[Int.toNat_natCast] at*
 have hk:=@BN f r
 have hn0:=@BO 1 n
 have hi0:(i=[]∧¬(i≠[]))∨(i≠[]∧decide ((i.length:Int)>0)=true∧i.all gnW=true):=by
  by_cases h:i=[]
  ·exact .inl ⟨h,fun a=>a h⟩
  ·exact .inr ⟨h,R4 h,w3.resolve_left h⟩
 generalize plO (Xp f r)=N at hN hk
 generalize plO (rsP 1 n)=B at hB hn0
 generalize Ah 2 1 false (C9 n)=p1 at hn0 hS
 generalize Ah 2 0 true (nmC f r)=p0 at hk hS
 generalize Ah 2 2 true (B7 i)=p2 at hT hS
 rcases hi0 with⟨rfl,i1⟩|⟨i1,gi,gw⟩
 all_goals rcases hk with⟨e0,rfl⟩|⟨e0,rfl⟩
 all_goals rcases hn0 with⟨n0,rfl⟩|⟨n0,rfl⟩
 all_goals
  first|rw[if_neg i1] at hS|(rw[if_pos i1] at hS;have hT:=hT gw)
  first|rw[if_neg e0] at hS|rw[if_pos e0] at hS
  first|rw[if_neg n0] at hS|rw[if_pos n0] at hS
  simp only[List.nil_append,List.cons_append,List.append_nil] at hS
  refine acQ 29 Tryz.func42 rfl rfl fun _ _ _=> ?_
  (repeat'((conv=>whnf);first|refine zP ?_|refine Ae ?_|refine Aa hV Sa ?_|refine Aa hN Sa ?_|refine Aa hB rfl ?_|refine Aa hT Sa ?_|(refine NApp.tab Du (l:=[p0]) (m:=[p1]) rfl rfl ?_)|(refine NApp.tab Du (l:=[p0]) (m:=[]) rfl rfl ?_)|(refine NApp.tab0 Du (m:=[p1]) rfl rfl ?_)|(refine NApp.tab0 Du (m:=[]) rfl rfl ?_)|refine A4 Du p2 ?_|refine Aa hS Sa ?_|refine zF ?_|exact zE))
theorem GS (x:Iss):isW x=(GQ x.u x.c x.a&&(!decide (x=is0)&&plV x.f x.r x.s)):=by
 have hz:x=is0↔¬Sy x:=by
  obtain⟨f,r,u,c,n,a,s⟩:=x
  unfold is0 Sy
  simp only[Iss.mk.injEq]
  cases u<;>cases c<;>cases n<;>cases a<;>simp
 unfold isW plV Qx GQ
 obtain⟨f,r,u,c,n,a,s⟩:=x
 simp only at hz⊢
 rw[Bool.eq_iff_iff]
 simp only[decide_eq_true_iff,At,Bool.not_eq_true',decide_eq_false_iff_not,hz,Decidable.not_not]
 cases u<;>cases c<;>cases a<;>simp[and_assoc,and_comm]
theorem GT (x:Iss) (h:nmEq x.f x.r):Ab Tryz.prog 20 [diA x,.agg [.d (G3 []),.d (He []),bv false,bv false,bv false,bv false,iv 0]] (fun r=>r=bv (decide (x=is0))):=bV x is0 h ⟨⟨by simp[is0],fun p hp=>by simp[is0] at hp⟩,⟨by simp[is0],fun p hp=>by simp[is0] at hp⟩⟩
theorem nmZZ.q {f:List Gn} {r:List Att} (h:nmZZ f r):nmEq f r:=⟨⟨by have:=h.f.n;omega,fun p hp=>(h.f.z p hp).q⟩,⟨by have:=h.r.l;omega,fun p hp=>⟨by have:=(h.r.a p hp).v;omega⟩⟩⟩
theorem ML {p:Prop} (h:p:=by((try simp only[AV.gives,AV.ren,AV.give,D.un,D.uns,Aj,Am,List.nil_append,List.append_nil,List.cons_append,AV.frz,AV.frzs,Av,A6,Cc,Bn,A8,B5,Cj,B6,Bk,Bw,Bd]);(repeat'(first|exact trivial|exact Bm _|refine And.intro ?_ ?_|exact rfl|exact Or.inr rfl|exact Or.inl rfl|exact Or.inl (by rfl)|omega|refine Or.inr ?_));first|done|fail)):p:=h
theorem BQ (x:Iss) (h:nmZZ x.f x.r):Ab Tryz.prog 33 [diA x] (fun q=>q=bv (isW x)):=by
 have hN:=W6 x.f x.r x.s h.f h.r
 have hZ:=GT x h.q
 have n1:=h.f.n
 have n2:=h.r.l
 rw[GS]
 generalize decide (x=is0)=z at hZ⊢
 obtain⟨f,r,u,c,n,a,s⟩:=x
 simp only at hN hZ n1 n2⊢
 clear h
 generalize plV f r s=w at hN⊢
 cases u<;>cases c<;>cases a<;>cases z<;>cases w
 all_goals
  refine acQ 37 Tryz.func33 rfl rfl fun _ _ _=> ?_
  (repeat'((conv=>whnf);first|refine Ac ?_|refine Ae ?_|refine Be hZ ML ?_|refine Aa hN Sa ?_|exact zE))
abbrev ptF (p:Pt):AV:= .agg [.d (Wn p.f),.d (Li p.r),iv p.s,.d (Wn p.i)]
abbrev isF (x:Iss):AV:= .agg [.d (Wn x.f),.d (Li x.r),bv x.u,bv x.c,bv x.n,bv x.a,iv x.s]
def tU (t:Tr):AV:=if(t.kid 0).n=0 then .tup [.d (Wn ((t.kid 0).ks.map Bg)),A3] else .tup [A3,.d (Li (Em (t.kid 0)))]
theorem M4 {p:Prop} (h:p:=by first|rfl|(simp only[AV.gives,AV.ren,AV.give,D.un,D.uns,Aj,Am,List.nil_append,List.append_nil,List.cons_append,Av,A6,Cc,Bn,A8,B5,Cj,B6,Bk,Bw,Bd,Tr.cellss_un,Qq,Tx];first|done|rfl)):p:=h
theorem gZ (t:Tr) (h:t.ok) (hl:t.enc.length≤3004):Ab Tryz.prog 79 [trF t] (fun r=>r=tU t):=by
 obtain⟨a1,a2⟩:=J8 h 0
 have hK:=Ig t 0 (by omega)
 have hk:=Lz a1
 have hc:=Tr.encs_two (t.kid 0).ks
 have hp:=(t.kid 0).parts
 unfold tU
 generalize t.kid 0=u at a1 a2 hK hk hc hp⊢
 have hG:=Yz u (by omega) fun k hm=>IC (hk k hm).1 (by have:=(hk k hm).2;omega)
 have hR:=Yw u (by omega) fun k hm=>IB (hk k hm).1 (by have:=(hk k hm).2;omega)
 clear hk hc hp a1
 obtain⟨c,n,k,v,ks⟩:=u
 have e1:(Tr.mk c n k v ks).n=n:=rfl
 have e2:(Tr.mk c n k v ks).ks=ks:=rfl
 rw[e1,e2]
 rw[e2] at hG
 generalize ks.map Bg=g at hG⊢
 generalize Em (Tr.mk c n k v ks)=q at hR⊢
 clear h hl a2 e1 e2
 obtain⟨tc,tn,tk,tv,tks⟩:=t
 simp only[Bt] at hK hG hR⊢
 by_cases h0:n=0
 ·rw[if_pos h0]
  subst h0
  refine acQ 14 Tryz.func79 rfl rfl fun _ _ _=> ?_
  (repeat'((conv=>whnf);first|refine Ac ?_|refine Aa hK M4 ?_|refine Aa hG M4 ?_|exact zE))
 ·rw[if_neg h0]
  have g0:((n:Int)==0)=false:=by rw[beq_eq_false_iff_ne];omega
  refine acQ 14 Tryz.func79 rfl rfl fun _ _ _=> ?_
  (repeat'((conv=>whnf);first|refine zN ?_|refine Aa hK M4 ?_|refine Aa hR M4 ?_|exact zE))
theorem Zc (t:Tr) (hl:t.v.length≤1000000):Ab Tryz.prog 80 [trF t] (fun r=>r=iv (rdS t.v)):=by
 have hll:=Ez (Ha (L2 t.v).1 (L2 t.v).2 9)
 obtain⟨k,hD⟩:=lX t.v hl (Cz false false _ _ (by omega) (by omega))
 rw[GF] at hD
 obtain⟨c,n,kk,v,ks⟩:=t
 rw[Bt]
 have e:(Tr.mk c n kk v ks).v=v:=rfl
 rw[e] at hD⊢
 refine acQ 12 Tryz.func80 rfl rfl fun _ _ _=> ?_
 (repeat'((conv=>whnf);refine Aa hD M4 ?_));(all_goals(conv=>whnf))
 all_goals exact zE
theorem OB (t:Tr) (_:t.ok) (hl:t.enc.length≤3004):t.v.length≤1000000:=by
 have:=t.parts
 omega
theorem Sz {α β:Type} (f:β→α→β) (b:β) {l:List α} {i:Nat} {x:α} (h:l[i]?=some x):(l.take (i+1)).foldl f b=f ((l.take i).foldl f b) x:=by
 obtain⟨hlt,he⟩:=Az.1 h
 rw[List.take_succ_eq_append_getElem hlt,he,List.foldl_append];rfl
theorem BR (t:Tr) (hn:t.ks.length≤100000) (hk:∀k∈t.ks,k.ok∧k.enc.length≤3004):Ab Tryz.prog 41 [trF t] (fun r=>r=ptF (Qz t)):=by
 obtain⟨c,n,k,b,ks⟩:=t
 rw[Bt]
 unfold Qz
 simp only[Tr.ks] at hn hk⊢
 refine acQ 50 Tryz.func41 rfl rfl fun _ _ _=> ?_
 (all_goals(conv=>whnf))
 refine A1 (fun z:Nat×Pt=>z.1≤ks.length∧(ks.take z.1).foldl Ph pt0=z.2) (fun z=>ks.length-z.1) (fun z=>⟨[(1,.ptr 1 0),(2,.ptr 2 0),(3,.ptr 3 0),(4,iv z.1)],[(1,[iv c,iv n,bv k,.d (Af false b),.d (.sl false ks.length 5 (Tr.cellss false ks))]),(2,[A3,A3,iv 0,A3]),(3,[.d (Wn z.2.f),.d (Li z.2.r),iv z.2.s,.d (Wn z.2.i)])],[]⟩) (0,pt0) ⟨by simp,rfl⟩ leQ ?_
 rintro⟨i,f,r,s,ii⟩ ⟨hi,he⟩
 simp only at hi he
 by_cases hik:i<ks.length
 ·have gi:decide ((i:Int)<ks.length)=true:=decide_eq_true (by omega)
  obtain⟨x,hg⟩:∃p,ks[i]?=some p:=⟨_,An hik⟩
  obtain⟨x1,x2⟩:=hk x (Bi hg)
  have hN:=gZ x x1 x2
  have hS:=Zc x (OB x x1 x2)
  obtain⟨z1,z2,-⟩:=MI x1 (by omega)
  have hG:=Yz x z1 z2
  have hfs:=Sz Ph pt0 hg
  rw[he] at hfs
  have hst:Ph ⟨f,r,s,ii⟩ x=if x.n=0 then⟨(Hc x).1,(Hc x).2,s,ii⟩ else if x.n=1 then⟨f,r,rdS x.v,ii⟩ else if x.n=2 then⟨f,r,s,x.ks.map Bg⟩ else⟨f,r,s,ii⟩:=rfl
  rw[hst] at hfs
  have hnA:tU x=(if(x.kid 0).n=0 then .tup [.d (Wn ((x.kid 0).ks.map Bg)),A3] else .tup [A3,.d (Li (Em (x.kid 0)))]):=rfl
  have hnE:Hc x=if(x.kid 0).n=0 then((x.kid 0).ks.map Bg,[]) else([],Em (x.kid 0)):=rfl
  generalize tU x=NA at hN hnA
  generalize Hc x=NE at hfs hnE
  generalize rdS x.v=SS at hS hfs
  generalize (x.kid 0).ks.map Bg=kg at hnA hnE
  generalize Em (x.kid 0)=kr at hnA hnE
  clear hst z1 z2 x1 x2
  have hxn:x.n=x.n:=rfl
  generalize hN0:(x.kid 0).n=k0 at hnA hnE
  clear hN0
  obtain⟨c',n',k',b',ks'⟩:=x
  rw[Bt] at hN hS hG
  have e1:(Tr.mk c' n' k' b' ks').n=n':=rfl
  have e2:(Tr.mk c' n' k' b' ks').ks=ks':=rfl
  rw[e1,e2] at hfs
  rw[e2] at hG
  clear hxn e1 e2
  generalize ks'.map Bg=is2 at hG hfs
  by_cases n0:n'=0
  ·have g0:((n':Int)==0)=true:=by rw[beq_iff_eq];omega
   rw[if_pos n0] at hfs
   by_cases h0:k0=0
   all_goals
    first|rw[if_pos h0] at hnA hnE|rw[if_neg h0] at hnA hnE
    subst hnA hnE
    (repeat'((conv=>whnf);first|refine zP ?_|(refine Dd hg ?_)|refine Aa hN M4 ?_|(with_reducible refine NInt.i64 ?_)));(all_goals(conv=>whnf))
    refine⟨(i+1,_),⟨by show i+1≤_;omega,hfs⟩,by show ks.length-(i+1)<ks.length-i;omega,?_⟩
    exact leQ
  have g0:((n':Int)==0)=false:=by rw[beq_eq_false_iff_ne];omega
  rw[if_neg n0] at hfs
  by_cases n1:n'=1
  ·have g1:((n':Int)==1)=true:=by rw[beq_iff_eq];omega
   rw[if_pos n1] at hfs
   (repeat'((conv=>whnf);first|refine zP ?_|refine zN ?_|(refine Dd hg ?_)|refine Aa hS M4 ?_|(with_reducible refine NInt.i64 ?_)));(all_goals(conv=>whnf))
   refine⟨(i+1,_),⟨by show i+1≤_;omega,hfs⟩,by show ks.length-(i+1)<ks.length-i;omega,?_⟩
   exact leQ
  have g1:((n':Int)==1)=false:=by rw[beq_eq_false_iff_ne];omega
  rw[if_neg n1] at hfs
  by_cases n2:n'=2
  ·have g2:((n':Int)==2)=true:=by rw[beq_iff_eq];omega
   rw[if_pos n2] at hfs
   (repeat'((conv=>whnf);first|refine zP ?_|refine zN ?_|(refine Dd hg ?_)|refine Aa hG M4 ?_|(with_reducible refine NInt.i64 ?_)));(all_goals(conv=>whnf))
   refine⟨(i+1,_),⟨by show i+1≤_;omega,hfs⟩,by show ks.length-(i+1)<ks.length-i;omega,?_⟩
   exact leQ
  have g2:((n':Int)==2)=false:=by rw[beq_eq_false_iff_ne];omega
  rw[if_neg n2] at hfs
  (repeat'((conv=>whnf);first|refine zP ?_|refine zN ?_|(refine Dd hg ?_)|(with_reducible refine NInt.i64 ?_)));(all_goals(conv=>whnf))
  refine⟨(i+1,_),⟨by show i+1≤_;omega,hfs⟩,by show ks.length-(i+1)<ks.length-i;omega,?_⟩
  exact leQ
 ·have gi:decide ((i:Int)<ks.length)=false:=decide_eq_false (by omega)
  obtain rfl:i=ks.length:=by omega
  rw[List.take_length] at he
  rw[he]
  (repeat'((conv=>whnf);refine zN ?_));(all_goals(conv=>whnf))
  all_goals exact zE
end Go.Proofs.YtaoahmplnckhpaaGreatDoor
