/- NJ: the texts Pll Prl, one behind the other. No condition but what each lemma says. -/
import Derived.Test.YtokmjjkbginodaaGreatDoorNI
namespace Go.Proofs.YtokmjjkbginodaaGreatDoor
open Go.RowKit
set_option maxRecDepth 100000
set_option maxHeartbeats 16000000
theorem cK (p:Pt):D.uns (ptC p)=ptC p:=by simp only[ptC,D.uns,D.un,Ca,Bn]
theorem JJ (l:List Pt):D.uns (l.flatMap ptC)=l.flatMap ptC:=by
 induction l with
 |nil=>rfl
 |cons g r ih=>rw[List.flatMap_cons,D.uns_app,cK,ih]
theorem cL (l:List Pt):(Kk l).un=Kk l:=by
 show D.sl false l.length 4 (D.uns (l.flatMap ptC))=_
 rw[JJ];rfl
structure ptsM (l:List Pt):Prop where
 n:l.length≤1000000
 m:∀p∈l,p.sm∧L2 p.s
 e:(l.map ptE).flatten.length≤800000000
theorem H0 {p:Prop} (h:p:=by first|rfl|(simp only[AV.gives,AV.ren,AV.give,D.un,D.uns,An,Ao,List.nil_append,List.append_nil,List.cons_append,AV.share,AV.shares,Av,A9,Ca,Bn,Bd,B8,Ck,Bw,Bl,Bx,Bf,Ee,Ef,J3,Oa,N9,cL,cK];first|done|rfl)):p:=h
theorem vI (p:Pt) (h:p.mid) (hs:L2 p.s):Ab Tryz.prog 37 [dpA p] (fun q=>q=bv (!ptW p)):=by
 have hV:=Sg p h hs
 cases hw:ptW p
 all_goals
  rw[hw] at hV
  clear hw
  refine acQ 6 Tryz.func37 rfl rfl fun _ _ _=> ?_
  (repeat'((conv=>whnf);refine Aa hV H0 ?_));(all_goals(conv=>whnf))
  all_goals exact zE
def nC (l:List Pt):Int:=if l.all ptW=true then-1 else((l.takeWhile ptW).length:Int)
theorem JK (l:List Pt):decide (nC l≥0)= !l.all ptW:=by
 unfold nC
 cases l.all ptW
 ·rw[if_neg (by simp)];exact decide_eq_true (by omega)
 ·rw[if_pos rfl];rfl
theorem vJ (l:List Pt) (hn:l.length≤1000000) (hl:∀p∈l,p.mid∧L2 p.s):Ab Tryz.prog 68 [.d (Kk l),.d (.fn 37 [])] (fun r=>r=iv (nC l)):=by
 refine acQ 19 Tryz.func68 rfl rfl fun _ _ _=> ?_
 (all_goals(conv=>whnf))
 refine Ax (fun i:Nat=>i≤l.length∧(l.take i).all ptW=true) (fun i=>l.length-i) (fun i=>⟨[(0,.d (Kk l)),(1,.d (.fn 37 [])),(7,iv l.length),(8,iv i)],[],[]⟩) 0 ⟨by omega,rfl⟩ leQ ?_
 rintro i ⟨hi,ha⟩
 by_cases hik:i<l.length
 ·have gi:decide ((i:Int)<l.length)=true:=decide_eq_true (by omega)
  obtain⟨b,hg⟩:∃p,l[i]?=some p:=⟨_,Am hik⟩
  obtain⟨m1,m2⟩:=hl b (A8 hg)
  have hF:=vI b m1 m2
  cases hb:ptW b
  ·rw[hb] at hF
   obtain⟨q1,q2⟩:=JU ptW ha hg hb
   rw[show nC l=i by unfold nC;rw[q2,q1];rfl]
   (repeat'((conv=>whnf);first|refine zP ?_|refine Ac ?_|refine NIdx.tab (fun _=>rfl) hg ?_|refine Aa hF H0 ?_|exact zE))
  ·rw[hb] at hF
   (repeat'((conv=>whnf);first|refine zP ?_|refine Ae ?_|refine NIdx.tab (fun _=>rfl) hg ?_|refine Aa hF H0 ?_|(with_reducible refine NInt.i64 ?_)));(all_goals(conv=>whnf))
   refine⟨i+1,⟨by omega,Gw ptW hg hb ha⟩,by omega,?_⟩
   exact leQ
 ·have gi:decide ((i:Int)<l.length)=false:=decide_eq_false (by omega)
  obtain rfl:i=l.length:=by omega
  rw[List.take_length] at ha
  rw[show nC l= -1 by unfold nC;rw[ha];rfl]
  (repeat'((conv=>whnf);refine zN ?_));(all_goals(conv=>whnf))
  all_goals exact zE
theorem vK (l:List Pt) (hn:l.length≤1000000) (hl:∀p∈l,p.mid∧L2 p.s):Ab Tryz.prog 36 [.d (Kk l),.d (.fn 37 [])] (fun r=>r=bv (!l.all ptW)):=by
 have hI:=vJ l hn hl
 rw[←JK]
 refine acQ 9 Tryz.func36 rfl rfl fun _ _ _=> ?_
 (repeat'((conv=>whnf);refine Aa hI H0 ?_));(all_goals(conv=>whnf))
 all_goals exact zE
theorem Xi (l:List Pt) (h:ptsM l):Ab Tryz.prog 16 [.d (Kk l)] (fun r=>r=bv (Td l)):=by
 have hC:=vK l h.n fun p hp=>⟨(h.m p hp).1.m,(h.m p hp).2⟩
 have hn:=h.n
 unfold Td
 by_cases h0:l=[]
 ·subst h0
  refine acQ 11 Tryz.func16 rfl rfl fun _ _ _=> ?_
  (repeat'((conv=>whnf);refine Ae ?_));(all_goals(conv=>whnf))
  all_goals exact zE
 ·have gi:=Rb h0
  rw[show l.isEmpty=false from List.isEmpty_eq_false_iff.2 h0]
  cases h1:l.all ptW
  all_goals
   rw[h1] at hC
   clear h1
   refine acQ 11 Tryz.func16 rfl rfl fun _ _ _=> ?_
   (repeat'((conv=>whnf);first|refine zP ?_|refine Ac ?_|refine Aa hC H0 ?_|exact zE))
theorem JL {p:Pt} (h:p.sm):(ptE p).length≤900000000:=by
 have hl:=Sf h.m h.f h.i
 have hr:(Dj p.r).length≤90000000:=h.m.m.r.e
 have hf:=h.f
 have hi:=h.i
 have:=As 0 16 true (vsB (Hf p)).flatten (by omega)
 unfold ptE vsE;omega
theorem nD (l:List Pt) (h:ptsM l):Ab Tryz.prog 15 [.d (Kk l)] (fun r=>r=Oh (Td l) (Jp l)):=by
 have hV:=Xi l h
 have hn:=h.n
 have he:=h.e
 cases hw:Td l
 ·rw[hw] at hV
  show Ab _ _ _ (fun r=>r= .tup [A4,iv 8])
  refine acQ 25 Tryz.func15 rfl rfl fun _ _ _=> ?_
  (repeat'((conv=>whnf);first|refine Ac ?_|refine Aa hV H0 ?_|exact zE))
 rw[hw] at hV
 obtain⟨-,hall⟩:=Lg.1 hw
 have hS:=Nw (l.map ptE) (by omega) (by rw[List.length_map];omega)
 have eS:Ah 0 16 true (l.map ptE).flatten=Jp l:=rfl
 rw[eS] at hS
 show Ab _ _ _ (fun r=>r= .tup [Bb 0 5 (Jp l),iv 0])
 generalize Jp l=Z at hS⊢
 refine acQ 25 Tryz.func15 rfl rfl fun _ _ _=> ?_
 (repeat'((conv=>whnf);first|refine Ae ?_|refine Aa hV H0 ?_));(all_goals(conv=>whnf))
 refine A5 [.b 4 0 1000 1 22] (fun i:Nat=>i≤l.length) (fun i=>l.length-i) (fun i=>⟨[(4,.ptr 4 0),(10,.d (Kk l)),(11,iv l.length),(12,iv i)],[(4,[Bx 1000 1 22 Dn ((l.take i).map ptE),iv 0])],[(1000,(((l.take i).map ptE).length,1,22))]⟩) 0 (by omega) leQ ?_
 intro i hi
 have hml:((l.take i).map ptE).length≤1000000:=by rw[List.length_map,Al];omega
 by_cases hik:i<l.length
 ·have gi:decide ((i:Int)<l.length)=true:=decide_eq_true (by omega)
  obtain⟨x,hg⟩:∃p,l[i]?=some p:=⟨_,Am hik⟩
  obtain⟨m1,m2⟩:=h.m x (A8 hg)
  have hM:=Li x m1 m2
  rw[List.all_eq_true.1 hall x (A8 hg)] at hM
  have hM:Ab Tryz.prog 8 [dpA x] (fun q=>q= .tup [Bb 0 5 (ptE x),iv 0]):=hM
  have hs':=Fe ptE hg
  generalize ptE x=e at hM hs'
  (repeat'((conv=>whnf);first|refine zP ?_|refine NIdx.tab (fun _=>rfl) hg ?_|refine Aa hM H0 ?_|(refine NStep.inl 300 25 _ C2 mixed rfl rfl rfl Tryz.func21 rfl (by kernel_rfl) rfl rfl rfl rfl (fun gh=> ?_))|refine Aj (Wb 0 rfl rfl rfl (ltN rfl) rfl rfl) ?_|refine Aj (Fy rfl rfl (ltN rfl) rfl) ?_|refine A2 Dn e ?_|(with_reducible refine NInt.i64 ?_)));(all_goals(conv=>whnf))
  refine⟨i+1,by omega,by omega,?_⟩
  rw[hs']
  exact leQ
 ·have gi:decide ((i:Int)<l.length)=false:=decide_eq_false (by omega)
  obtain rfl:i=l.length:=by omega
  rw[List.take_length]
  rw[List.take_length] at hml
  (repeat'((conv=>whnf);first|refine zN ?_|refine Ae ?_|(refine NStep.inl 400 20 _ C2 mixed rfl rfl rfl Tryz.func27 rfl (by kernel_rfl) rfl rfl rfl rfl (fun gh=> ?_))|refine Aj (Fy rfl rfl (ltN rfl) rfl) ?_|refine Aa hS H0 ?_|exact zE))
def ptO (p:Pt):List D:=[Jo p.f,Jn p.r,.v (.int .i64 p.s),Jo p.i]
theorem qX (l:List Pt):D.uns (l.flatMap ptO)=l.flatMap ptC:=by
 induction l with
 |nil=>rfl
 |cons g r ih=>
  rw[List.flatMap_cons,D.uns_app,ih,List.flatMap_cons]
  congr 1
  simp only[ptO,ptC,D.uns,D.un,J3,Bw]
def OM (l:List Pt):D:=Fb true 4 ptO l
theorem JM (l:List Pt):(OM l).un=Kk l:=by
 show D.sl false l.length 4 (D.uns (l.flatMap ptO))=_
 rw[qX];rfl
def RG:Option (List Pt)×Nat×Nat→AV
 |(some l,_)=> .tup [.d (OM l),erA 0 0]
 |(none,c,o)=> .tup [A4,erA c o]
theorem JN {b:List UInt8} (hb:b.length≤399000) {q:Nat×Nat} (h:ptP b=(none,q)):q.1≠0:=by
 rcases Se b (by omega) with⟨p,-,e⟩|⟨c,o,h1,-,e⟩
 ·rw[e] at h;cases h
 ·rw[e] at h;cases h;exact h1
theorem DK {b:List UInt8} (hb:b.length≤399000) {p:Pt} {q:Nat×Nat} (h:ptP b=(some p,q)):q=(0,0):=by
 rcases Se b (by omega) with⟨p,-,e⟩|⟨c,o,h1,-,e⟩
 ·rw[e] at h;cases h;rfl
 ·rw[e] at h;cases h
theorem nE (b:List UInt8) (hb:b.length≤100000000) (hel:∀x∈(A6 b 0 16).l,(elO b x).length≤399000):Ab Tryz.prog 11 [.d (Af false b)] (fun r=>r=RG (mS b)):=by
 have hP:=Iv b 0 16 (by omega)
 have hin:=fun x=>D4 (b:=b) (c:=0) (n:=16) (x:=x)
 have hcn:=Jc b 0 16
 unfold mS
 generalize A6 b 0 16=R at hP hin hcn hel⊢
 by_cases h1:R.code≠0
 ·rw[if_pos h1]
  rw[lrA,if_pos h1] at hP
  have gc:((R.code:Int) !=0)=true:=by rw[bne_iff_ne];omega
  generalize R.code=c at hP gc
  generalize R.off=o at hP
  refine acQ 60 Tryz.func11 rfl rfl fun _ _ _=> ?_
  (repeat'((conv=>whnf);first|refine zP ?_|refine Aa hP H0 ?_|refine zF ?_|exact zE))
 rw[if_neg h1]
 rw[lrA,if_neg h1] at hP
 generalize R.l=l at hP hin hcn hel⊢
 have hd0:ptL b l=Xf [] (ptL b (l.drop 0)):=by rw[vB,List.drop_zero]
 generalize hQ:ptL b l=q at hd0⊢
 refine acQ 60 Tryz.func11 rfl rfl fun _ _ _=> ?_
 (repeat'((conv=>whnf);first|refine Ae ?_|refine Aa hP H0 ?_));(all_goals(conv=>whnf))
 refine A5 [.s 6 4 28] (fun z:Nat×List Pt=>z.1≤l.length∧z.2.length=z.1∧q=Xf z.2 (ptL b (l.drop z.1))) (fun z=>l.length-z.1) (fun z=>⟨[(0,.d (Af false b)),(3,.ptr 3 0),(6,Bx 6 4 28 ptO z.2),(20,.d (eJ l)),(21,iv l.length),(22,iv z.1)],[(3,[iv 0,iv 0])],[(6,(z.2.length,4,28))]⟩) (0,[]) ⟨by simp,rfl,hd0⟩ leQ ?_
 rintro⟨i,ms⟩ ⟨hi,hm,he⟩
 simp only at hi hm he
 by_cases hik:i<l.length
 ·have gi:decide ((i:Int)<l.length)=true:=decide_eq_true (by omega)
  obtain⟨x,hg⟩:∃p,l[i]?=some p:=⟨_,Am hik⟩
  obtain⟨x1,x2,x3⟩:=hin x (A8 hg)
  have hle:=Pl b x
  have hll:=hel x (A8 hg)
  have hO:=Zo (elO b x) hll
  rw[N5 hg] at he
  have ht:=Se (elO b x) (by omega)
  have hz:=@DK (elO b x) hll
  cases hp:ptP (elO b x) with
  |mk o r=>
   obtain⟨c,p⟩:=r
   cases o with
   |none=>
    have bad:q=(none,c,x.at'+p):=by rw[he,ptL,hp];rfl
    rw[bad,if_neg (by rintro rfl;simp at hik)]
    have hc0:=JN hll hp
    rw[hp] at hO ht
    have hpo:p≤(elO b x).length:=by
     rcases ht with⟨v,-,e⟩|⟨c',o',-,h2,e⟩
     ·cases e
     ·cases e;exact h2
    have hO:Ab Tryz.prog 6 [.d (Af false (elO b x))] (fun r=>r= .tup [ptZ,erA c p]):=hO
    simp only at hc0
    have gc:((c:Int) !=0)=true:=by rw[bne_iff_ne];omega
    clear ht hz
    unfold elO at hO
    (repeat'((conv=>whnf);first|refine zP ?_|refine NIdx.tab (fun _=>rfl) hg ?_|refine NSl.slice (x.at') (x.stop) ?_|refine Aa hO H0 ?_|(with_reducible refine NInt.i64 ?_)|refine zF ?_|exact zE))
   |some g=>
    rw[mR ms hp] at he
    cases hz hp
    rw[hp] at hO
    have hO:Ab Tryz.prog 6 [.d (Af false (elO b x))] (fun r=>r= .tup [ptQ g,erA 0 0]):=hO
    clear ht hz
    unfold elO at hO
    (repeat'((conv=>whnf);first|refine zP ?_|refine Ae ?_|refine NIdx.tab (fun _=>rfl) hg ?_|refine NSl.slice (x.at') (x.stop) ?_|refine Aa hO H0 ?_|refine A2 ptO g ?_|(with_reducible refine NInt.i64 ?_)));(all_goals(conv=>whnf))
    refine⟨(i+1,ms++[g]),⟨by show i+1≤_;omega,by simp;omega,he⟩,by show l.length-(i+1)<l.length-i;omega,?_⟩
    exact leQ
 ·have gi:decide ((i:Int)<l.length)=false:=decide_eq_false (by omega)
  obtain rfl:i=l.length:=by omega
  rw[List.drop_length,ptL] at he
  have he':q=(some ms,0,0):=by rw[he];simp[Xf]
  subst he'
  by_cases h2:l=[]
  ·subst h2
   obtain rfl:ms=[]:=List.eq_nil_of_length_eq_zero hm
   rw[if_pos rfl]
   (repeat'((conv=>whnf);first|refine zN ?_|refine Ac ?_|exact zE))
  ·have gl:((ms.length:Int)==0)=false:=by
    rw[beq_eq_false_iff_ne]
    intro h
    exact h2 (List.eq_nil_of_length_eq_zero (by omega))
   rw[if_neg h2]
   (repeat'((conv=>whnf);refine zN ?_));(all_goals(conv=>whnf))
   all_goals exact zE
theorem DL {p:Pt} (hs:p.sm):∀q∈Hf p,q.1≤30∧q.2.mid∧(vlC q.2).length≤900000000:=fun q hq'=>by
 have hr:(Dj p.r).length≤90000000:=hs.m.m.r.e
 have hc:=L0 hs.m.m
 have hq:=E1 p.s.toNat
 have hf:=hs.f
 have hi:=hs.i
 unfold Hf at hq'
 simp only[List.mem_append] at hq'
 rcases hq' with hq'|hq'|hq'
 ·obtain⟨-,rfl⟩:=Cz hq'
  exact⟨by simp,⟨hs.m.m.f,hs.m.m.r⟩,by show(nmC p.f p.r).length≤_;omega⟩
 ·obtain⟨-,rfl⟩:=Cz hq'
  exact⟨by simp,trivial,by show(Dd p.s.toNat).length≤_;omega⟩
 ·obtain⟨-,rfl⟩:=Cz hq'
  exact⟨by simp,hs.m.i,by show(Bm p.i).length≤_;omega⟩
theorem ON {k:List UInt8} {vs:List (Nat×Vl)} (hw:vsW k vs) (hm:∀p∈vs,p.1≤30∧p.2.mid∧(vlC p.2).length≤900000000) (hl:(vsB vs).flatten.length≤2000000000):One 24 (vsE vs)∧trD 24 (vsE vs)= .mk 0 16 true [] (vsT vs):=by
 obtain⟨c1,c2⟩:=Im (d:=23) (c:=0) (n:=16) (vsB vs) (by omega) (by omega) (fun q hq=>by
  obtain⟨p,hp,rfl⟩:=List.mem_map.1 hq
  obtain⟨m1,m2,m3⟩:=hm p hp
  obtain⟨t,t1,-⟩:=mP (n:=p.1) (hw p hp) m2 m1 m3
  have:=As 2 p.1 (vlK p.2) (vlC p.2) (by omega)
  exact⟨t1.1,by show(Ah 2 p.1 (vlK p.2) (vlC p.2)).length≤_;omega⟩) (by omega)
 exact⟨c1,c2⟩
theorem DM {p:Pt} (h:ptW p=true) (hs:p.sm):One 24 (ptE p)∧D6 (trD 24 (ptE p))=p:=by
 obtain⟨h1,h2,h3,-⟩:=H5.1 h
 have hl:=Sf hs.m hs.f hs.i
 have hr:(Dj p.r).length≤90000000:=hs.m.m.r.e
 have hf:=hs.f
 have hi:=hs.i
 have hd:=qN (k:=k3) (cB h1 h2 h3) (DL hs) (by omega)
 obtain⟨c1,c2⟩:=ON (k:=k3) (cB h1 h2 h3) (DL hs) (by omega)
 have hrd:=qO h hs.m hs.f hs.i
 refine⟨c1,?_⟩
 show D6 (trD 24 (vsE (Hf p)))=p
 rw[c2]
 unfold D6 ptE at hrd
 rw[hd] at hrd
 exact hrd
theorem DN {v:List Pt} (h:v.all ptW=true) (hs:∀p∈v,p.sm) (hl:(v.map ptE).flatten.length≤2000000000):(Bt (Jp v)).ks.map D6=v:=by
 obtain⟨c1,c2⟩:=Im (d:=24) (c:=0) (n:=16) (v.map ptE) (by omega) (by omega) (fun q hq=>by
  obtain⟨p,hp,rfl⟩:=List.mem_map.1 hq
  exact⟨(DM (List.all_eq_true.1 h p hp) (hs p hp)).1,by have:=JL (hs p hp);omega⟩) (by omega)
 have e:Bt (Jp v)= .mk 0 16 true [] ((v.map ptE).map (trD 24)):=gT (d:=25) ⟨c1,c2⟩ (by omega)
 rw[e]
 show((v.map ptE).map (trD 24)).map D6=v
 rw[List.map_map,List.map_map]
 conv=>rhs;rw[←List.map_id v]
 exact List.map_congr_left fun p hp=>(DM (List.all_eq_true.1 h p hp) (hs p hp)).2
theorem DO {t:Tr} (h:t.ok) (hl:t.enc.length≤3006):(Bm (t.ks.map Bg)).length≤400*t.enc.length:=by
 have hk:=Ji h
 have hp:=t.parts
 have hm:=Ps (f:=fun k=>gnE (Bg k)) (C:=400) (l:=t.ks) fun k hm=>gW (hk k hm).1 (by have:=(hk k hm).2;omega)
 have e:(Bm (t.ks.map Bg)).length=((t.ks.map fun k=>gnE (Bg k))).flatten.length:=by unfold Bm;rw[List.map_map];rfl
 rw[e];omega
structure ptB (E:Nat) (p:Pt):Prop where
 f:(Bm p.f).length≤400*(E+2)
 r:(Dj p.r).length≤63*(E+2)
 i:(Bm p.i).length≤400*(E+2)
theorem iM {E:Nat} (hE:E≤3004):∀{ks:List Tr} {p:Pt},(∀k∈ks,k.ok∧k.enc.length≤E)→ptB E p→ptB E (ks.foldl Ng p)
 |[],_,_,h=>h
 |k::ks,p,h,h0=>by
  obtain⟨k1,k2⟩:=h k (by simp)
  rw[List.foldl_cons]
  refine iM hE (fun y hy=>h y (by simp[hy])) ?_
  obtain⟨a1,a2⟩:=Jd k1 0
  have b1:=DO a1 (by omega)
  have b2:=(Q5 a1 (by omega)).2
  have b3:=DO k1 (by omega)
  have b4:=Dp 0 17 true (Dj (Ei (k.kid 0)))
  have b5:(Ct (Ei (k.kid 0))).length=(Ah 0 17 true (Dj (Ei (k.kid 0)))).length:=rfl
  have z1:(Bm []).length=0:=rfl
  have z2:(Dj []).length=0:=rfl
  unfold Ng
  split
  ·unfold Le
   split
   ·exact⟨by show(Bm ((k.kid 0).ks.map Bg)).length≤_;omega,by show(Dj []).length≤_;omega,h0.i⟩
   ·exact⟨by show(Bm []).length≤_;omega,by show(Dj (Ei (k.kid 0))).length≤_;omega,h0.i⟩
  ·split
   ·exact⟨h0.f,h0.r,h0.i⟩
   ·split
    ·exact⟨h0.f,h0.r,by show(Bm (k.ks.map Bg)).length≤_;omega⟩
    ·exact h0
theorem DP {t:Tr} (h:t.ok) (hl:t.enc.length≤3004):(ptE (D6 t)).length≤2700*t.enc.length∧(D6 t).z∧rsW (D6 t).s:=by
 have hk:=Ji h
 have hk':∀k∈t.ks,k.ok∧k.enc.length≤t.enc.length:=hk
 have hB:ptB t.enc.length (D6 t):=iM (by omega) hk' ⟨by show(Bm []).length≤_;simp[Bm],by show(Dj []).length≤_;simp[Dj],by show(Bm []).length≤_;simp[Bm]⟩
 have hz:(D6 t).z∧rsW (D6 t).s:=mQ (fun k hm=>⟨(hk k hm).1,by have:=(hk k hm).2;omega⟩) ⟨⟨⟨Nh,Ia⟩,Nh⟩,by unfold rsW pt0;simp⟩
 refine⟨?_,hz⟩
 generalize D6 t=p at hB hz
 have he:=t.enc_two
 obtain⟨b1,b2,b3⟩:=hB
 have c:=E1 p.s.toNat
 have n1:(nmC p.f p.r).length≤400*(t.enc.length+2)+63*(t.enc.length+2)+6:=by
  have e1:=As 2 1 true (Dj p.r) (by omega)
  have e2:=As 2 0 true (Bm p.f) (by omega)
  unfold nmC
  split<;>omega
 have e1:=As 2 0 true (nmC p.f p.r) (by omega)
 have e2:=As 2 1 false (Dd p.s.toNat) (by omega)
 have e3:=As 2 2 true (Bm p.i) (by omega)
 have f1:=@Zp (p.f≠[]∨p.r≠[]) _ (Ah 2 0 true (nmC p.f p.r))
 have f2:=@Zp (p.s≠0) _ (Ah 2 1 false (Dd p.s.toNat))
 have f3:=@Zp (p.i≠[]) _ (Ah 2 2 true (Bm p.i))
 have hfl:(Jq p).flatten.length≤863*(t.enc.length+2)+30:=by
  unfold Jq
  simp only[List.flatten_append,Ap]
  omega
 have:=As 0 16 true (Jq p).flatten (by omega)
 rw[nA];omega
structure ptsZ (l:List Pt):Prop where
 n:l.length≤100000
 z:∀p∈l,p.z
 e:(l.map ptE).flatten.length≤90000000
theorem DQ {b:List UInt8} (hb:b.length≤3000):(∀k∈(Bt b).ks,k.ok∧k.enc.length≤3004)∧(Bt b).ks.length≤100000∧ptsZ ((Bt b).ks.map D6):=by
 obtain⟨g1,g2⟩:=cE hb
 obtain⟨s1,s2⟩:=pN hb
 have hp:=(Bt b).parts
 have hc:=Tr.encs_two (Bt b).ks
 have hm:=Ps (f:=fun k=>ptE (D6 k)) (C:=2700) (l:=(Bt b).ks) fun k hm=>(DP (g2 k hm).1 (g2 k hm).2).1
 refine⟨g2,g1,by rw[List.length_map];omega,fun p hp=> ?_,?_⟩
 ·obtain⟨k,hm,rfl⟩:=List.mem_map.1 hp
  exact(DP (g2 k hm).1 (g2 k hm).2).2.1
 ·rw[List.map_map]
  have e:((Bt b).ks.map (ptE∘D6))=(Bt b).ks.map fun k=>ptE (D6 k):=rfl
  rw[e];omega
def Py (b:List UInt8) (v:List Pt):Bool:=Td v&&(Jp v==b)
def vL (p:Pt):List D:=[Tb p.f,Jn p.r,.v (.int .i64 p.s),Tb p.i]
def OO (l:List Pt):D:=Fb false 4 vL l
theorem cM (l:List Pt):D.uns (l.flatMap vL)=l.flatMap ptC:=by
 induction l with
 |nil=>rfl
 |cons g r ih=>
  rw[List.flatMap_cons,D.uns_app,ih,List.flatMap_cons]
  congr 1
  simp only[vL,ptC,D.uns,D.un,Lx,Bw]
theorem qY (l:List Pt):(OO l).un=Kk l:=by
 show D.sl false l.length 4 (D.uns (l.flatMap vL))=_
 rw[cM];rfl
theorem Hg {p:Prop} (h:p:=by first|rfl|(simp only[AV.gives,AV.ren,AV.give,D.un,D.uns,An,Ao,List.nil_append,List.append_nil,List.cons_append,Av,A9,Ca,Bn,Bd,B8,Ck,Bw,Bl,Bx,Bf,Tr.cellss_un,Lx,Q6,cL,cK,qY,cM];first|done|rfl)):p:=h
theorem vM (l:List Pt) (hz:ptsZ l):Ab Tryz.prog 67 [.d (Kk l)] (fun r=>r=bv (Td l)):=by
 obtain⟨hl,hs,-⟩:=hz
 unfold Td
 refine acQ 19 Tryz.func67 rfl rfl fun _ _ _=> ?_
 (all_goals(conv=>whnf))
 refine Ax (fun i:Nat=>i≤l.length∧(l.take i).all ptW=true) (fun i=>l.length-i) (fun i=>⟨[(0,.d (Kk l)),(3,iv i)],[],[]⟩) 0 ⟨by omega,rfl⟩ leQ ?_
 rintro i ⟨hi,ha⟩
 by_cases hik:i<l.length
 ·have gi:decide ((i:Int)<l.length)=true:=decide_eq_true (by omega)
  obtain⟨x,hg⟩:∃p,l[i]?=some p:=⟨_,Am hik⟩
  have hV:=iH x (hs x (A8 hg))
  cases h1:ptW x
  ·rw[h1] at hV
   rw[CF ptW hg h1,Bool.and_false]
   (repeat'((conv=>whnf);first|refine zP ?_|refine Ac ?_|refine NIdx.tab (fun _=>rfl) hg ?_|refine Aa hV Hg ?_|exact zE))
  ·rw[h1] at hV
   (repeat'((conv=>whnf);first|refine zP ?_|refine Ae ?_|refine NIdx.tab (fun _=>rfl) hg ?_|refine Aa hV Hg ?_|(with_reducible refine NInt.i64 ?_)));(all_goals(conv=>whnf))
   refine⟨i+1,⟨by omega,Gw ptW hg h1 ha⟩,by omega,?_⟩
   exact leQ
 ·have gi:decide ((i:Int)<l.length)=false:=decide_eq_false (by omega)
  obtain rfl:i=l.length:=by omega
  rw[List.take_length] at ha
  rw[ha,Bool.and_true,show(!l.isEmpty)=decide ((l.length:Int)>0) by cases l with|nil=>rfl|cons a r=>exact(decide_eq_true (by simp only[Ag];omega)).symm]
  (repeat'((conv=>whnf);refine zN ?_));(all_goals(conv=>whnf))
  all_goals exact zE
theorem vN (l:List Pt) (hz:ptsZ l):Ab Tryz.prog 35 [.d (Kk l)] (fun r=>r=Oh (Td l) (Jp l)):=by
 have hV:=vM l hz
 cases hw:Td l
 ·rw[hw] at hV
  show Ab _ _ _ (fun r=>r= .tup [A4,iv 8])
  refine acQ 31 Tryz.func35 rfl rfl fun _ _ _=> ?_
  (repeat'((conv=>whnf);first|refine Ac ?_|refine Aa hV Hg ?_|exact zE))
 rw[hw] at hV
 obtain⟨-,hall⟩:=Lg.1 hw
 have hn:=hz.n
 have he:=hz.e
 have hU:=F1 48 (l.map ptE) (by rw[List.length_map];omega) (by omega)
 have eS:Kb 48 (l.map ptE).flatten=Jp l:=rfl
 rw[eS] at hU
 show Ab _ _ _ (fun r=>r= .tup [Bb 0 5 (Jp l),iv 0])
 generalize Jp l=Z at hU⊢
 refine acQ 31 Tryz.func35 rfl rfl fun _ _ _=> ?_
 (repeat'((conv=>whnf);first|refine Ae ?_|refine Aa hV Hg ?_));(all_goals(conv=>whnf))
 refine A5 [.s 4 1 22] (fun i:Nat=>i≤l.length) (fun i=>l.length-i) (fun i=>⟨[(0,.d (Kk l)),(4,Bx 4 1 22 Dn ((l.take i).map ptE)),(5,iv i)],[],[(4,(((l.take i).map ptE).length,1,22))]⟩) 0 (by omega) leQ ?_
 rintro i hi
 have hml:((l.take i).map ptE).length≤100000:=by rw[List.length_map,Al];omega
 by_cases hik:i<l.length
 ·have gi:decide ((i:Int)<l.length)=true:=decide_eq_true (by omega)
  obtain⟨g,hg⟩:∃p,l[i]?=some p:=⟨_,Am hik⟩
  have hM:=iJ g (hz.z g (A8 hg))
  rw[List.all_eq_true.1 hall g (A8 hg)] at hM
  have hM:Ab Tryz.prog 30 [dpA g] (fun r=>r= .tup [Bb 0 5 (ptE g),iv 0]):=hM
  have hs1:=Fe ptE hg
  generalize ptE g=e at hM hs1
  (repeat'((conv=>whnf);first|refine zP ?_|refine NIdx.tab (fun _=>rfl) hg ?_|refine Aa hM Hg ?_|refine A2 Dn e ?_|(with_reducible refine NInt.i64 ?_)));(all_goals(conv=>whnf))
  refine⟨i+1,by omega,by omega,?_⟩
  rw[hs1]
  exact leQ
 ·have gi:decide ((i:Int)<l.length)=false:=decide_eq_false (by omega)
  obtain rfl:i=l.length:=by omega
  rw[List.take_length]
  (repeat'((conv=>whnf);first|refine zN ?_|refine Aa hU Hg ?_|exact zE))
theorem vO (t:Tr) (hn:t.ks.length≤100000) (hk:∀k∈t.ks,k.ok∧k.enc.length≤3004):Ab Tryz.prog 34 [trF t] (fun r=>r= .d (OO (t.ks.map D6))):=by
 obtain⟨c,n,k,b,ks⟩:=t
 rw[Bv]
 simp only[Tr.ks] at hn hk⊢
 refine acQ 22 Tryz.func34 rfl rfl fun _ _ _=> ?_
 (all_goals(conv=>whnf))
 refine A5 [.s 3 4 28] (fun i:Nat=>i≤ks.length) (fun i=>ks.length-i) (fun i=>⟨[(1,.ptr 1 0),(3,Bx 3 4 28 vL ((ks.take i).map D6)),(4,iv i)],[(1,[iv c,iv n,bv k,.d (Af false b),.d (.sl false ks.length 5 (Tr.cellss false ks))])],[(3,(((ks.take i).map D6).length,4,28))]⟩) 0 (by omega) leQ ?_
 rintro i hi
 have hml:((ks.take i).map D6).length≤100000:=by rw[List.length_map,Al];omega
 by_cases hik:i<ks.length
 ·have gi:decide ((i:Int)<ks.length)=true:=decide_eq_true (by omega)
  obtain⟨x,hg⟩:∃p,ks[i]?=some p:=⟨_,Am hik⟩
  obtain⟨x1,x2⟩:=hk x (A8 hg)
  have hxk:=Ji x1
  have hxc:=Tr.encs_two x.ks
  have hxp:=x.parts
  have hR:=iL x (by omega) fun k hm=>⟨(hxk k hm).1,by have:=(hxk k hm).2;omega⟩
  have hs:=Fe D6 hg
  generalize D6 x=a at hR hs
  clear x1 x2 hxk hxc hxp
  obtain⟨c',n',k',b',ks'⟩:=x
  rw[Bv] at hR
  (repeat'((conv=>whnf);first|refine zP ?_|(refine Fc hg ?_)|refine Aa hR Hg ?_|refine A2 vL a ?_|(with_reducible refine NInt.i64 ?_)));(all_goals(conv=>whnf))
  refine⟨i+1,by omega,by omega,?_⟩
  rw[hs]
  exact leQ
 ·have gi:decide ((i:Int)<ks.length)=false:=decide_eq_false (by omega)
  obtain rfl:i=ks.length:=by omega
  rw[List.take_length]
  (repeat'((conv=>whnf);refine zN ?_));(all_goals(conv=>whnf))
  all_goals exact zE
theorem vP (b:List UInt8) (hb:b.length≤3000):Ab Tryz.prog 12 [.d (Af false b)] (fun r=>r=if Py b ((Bt b).ks.map D6)=true then .tup [.d (OO ((Bt b).ks.map D6)),bv true] else .tup [A4,bv false]):=by
 obtain⟨g2,g1,g3⟩:=DQ hb
 have hD:=fN b (by omega)
 have hR:=vO (Bt b) g1 g2
 have hM:=vN _ g3
 have g4:(Jp ((Bt b).ks.map D6)).length≤800000000:=by
  have:=g3.e
  have:=As 0 16 true (((Bt b).ks.map D6).map ptE).flatten (by omega)
  unfold Jp;omega
 have hB:=Cw false false (Jp ((Bt b).ks.map D6)) b (by omega) (by omega)
 unfold Py
 clear g3
 generalize Jp ((Bt b).ks.map D6)=E at hM hB g4⊢
 generalize Td ((Bt b).ks.map D6)=W at hM⊢
 generalize (Bt b).ks.map D6=v at hR hM⊢
 clear g1 g2 g4
 generalize Bt b=t at hD hR
 generalize ((Db 60 b).code==0)=q at hD
 obtain⟨c,n,k,b',ks⟩:=t
 rw[Bv] at hR
 rw[V9 rfl] at hD
 cases W with
 |false=>
  have hM:Ab Tryz.prog 35 [.d (Kk v)] (fun r=>r= .tup [A4,iv 8]):=hM
  rw[Bool.false_and]
  refine acQ 30 Tryz.func12 rfl rfl fun _ _ _=> ?_
  (repeat'((conv=>whnf);first|refine Ac ?_|refine Aa hD Hg ?_|refine Aa hR Hg ?_|refine Aa hM Hg ?_|exact zE))
 |true=>
  have hM:Ab Tryz.prog 35 [.d (Kk v)] (fun r=>r= .tup [Bb 0 5 E,iv 0]):=hM
  rw[Bool.true_and]
  cases hq:(E==b)
  all_goals
   rw[hq] at hB
   clear hq
   refine acQ 30 Tryz.func12 rfl rfl fun _ _ _=> ?_
   (repeat'((conv=>whnf);first|refine Ac ?_|refine Ae ?_|refine Aa hD Hg ?_|refine Aa hR Hg ?_|refine Aa hM Hg ?_|refine Aa hB Hg ?_|exact zE))
end Go.Proofs.YtokmjjkbginodaaGreatDoor
