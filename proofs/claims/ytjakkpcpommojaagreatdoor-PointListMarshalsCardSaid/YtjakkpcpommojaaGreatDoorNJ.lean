/- NJ: the texts Pll Prl, one behind the other. No condition but what each lemma says. -/
import Derived.Test.YtjakkpcpommojaaGreatDoorNE
import Derived.Test.YtjakkpcpommojaaGreatDoorMJ
import Derived.Test.YtjakkpcpommojaaGreatDoorNI
import Derived.Test.YtjakkpcpommojaaGreatDoorMH
namespace Go.Proofs.YtjakkpcpommojaaGreatDoor
open Go.RowKit
set_option maxRecDepth 100000
set_option maxHeartbeats 16000000
theorem aQ (p:Pt):D.uns (ptC p)=ptC p:=by simp only[ptC,D.uns,D.un,Bk,A7]
theorem FI (l:List Pt):D.uns (l.flatMap ptC)=l.flatMap ptC:=by
 induction l with
 |nil=>rfl
 |cons g r ih=>rw[List.flatMap_cons,D.uns_app,aQ,ih]
theorem aR (l:List Pt):(Hr l).un=Hr l:=by
 show D.sl false l.length 4 (D.uns (l.flatMap ptC))=_
 rw[FI];rfl
structure ptsM (l:List Pt):Prop where
 n:l.length≤1000000
 m:∀p∈l,p.sm∧K7 p.s
 e:(l.map ptE).flatten.length≤800000000
theorem Ha {p:Prop} (h:p:=by first|rfl|(simp only[AV.gives,AV.ren,AV.give,D.un,D.uns,Aj,Ak,List.nil_append,List.append_nil,List.cons_append,AV.share,AV.shares,Ap,A0,Bk,A7,Ay,Bj,Bs,Bg,A9,Bx,A5,Du,Dv,Hg,M0,Mz,aR,aQ];first|done|rfl)):p:=h
theorem sV (p:Pt) (h:p.mid) (hs:K7 p.s):Ab Tryz.prog 55 [dpA p] (fun q=>q=bv (!ptW p)):=by
 have hV:=M1 p h hs
 cases hw:ptW p
 all_goals
  rw[hw] at hV
  clear hw
  refine acQ 6 Tryz.func55 rfl rfl fun _ _ _=> ?_
  (repeat'((conv=>whnf);refine Aa hV Ha ?_));(all_goals(conv=>whnf))
  all_goals exact zE
def lD (l:List Pt):Int:=if l.all ptW=true then-1 else((l.takeWhile ptW).length:Int)
theorem FJ (l:List Pt):decide (lD l≥0)= !l.all ptW:=by
 unfold lD
 cases l.all ptW
 ·rw[if_neg (by simp)];exact decide_eq_true (by omega)
 ·rw[if_pos rfl];rfl
theorem sW (l:List Pt) (hn:l.length≤1000000) (hl:∀p∈l,p.mid∧K7 p.s):Ab Tryz.prog 79 [.d (Hr l),.d (.fn 55 [])] (fun r=>r=iv (lD l)):=by
 refine acQ 19 Tryz.func79 rfl rfl fun _ _ _=> ?_
 (all_goals(conv=>whnf))
 refine Au (fun i:Nat=>i≤l.length∧(l.take i).all ptW=true) (fun i=>l.length-i) (fun i=>⟨[(0,.d (Hr l)),(1,.d (.fn 55 [])),(7,iv l.length),(8,iv i)],[],[]⟩) 0 ⟨by omega,rfl⟩ leQ ?_
 rintro i ⟨hi,ha⟩
 by_cases hik:i<l.length
 ·have gi:decide ((i:Int)<l.length)=true:=decide_eq_true (by omega)
  obtain⟨b,hg⟩:∃p,l[i]?=some p:=⟨_,List.getElem?_eq_getElem hik⟩
  obtain⟨m1,m2⟩:=hl b (List.mem_of_getElem? hg)
  have hF:=sV b m1 m2
  cases hb:ptW b
  ·rw[hb] at hF
   obtain⟨q1,q2⟩:=FX ptW ha hg hb
   rw[show lD l=i by unfold lD;rw[q2,q1];rfl]
   (repeat'((conv=>whnf);first|refine zP ?_|refine Ac ?_|refine NIdx.tab (fun _=>rfl) hg ?_|refine Aa hF Ha ?_|exact zE))
  ·rw[hb] at hF
   (repeat'((conv=>whnf);first|refine zP ?_|refine Ae ?_|refine NIdx.tab (fun _=>rfl) hg ?_|refine Aa hF Ha ?_|(with_reducible refine NInt.i64 ?_)));(all_goals(conv=>whnf))
   refine⟨i+1,⟨by omega,Gb ptW hg hb ha⟩,by omega,?_⟩
   exact leQ
 ·have gi:decide ((i:Int)<l.length)=false:=decide_eq_false (by omega)
  obtain rfl:i=l.length:=by omega
  rw[List.take_length] at ha
  rw[show lD l= -1 by unfold lD;rw[ha];rfl]
  (repeat'((conv=>whnf);refine zN ?_));(all_goals(conv=>whnf))
  all_goals exact zE
theorem sX (l:List Pt) (hn:l.length≤1000000) (hl:∀p∈l,p.mid∧K7 p.s):Ab Tryz.prog 54 [.d (Hr l),.d (.fn 55 [])] (fun r=>r=bv (!l.all ptW)):=by
 have hI:=sW l hn hl
 rw[←FJ]
 refine acQ 9 Tryz.func54 rfl rfl fun _ _ _=> ?_
 (repeat'((conv=>whnf);refine Aa hI Ha ?_));(all_goals(conv=>whnf))
 all_goals exact zE
theorem Vu (l:List Pt) (h:ptsM l):Ab Tryz.prog 25 [.d (Hr l)] (fun r=>r=bv (Vo l)):=by
 have hC:=sX l h.n fun p hp=>⟨(h.m p hp).1.m,(h.m p hp).2⟩
 have hn:=h.n
 unfold Vo
 by_cases h0:l=[]
 ·subst h0
  refine acQ 11 Tryz.func25 rfl rfl fun _ _ _=> ?_
  (repeat'((conv=>whnf);refine Ae ?_));(all_goals(conv=>whnf))
  all_goals exact zE
 ·have gi:=Pz h0
  rw[show l.isEmpty=false from List.isEmpty_eq_false_iff.2 h0]
  cases h1:l.all ptW
  all_goals
   rw[h1] at hC
   clear h1
   refine acQ 11 Tryz.func25 rfl rfl fun _ _ _=> ?_
   (repeat'((conv=>whnf);first|refine zP ?_|refine Ac ?_|refine Aa hC Ha ?_|exact zE))
theorem lE (l:List Pt) (h:ptsM l):Ab Tryz.prog 23 [.d (Hr l)] (fun r=>r=L6 (Vo l) (Jp l)):=by
 have hV:=Vu l h
 have hn:=h.n
 have he:=h.e
 cases hw:Vo l
 ·rw[hw] at hV
  show Ab _ _ _ (fun r=>r= .tup [Ax,iv 8])
  refine acQ 25 Tryz.func23 rfl rfl fun _ _ _=> ?_
  (repeat'((conv=>whnf);first|refine Ac ?_|refine Aa hV Ha ?_|exact zE))
 rw[hw] at hV
 obtain⟨-,hall⟩:=Vp.1 hw
 have hS:=Mm (l.map ptE) (by omega) (by rw[List.length_map];omega)
 have eS:Ah 0 16 true (l.map ptE).flatten=Jp l:=rfl
 rw[eS] at hS
 show Ab _ _ _ (fun r=>r= .tup [A4 0 5 (Jp l),iv 0])
 generalize Jp l=Z at hS⊢
 refine acQ 25 Tryz.func23 rfl rfl fun _ _ _=> ?_
 (repeat'((conv=>whnf);first|refine Ae ?_|refine Aa hV Ha ?_));(all_goals(conv=>whnf))
 refine Ba [.b 4 0 1000 1 29] (fun i:Nat=>i≤l.length) (fun i=>l.length-i) (fun i=>⟨[(4,.ptr 4 0),(10,.d (Hr l)),(11,iv l.length),(12,iv i)],[(4,[Bx 1000 1 29 Ct ((l.take i).map ptE),iv 0])],[(1000,(((l.take i).map ptE).length,1,29))]⟩) 0 (by omega) leQ ?_
 intro i hi
 have hml:((l.take i).map ptE).length≤1000000:=by rw[List.length_map,List.length_take];omega
 by_cases hik:i<l.length
 ·have gi:decide ((i:Int)<l.length)=true:=decide_eq_true (by omega)
  obtain⟨x,hg⟩:∃p,l[i]?=some p:=⟨_,List.getElem?_eq_getElem hik⟩
  obtain⟨m1,m2⟩:=h.m x (List.mem_of_getElem? hg)
  have hM:=M2 x m1 m2
  rw[List.all_eq_true.1 hall x (List.mem_of_getElem? hg)] at hM
  have hM:Ab Tryz.prog 8 [dpA x] (fun q=>q= .tup [A4 0 5 (ptE x),iv 0]):=hM
  have hs':=Hp ptE hg
  generalize ptE x=e at hM hs'
  (repeat'((conv=>whnf);first|refine zP ?_|refine NIdx.tab (fun _=>rfl) hg ?_|refine Aa hM Ha ?_|(refine NStep.inl 300 25 _ Ce mixed rfl rfl rfl Tryz.func32 rfl (by kernel_rfl) rfl rfl rfl rfl (fun gh=> ?_))|refine An (Un 0 rfl rfl rfl (ltN rfl) rfl rfl) ?_|refine An (Fa rfl rfl (ltN rfl) rfl) ?_|refine A3 Ct e ?_|(with_reducible refine NInt.i64 ?_)));(all_goals(conv=>whnf))
  refine⟨i+1,by omega,by omega,?_⟩
  rw[hs']
  exact leQ
 ·have gi:decide ((i:Int)<l.length)=false:=decide_eq_false (by omega)
  obtain rfl:i=l.length:=by omega
  rw[List.take_length]
  rw[List.take_length] at hml
  (repeat'((conv=>whnf);first|refine zN ?_|refine Ae ?_|(refine NStep.inl 400 20 _ Ce mixed rfl rfl rfl Tryz.func38 rfl (by kernel_rfl) rfl rfl rfl rfl (fun gh=> ?_))|refine An (Fa rfl rfl (ltN rfl) rfl) ?_|refine Aa hS Ha ?_|exact zE))
def ptO (p:Pt):List D:=[Lf p.f,Qu p.r,.v (.int .i64 p.s),Lf p.i]
theorem oI (l:List Pt):D.uns (l.flatMap ptO)=l.flatMap ptC:=by
 induction l with
 |nil=>rfl
 |cons g r ih=>
  rw[List.flatMap_cons,D.uns_app,ih,List.flatMap_cons]
  congr 1
  simp only[ptO,ptC,D.uns,D.un,Hg,Bg]
def KW (l:List Pt):D:=Er true 4 ptO l
theorem FK (l:List Pt):(KW l).un=Hr l:=by
 show D.sl false l.length 4 (D.uns (l.flatMap ptO))=_
 rw[oI];rfl
def NM:Option (List Pt)×Nat×Nat→AV
 |(some l,_)=> .tup [.d (KW l),erA 0 0]
 |(none,c,o)=> .tup [Ax,erA c o]
theorem FL {b:List UInt8} (hb:b.length≤399000) {q:Nat×Nat} (h:ptP b=(none,q)):q.1≠0:=by
 rcases kU b (by omega) with⟨p,-,e⟩|⟨c,o,h1,-,e⟩
 ·rw[e] at h;cases h
 ·rw[e] at h;cases h;exact h1
theorem AN {b:List UInt8} (hb:b.length≤399000) {p:Pt} {q:Nat×Nat} (h:ptP b=(some p,q)):q=(0,0):=by
 rcases kU b (by omega) with⟨p,-,e⟩|⟨c,o,h1,-,e⟩
 ·rw[e] at h;cases h;rfl
 ·rw[e] at h;cases h
theorem lF (b:List UInt8) (hb:b.length≤100000000) (hel:∀x∈(Aw b 0 16).l,(elO b x).length≤399000):Ab Tryz.prog 27 [.d (Ag false b)] (fun r=>r=NM (FA b)):=by
 have hP:=H7 b 0 16 (by omega)
 have hin:=fun x=>Ds (b:=b) (c:=0) (n:=16) (x:=x)
 have hcn:=Ip b 0 16
 unfold FA
 generalize Aw b 0 16=R at hP hin hcn hel⊢
 by_cases h1:R.code≠0
 ·rw[if_pos h1]
  rw[lrA,if_pos h1] at hP
  have gc:((R.code:Int) !=0)=true:=by rw[bne_iff_ne];omega
  generalize R.code=c at hP gc
  generalize R.off=o at hP
  refine acQ 60 Tryz.func27 rfl rfl fun _ _ _=> ?_
  (repeat'((conv=>whnf);first|refine zP ?_|refine Aa hP Ha ?_|refine zF ?_|exact zE))
 rw[if_neg h1]
 rw[lrA,if_neg h1] at hP
 generalize R.l=l at hP hin hcn hel⊢
 have hd0:ptL b l=Vq [] (ptL b (l.drop 0)):=by rw[sS,List.drop_zero]
 generalize hQ:ptL b l=q at hd0⊢
 refine acQ 60 Tryz.func27 rfl rfl fun _ _ _=> ?_
 (repeat'((conv=>whnf);first|refine Ae ?_|refine Aa hP Ha ?_));(all_goals(conv=>whnf))
 refine Ba [.s 6 4 26] (fun z:Nat×List Pt=>z.1≤l.length∧z.2.length=z.1∧q=Vq z.2 (ptL b (l.drop z.1))) (fun z=>l.length-z.1) (fun z=>⟨[(0,.d (Ag false b)),(3,.ptr 3 0),(6,Bx 6 4 26 ptO z.2),(20,.d (cU l)),(21,iv l.length),(22,iv z.1)],[(3,[iv 0,iv 0])],[(6,(z.2.length,4,26))]⟩) (0,[]) ⟨by simp,rfl,hd0⟩ leQ ?_
 rintro⟨i,ms⟩ ⟨hi,hm,he⟩
 simp only at hi hm he
 by_cases hik:i<l.length
 ·have gi:decide ((i:Int)<l.length)=true:=decide_eq_true (by omega)
  obtain⟨x,hg⟩:∃p,l[i]?=some p:=⟨_,List.getElem?_eq_getElem hik⟩
  obtain⟨x1,x2,x3⟩:=hin x (List.mem_of_getElem? hg)
  have hle:=Qv b x
  have hll:=hel x (List.mem_of_getElem? hg)
  have hO:=X2 (elO b x) hll
  rw[Mw hg] at he
  have ht:=kU (elO b x) (by omega)
  have hz:=@AN (elO b x) hll
  cases hp:ptP (elO b x) with
  |mk o r=>
   obtain⟨c,p⟩:=r
   cases o with
   |none=>
    have bad:q=(none,c,x.at'+p):=by rw[he,ptL,hp];rfl
    rw[bad,if_neg (by rintro rfl;simp at hik)]
    have hc0:=FL hll hp
    rw[hp] at hO ht
    have hpo:p≤(elO b x).length:=by
     rcases ht with⟨v,-,e⟩|⟨c',o',-,h2,e⟩
     ·cases e
     ·cases e;exact h2
    have hO:Ab Tryz.prog 13 [.d (Ag false (elO b x))] (fun r=>r= .tup [ptZ,erA c p]):=hO
    simp only at hc0
    have gc:((c:Int) !=0)=true:=by rw[bne_iff_ne];omega
    clear ht hz
    unfold elO at hO
    (repeat'((conv=>whnf);first|refine zP ?_|refine NIdx.tab (fun _=>rfl) hg ?_|refine NSl.slice (x.at') (x.stop) ?_|refine Aa hO Ha ?_|(with_reducible refine NInt.i64 ?_)|refine zF ?_|exact zE))
   |some g=>
    rw[kX ms hp] at he
    cases hz hp
    rw[hp] at hO
    have hO:Ab Tryz.prog 13 [.d (Ag false (elO b x))] (fun r=>r= .tup [ptQ g,erA 0 0]):=hO
    clear ht hz
    unfold elO at hO
    (repeat'((conv=>whnf);first|refine zP ?_|refine Ae ?_|refine NIdx.tab (fun _=>rfl) hg ?_|refine NSl.slice (x.at') (x.stop) ?_|refine Aa hO Ha ?_|refine A3 ptO g ?_|(with_reducible refine NInt.i64 ?_)));(all_goals(conv=>whnf))
    refine⟨(i+1,ms++[g]),⟨by show i+1≤_;omega,by simp;omega,he⟩,by show l.length-(i+1)<l.length-i;omega,?_⟩
    exact leQ
 ·have gi:decide ((i:Int)<l.length)=false:=decide_eq_false (by omega)
  obtain rfl:i=l.length:=by omega
  rw[List.drop_length,ptL] at he
  have he':q=(some ms,0,0):=by rw[he];simp[Vq]
  subst he'
  by_cases h2:l=[]
  ·subst h2
   obtain rfl:ms=[]:=List.eq_nil_of_length_eq_zero hm
   rw[if_pos rfl]
   (repeat'((conv=>whnf);first|refine zN ?_|refine Ac ?_|exact zE))
  ·have gl:((ms.length:Int)==0)=false:=by
    rw[beq_eq_false_iff_ne]
    intro h
    exact h2 (List.eq_nil_of_length_eq_zero (by omega))
   rw[if_neg h2]
   (repeat'((conv=>whnf);refine zN ?_));(all_goals(conv=>whnf))
   all_goals exact zE
structure ptB (E:Nat) (p:Pt):Prop where
 f:(Br p.f).length≤400*(E+2)
 r:(Dy p.r).length≤63*(E+2)
 i:(Br p.i).length≤400*(E+2)
structure ptsZ (l:List Pt):Prop where
 n:l.length≤100000
 z:∀p∈l,p.z
 e:(l.map ptE).flatten.length≤90000000
def FM (p:Pt):List D:=[JY p.f,Qu p.r,.v (.int .i64 p.s),JY p.i]
def NN (l:List Pt):D:=Er false 4 FM l
theorem aS (l:List Pt):D.uns (l.flatMap FM)=l.flatMap ptC:=by
 induction l with
 |nil=>rfl
 |cons g r ih=>
  rw[List.flatMap_cons,D.uns_app,ih,List.flatMap_cons]
  congr 1
  simp only[FM,ptC,D.uns,D.un,K3,Bg]
theorem oJ (l:List Pt):(NN l).un=Hr l:=by
 show D.sl false l.length 4 (D.uns (l.flatMap FM))=_
 rw[aS];rfl
theorem Ma {p:Prop} (h:p:=by first|rfl|(simp only[AV.gives,AV.ren,AV.give,D.un,D.uns,Aj,Ak,List.nil_append,List.append_nil,List.cons_append,Ap,A0,Bk,A7,Ay,Bj,Bs,Bg,A9,Bx,A5,Tr.cellss_un,K3,aD,aR,aQ,oJ,aS];first|done|rfl)):p:=h
theorem X5 (l:List Pt) (hz:ptsZ l):Ab Tryz.prog 26 [.d (Hr l)] (fun r=>r=bv (Vo l)):=by
 obtain⟨hl,hs,-⟩:=hz
 unfold Vo
 refine acQ 19 Tryz.func26 rfl rfl fun _ _ _=> ?_
 (all_goals(conv=>whnf))
 refine Au (fun i:Nat=>i≤l.length∧(l.take i).all ptW=true) (fun i=>l.length-i) (fun i=>⟨[(0,.d (Hr l)),(3,iv i)],[],[]⟩) 0 ⟨by omega,rfl⟩ leQ ?_
 rintro i ⟨hi,ha⟩
 by_cases hik:i<l.length
 ·have gi:decide ((i:Int)<l.length)=true:=decide_eq_true (by omega)
  obtain⟨x,hg⟩:∃p,l[i]?=some p:=⟨_,List.getElem?_eq_getElem hik⟩
  have hV:=Vs x (hs x (List.mem_of_getElem? hg))
  cases h1:ptW x
  ·rw[h1] at hV
   rw[yV ptW hg h1,Bool.and_false]
   (repeat'((conv=>whnf);first|refine zP ?_|refine Ac ?_|refine NIdx.tab (fun _=>rfl) hg ?_|refine Aa hV Ma ?_|exact zE))
  ·rw[h1] at hV
   (repeat'((conv=>whnf);first|refine zP ?_|refine Ae ?_|refine NIdx.tab (fun _=>rfl) hg ?_|refine Aa hV Ma ?_|(with_reducible refine NInt.i64 ?_)));(all_goals(conv=>whnf))
   refine⟨i+1,⟨by omega,Gb ptW hg h1 ha⟩,by omega,?_⟩
   exact leQ
 ·have gi:decide ((i:Int)<l.length)=false:=decide_eq_false (by omega)
  obtain rfl:i=l.length:=by omega
  rw[List.take_length] at ha
  rw[ha,Bool.and_true,show(!l.isEmpty)=decide ((l.length:Int)>0) by cases l with|nil=>rfl|cons a r=>exact(decide_eq_true (by simp only[List.length_cons];omega)).symm]
  (repeat'((conv=>whnf);refine zN ?_));(all_goals(conv=>whnf))
  all_goals exact zE
theorem sY (l:List Pt) (hz:ptsZ l):Ab Tryz.prog 24 [.d (Hr l)] (fun r=>r=L6 (Vo l) (Jp l)):=by
 have hV:=X5 l hz
 cases hw:Vo l
 ·rw[hw] at hV
  show Ab _ _ _ (fun r=>r= .tup [Ax,iv 8])
  refine acQ 31 Tryz.func24 rfl rfl fun _ _ _=> ?_
  (repeat'((conv=>whnf);first|refine Ac ?_|refine Aa hV Ma ?_|exact zE))
 rw[hw] at hV
 obtain⟨-,hall⟩:=Vp.1 hw
 have hn:=hz.n
 have he:=hz.e
 have hU:=Et 48 (l.map ptE) (by rw[List.length_map];omega) (by omega)
 have eS:Iz 48 (l.map ptE).flatten=Jp l:=rfl
 rw[eS] at hU
 show Ab _ _ _ (fun r=>r= .tup [A4 0 5 (Jp l),iv 0])
 generalize Jp l=Z at hU⊢
 refine acQ 31 Tryz.func24 rfl rfl fun _ _ _=> ?_
 (repeat'((conv=>whnf);first|refine Ae ?_|refine Aa hV Ma ?_));(all_goals(conv=>whnf))
 refine Ba [.s 4 1 29] (fun i:Nat=>i≤l.length) (fun i=>l.length-i) (fun i=>⟨[(0,.d (Hr l)),(4,Bx 4 1 29 Ct ((l.take i).map ptE)),(5,iv i)],[],[(4,(((l.take i).map ptE).length,1,29))]⟩) 0 (by omega) leQ ?_
 rintro i hi
 have hml:((l.take i).map ptE).length≤100000:=by rw[List.length_map,List.length_take];omega
 by_cases hik:i<l.length
 ·have gi:decide ((i:Int)<l.length)=true:=decide_eq_true (by omega)
  obtain⟨g,hg⟩:∃p,l[i]?=some p:=⟨_,List.getElem?_eq_getElem hik⟩
  have hM:=fK g (hz.z g (List.mem_of_getElem? hg))
  rw[List.all_eq_true.1 hall g (List.mem_of_getElem? hg)] at hM
  have hM:Ab Tryz.prog 9 [dpA g] (fun r=>r= .tup [A4 0 5 (ptE g),iv 0]):=hM
  have hs1:=Hp ptE hg
  generalize ptE g=e at hM hs1
  (repeat'((conv=>whnf);first|refine zP ?_|refine NIdx.tab (fun _=>rfl) hg ?_|refine Aa hM Ma ?_|refine A3 Ct e ?_|(with_reducible refine NInt.i64 ?_)));(all_goals(conv=>whnf))
  refine⟨i+1,by omega,by omega,?_⟩
  rw[hs1]
  exact leQ
 ·have gi:decide ((i:Int)<l.length)=false:=decide_eq_false (by omega)
  obtain rfl:i=l.length:=by omega
  rw[List.take_length]
  (repeat'((conv=>whnf);first|refine zN ?_|refine Aa hU Ma ?_|exact zE))
def K9 (l:List Pt):Bool:=(l.take 8).all Kh&&decide (l.length≤4)
theorem fM (l:List Pt) (h:l.length≤big∧∀p∈l,p.okk):Ab Tryz.prog 22 [.d (Hr l)] (fun x=>x=bv (K9 l)):=by
 have hl:=h.1
 unfold big at hl
 refine acQ 23 Tryz.func22 rfl rfl fun _ _ _=> ?_
 (all_goals(conv=>whnf))
 refine Au (fun i:Nat=>i≤l.length∧i≤8∧(l.take i).all Kh=true) (fun i=>l.length-i) (fun i=>⟨[(0,.d (Hr l)),(3,iv i)],[],[]⟩) 0 ⟨by omega,by omega,rfl⟩ leQ ?_
 rintro i ⟨hi,hi10,ha⟩
 by_cases hik:i<l.length∧i<8
 ·obtain⟨hik,hi9⟩:=hik
  have gi:decide ((i:Int)<l.length)=true:=decide_eq_true (by omega)
  have g8:decide ((i:Int)<8)=true:=decide_eq_true (by omega)
  obtain⟨g,hg⟩:∃p,l[i]?=some p:=⟨_,List.getElem?_eq_getElem hik⟩
  have hF:=Vt g (h.2 g (List.mem_of_getElem? hg))
  cases hf:Kh g
  ·rw[hf] at hF
   rw[show K9 l=false by unfold K9;rw[Sb Kh hg (m:=8) hi9 hf];rfl]
   (repeat'((conv=>whnf);first|refine zP ?_|refine Ac ?_|refine NIdx.tab (fun _=>rfl) hg ?_|refine Aa hF Ma ?_|exact zE))
  ·rw[hf] at hF
   (repeat'((conv=>whnf);first|refine zP ?_|refine Ac ?_|refine Ae ?_|refine NIdx.tab (fun _=>rfl) hg ?_|refine Aa hF Ma ?_|(with_reducible refine NInt.i64 ?_)));(all_goals(conv=>whnf))
   refine⟨i+1,⟨by omega,by omega,by rw[O6 Kh hg,ha,hf];rfl⟩,by omega,?_⟩
   exact leQ
 ·have hR:K9 l=decide (l.length≤4):=by unfold K9;rw[←O7 hi hi10 hik,ha];rfl
  rw[hR]
  have e:decide ((l.length:Int)≤4)=decide (l.length≤4):=by rw[Bool.eq_iff_iff,decide_eq_true_iff,decide_eq_true_iff];omega
  by_cases k1:i<l.length
  ·have gi:decide ((i:Int)<l.length)=true:=decide_eq_true (by omega)
   have g8:decide ((i:Int)<8)=false:=decide_eq_false (by omega)
   (repeat'((conv=>whnf);first|refine zP ?_|refine zN ?_|refine Ac ?_));(all_goals(conv=>whnf))
   all_goals(refine Az ?_;(repeat'(first|refine And.intro ?_ ?_|exact rfl));(all_goals(conv=>whnf)))
   all_goals(rw[e])
  ·have gi:decide ((i:Int)<l.length)=false:=decide_eq_false (by omega)
   (repeat'((conv=>whnf);first|refine zN ?_|refine Ae ?_));(all_goals(conv=>whnf))
   all_goals(refine Az ?_;(repeat'(first|refine And.intro ?_ ?_|exact rfl));(all_goals(conv=>whnf)))
   all_goals(rw[e])
end Go.Proofs.YtjakkpcpommojaaGreatDoor
