/- NS: the texts CovR, one behind the other. No condition but what each lemma says. -/
import Derived.Test.YtaoahmplnckhpaaGreatDoorNR
namespace Go.Proofs.YtaoahmplnckhpaaGreatDoor
open Go.RowKit
set_option maxRecDepth 100000
set_option maxHeartbeats 16000000
theorem Ox {α:Type} (f:α→Bool) {l:List α} {i:Nat} {x:α} (h:l[i]?=some x):(l.take (i+1)).any f=((l.take i).any f||f x):=by
 obtain⟨hlt,he⟩:=As.1 h
 rw[List.take_succ_eq_append_getElem hlt,he,List.any_append];simp
theorem aF {α:Type} (f:α→Bool) {l:List α} {i:Nat} {x:α} (h:l[i]?=some x) (hx:f x=true):l.any f=true:=List.any_eq_true.2 ⟨x,Bk h,hx⟩
theorem Dx {p:Prop} (h:p:=by first|rfl|(simp only[AV.gives,AV.ren,AV.give,D.un,D.uns,Ai,Am,List.nil_append,List.append_nil,List.cons_append,At,A5,Cm,Bm,A4,Cf,Ck,Cn,Bp,C7,Be];first|done|rfl)):p:=h
theorem uJ (x:Iss) (p:Pt) (hx:nmZZ x.f x.r) (hp:p.z):Ac Tryz.prog 10 [diA x,dpA p] (fun r=>r=bv (uH x p)):=by
 have hV:=uC x hx
 have hW:=uB p hp
 unfold uH
 cases h1:isW x
 ·rw[h1] at hV
  clear h1
  refine acQ 98 Tryz.func10 rfl rfl fun _ _ _=> ?_
  (repeat'((conv=>whnf);first|refine Ab ?_|refine Aa hV Dx ?_|exact zE))
 rw[h1] at hV
 cases h2:ptW p
 ·rw[h2] at hW
  clear h1 h2
  refine acQ 98 Tryz.func10 rfl rfl fun _ _ _=> ?_
  (repeat'((conv=>whnf);first|refine Ab ?_|refine Ae ?_|refine Aa hV Dx ?_|refine Aa hW Dx ?_|exact zE))
 rw[h2] at hW
 obtain⟨x1,x2,-⟩:=Nx.1 h1
 obtain⟨p1,p2,-⟩:=Lf.1 h2
 have hRD:=Wy x.r p.r hx.q.r hp.m.q.r
 have q1:=hx.q.f
 have q2:=hp.m.q.f
 obtain⟨f,r,u,c,n,a,s⟩:=x
 obtain⟨pf,pr,ps,pi⟩:=p
 unfold DJ
 simp only at*
 obtain⟨k,rfl⟩:=Int.eq_ofNat_of_zero_le x2.1
 obtain⟨m,rfl⟩:=Int.eq_ofNat_of_zero_le p2.1
 have hk:k<512:=by have:=x2.2;omega
 have hm:m<512:=by have:=p2.2;omega
 have hA1:=aE m hm
 have hA2:=aE k hk
 have hB1:=Z9 (Lj m) (Qd hm)
 have hB2:=Z9 (Lj k) (Qd hk)
 have hl1:(mbr (Lj m)).length≤9:=Qa _ 9
 have hl2:(mbr (Lj k)).length≤9:=Qa _ 9
 rw[Int.toNat_natCast,Int.toNat_natCast]
 unfold yY
 generalize Lj m=A at hA1 hB1 hl1⊢
 generalize Lj k=B at hA2 hB2 hl2⊢
 generalize mbr A=M at hB1 hl1⊢
 generalize mbr B=K at hB2 hl2⊢
 clear hx hp h1 h2 x1 x2 p1 p2
 obtain⟨qa,qb⟩:=q1
 obtain⟨qc,qd⟩:=q2
 refine acQ 98 Tryz.func10 rfl rfl fun _ _ _=> ?_
 (repeat'((conv=>whnf);first|refine Ae ?_|refine Aa hV Dx ?_|refine Aa hW Dx ?_|refine Aa hA1 rfl ?_|refine Aa hB1 rfl ?_));(all_goals(conv=>whnf))
 refine Az (fun i:Nat=>i≤M.length∧(M.take i).all (fun y=>K.any fun z=>z==y)=true) (fun i=>M.length-i) (fun i=>⟨[(2,.ptr 2 0),(3,.ptr 3 0),(5,.d (Ey true 1 nbO M)),(6,iv i)],[(2,[.d (Ch f),.d (Dm r),bv u,bv c,bv n,bv a,iv k]),(3,[.d (Ch pf),.d (Dm pr),iv m,.d (Ch pi)])],[]⟩) 0 ⟨by omega,rfl⟩ leQ ?_
 rintro i ⟨hi,hal⟩
 by_cases hik:i<M.length
 ·have gi:decide ((i:Int)<(M.length:Int))=true:=decide_eq_true (by omega)
  obtain⟨y,hy⟩:∃p,M[i]?=some p:=⟨_,Ak hik⟩
  (repeat'((conv=>whnf);first|refine zP ?_|refine Aa hA2 rfl ?_|refine Aa hB2 rfl ?_));(all_goals(conv=>whnf))
  refine Az (fun j:Nat=>j≤K.length) (fun j=>K.length-j) (fun j=>⟨[(2,.ptr 2 0),(3,.ptr 3 0),(5,.d (Ey true 1 nbO M)),(6,iv i),(7,bv ((K.take j).any fun z=>z==y)),(8,.d (Ey true 1 nbO K)),(9,iv j)],[(2,[.d (Ch f),.d (Dm r),bv u,bv c,bv n,bv a,iv k]),(3,[.d (Ch pf),.d (Dm pr),iv m,.d (Ch pi)])],[]⟩) 0 (by omega) leQ ?_
  intro j hj
  by_cases hjk:j<K.length
  ·have gj:decide ((j:Int)<(K.length:Int))=true:=decide_eq_true (by omega)
   obtain⟨z,hz⟩:∃p,K[j]?=some p:=⟨_,Ak hjk⟩
   have hs:=Ox (fun z=>z==y) hz
   have e:((z:Int)==(y:Int))=(z==y):=by rw[Bool.eq_iff_iff,beq_iff_eq,beq_iff_eq];omega
   cases hh:(K.take j).any fun z=>z==y
   ·rw[hh,Bool.false_or,←e] at hs
    clear hh
    (repeat'((conv=>whnf);first|refine zP ?_|refine Ae ?_|refine NIdx.tab (fun _=>rfl) hz ?_|refine NIdx.tab (fun _=>rfl) hy ?_|(with_reducible refine NInt.i64 ?_)|refine zF ?_));(all_goals(conv=>whnf))
    refine⟨j+1,by omega,by omega,?_⟩
    rw[hs]
    exact leQ
   ·rw[hh,Bool.true_or] at hs
    clear hh
    (repeat'((conv=>whnf);first|refine zP ?_|refine Ab ?_|(with_reducible refine NInt.i64 ?_)|refine zF ?_));(all_goals(conv=>whnf))
    refine⟨j+1,by omega,by omega,?_⟩
    rw[hs]
    exact leQ
  ·have gj:decide ((j:Int)<(K.length:Int))=false:=decide_eq_false (by omega)
   obtain rfl:j=K.length:=by omega
   rw[List.take_length]
   cases hh:K.any fun z=>z==y
   ·rw[tI (fun y=>K.any fun z=>z==y) hy hh]
    clear hh
    (repeat'((conv=>whnf);first|refine zN ?_|refine Ab ?_|exact zE))
   ·have hnx:=Eo (fun y=>K.any fun z=>z==y) hy hh hal
    clear hh
    (repeat'((conv=>whnf);first|refine zN ?_|refine Ae ?_|(with_reducible refine NInt.i64 ?_)));(all_goals(conv=>whnf))
    refine⟨i+1,⟨by omega,hnx⟩,by omega,?_⟩
    exact leQ
 ·have gi:decide ((i:Int)<(M.length:Int))=false:=decide_eq_false (by omega)
  obtain rfl:i=M.length:=by omega
  rw[List.take_length] at hal
  rw[hal]
  clear hal hB1 hB2 hA1 hA2
  by_cases r0:r=[]
  rotate_left
  ·have gr:=Ov r0
   have gz:=Jp r0
   rw[if_neg r0,Ft.2 (.inr r0)]
   by_cases f0:f=[]
   ·subst f0
    (repeat'((conv=>whnf);first|refine zP ?_|refine zN ?_|refine Ab ?_|refine Aa hRD Dx ?_|exact zE))
   ·have gf:=Jp f0
    (repeat'((conv=>whnf);first|refine zP ?_|refine zN ?_|refine Ae ?_|refine Aa hRD Dx ?_|exact zE))
  subst r0
  rw[if_pos rfl]
  by_cases f0:f=[]
  ·subst f0
   (repeat'((conv=>whnf);first|refine zN ?_|refine Ab ?_|exact zE))
  have gf:=Jp f0
  rw[Ft.2 (.inl f0)]
  (repeat'((conv=>whnf);first|refine zN ?_|refine Ae ?_));(all_goals(conv=>whnf))
  refine Az (fun i:Nat=>i≤f.length∧(f.take i).any (fun g=>pf.any fun h=>decide (g=h))=false) (fun i=>f.length-i) (fun i=>⟨[(2,.ptr 2 0),(3,.ptr 3 0),(10,iv i)],[(2,[.d (Ch f),.d (Dm []),bv u,bv c,bv n,bv a,iv k]),(3,[.d (Ch pf),.d (Dm pr),iv m,.d (Ch pi)])],[]⟩) 0 ⟨by omega,rfl⟩ leQ ?_
  rintro i ⟨hi,hal⟩
  by_cases hik:i<f.length
  ·have gi:decide ((i:Int)<(f.length:Int))=true:=decide_eq_true (by omega)
   obtain⟨y,hy⟩:∃p,f[i]?=some p:=⟨_,Ak hik⟩
   (repeat'((conv=>whnf);refine zP ?_));(all_goals(conv=>whnf))
   refine Az (fun j:Nat=>j≤pf.length∧(pf.take j).any (fun h=>decide (y=h))=false) (fun j=>pf.length-j) (fun j=>⟨[(2,.ptr 2 0),(3,.ptr 3 0),(10,iv i),(11,iv j)],[(2,[.d (Ch f),.d (Dm []),bv u,bv c,bv n,bv a,iv k]),(3,[.d (Ch pf),.d (Dm pr),iv m,.d (Ch pi)])],[]⟩) 0 ⟨by omega,rfl⟩ leQ ?_
   rintro j ⟨hj,hjl⟩
   by_cases hjk:j<pf.length
   ·have gj:decide ((j:Int)<(pf.length:Int))=true:=decide_eq_true (by omega)
    obtain⟨z,hz⟩:∃p,pf[j]?=some p:=⟨_,Ak hjk⟩
    have hG:=C0 y z (qb y (Bk hy)) (qd z (Bk hz))
    have hs:=Ox (fun h=>decide (y=h)) hz
    cases hd:decide (y=z)
    ·rw[hd] at hG
     rw[hjl,hd] at hs
     clear hd
     (repeat'((conv=>whnf);first|refine zP ?_|refine Ae ?_|refine NIdx.tab (fun _=>rfl) hy ?_|refine NIdx.tab (fun _=>rfl) hz ?_|refine Aa hG Dx ?_|(with_reducible refine NInt.i64 ?_)|refine zF ?_));(all_goals(conv=>whnf))
     refine⟨j+1,⟨by omega,hs⟩,by omega,?_⟩
     exact leQ
    ·rw[hd] at hG
     rw[aF (fun g=>pf.any fun h=>decide (g=h)) hy (aF (fun h=>decide (y=h)) hz hd)]
     clear hd
     (repeat'((conv=>whnf);first|refine zP ?_|refine Ab ?_|refine NIdx.tab (fun _=>rfl) hy ?_|refine NIdx.tab (fun _=>rfl) hz ?_|refine Aa hG Dx ?_|refine zF ?_|exact zE))
   ·have gj:decide ((j:Int)<(pf.length:Int))=false:=decide_eq_false (by omega)
    obtain rfl:j=pf.length:=by omega
    rw[List.take_length] at hjl
    have hs:=Ox (fun g=>pf.any fun h=>decide (g=h)) hy
    rw[hal,hjl] at hs
    (repeat'((conv=>whnf);first|refine zN ?_|(with_reducible refine NInt.i64 ?_)));(all_goals(conv=>whnf))
    refine⟨i+1,⟨by omega,hs⟩,by omega,?_⟩
    exact leQ
  ·have gi:decide ((i:Int)<(f.length:Int))=false:=decide_eq_false (by omega)
   obtain rfl:i=f.length:=by omega
   rw[List.take_length] at hal
   rw[hal]
   (repeat'((conv=>whnf);refine zN ?_));(all_goals(conv=>whnf))
   all_goals exact zE
theorem zC (x:Iss) (p:Pt) (hx:x.okk) (hp:p.okk):Ac Tryz.prog 3 [diA x,dpA p] (fun r=>r=bv true):=by
 have hA:=yX
 have hF:=eT x hx
 have hG:=eR p hp
 cases hf:St x
 ·rw[hf] at hF
  refine acQ 25 Tryz.func3 rfl rfl fun _ _ _=> ?_
  (repeat'((conv=>whnf);first|refine Ab ?_|refine Ae ?_|refine Aa hA rfl ?_|refine Aa hF Dx ?_|exact zE))
 rw[hf] at hF
 cases hg:Ss p
 ·rw[hg] at hG
  refine acQ 25 Tryz.func3 rfl rfl fun _ _ _=> ?_
  (repeat'((conv=>whnf);first|refine Ab ?_|refine Ae ?_|refine Aa hA rfl ?_|refine Aa hF Dx ?_|refine Aa hG Dx ?_|exact zE))
 rw[hg] at hG
 obtain⟨s1,z1,-,-⟩:=yW hf
 obtain⟨s2,z2,-,-⟩:=yV hg
 have h1:=zB x p s1 s2 hx.s hp.s
 have h2:=uJ x p z1 z2
 generalize uH x p=w at h1 h2
 cases w
 all_goals
  refine acQ 25 Tryz.func3 rfl rfl fun _ _ _=> ?_
  (repeat'((conv=>whnf);first|refine Ae ?_|refine Aa hA rfl ?_|refine Aa hF Dx ?_|refine Aa hG Dx ?_|refine Aa h1 Dx ?_|refine Aa h2 Dx ?_|refine zF ?_|exact zE))
end Go.Proofs.YtaoahmplnckhpaaGreatDoor
