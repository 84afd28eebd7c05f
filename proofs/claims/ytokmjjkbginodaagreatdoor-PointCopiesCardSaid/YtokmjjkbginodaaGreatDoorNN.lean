/- NN: the texts LawPK, one behind the other. No condition but what each lemma says. -/
import Derived.Test.YtokmjjkbginodaaGreatDoorNK
import Derived.Test.YtokmjjkbginodaaGreatDoorNT
namespace Go.Proofs.YtokmjjkbginodaaGreatDoor
open Go.RowKit
set_option maxRecDepth 100000
set_option maxHeartbeats 16000000
theorem nF (r:List Att):(Jn r).fresh=true:=
 Nt 2 fun a _=>by
  show(true&&((Af true a.val).fresh&&true))=true
  rw[Ms];rfl
theorem vQ (k:Pt) (c o:Int):(AV.tup [ptQ k,erA c o]).fresh=true:=by
 show((true&&((Jo k.f).fresh&&((Jn k.r).fresh&&(true&&((Jo k.i).fresh&&true)))))&&((true&&(true&&true))&&true))=true
 rw[W9,W9,nF];rfl
theorem OP:pt0.sm:=⟨⟨⟨Lf,Ia⟩,Lf⟩,by simp[pt0,Bm],by simp[pt0,Bm]⟩
theorem QA:ptW pt0=false:=by rw[mT];simp[pt0,Lh]
theorem Nj {p:Prop} (h:p:=by first|rfl|(simp only[AV.gives,AV.ren,AV.give,D.un,D.uns,An,Ao,List.nil_append,List.append_nil,List.cons_append,AV.frz,AV.frzs,Av,A9,Ca,Bn,Bd,B8,Ck,Bw,Bl,Bx,Bf,J3,Lx];first|done|rfl)):p:=h
theorem JO (b:List UInt8) (hb:b.length≤big):Ab Tryz.prog 3 [.d (Af false b)] (fun r=>r=bv true):=by
 have hA:=qW
 unfold big at hb
 by_cases h1:(b.length:Int)>3000
 ·have g1:=LX h1
  clear h1
  refine acQ 88 Tryz.func3 rfl rfl fun _ _ _=> ?_
  (repeat'((conv=>whnf);first|refine zP ?_|refine Ae ?_|refine Aa hA rfl ?_|exact zE))
 have g1:=PM h1
 have hP:=Zo b (by omega)
 have hR:=DH b (by omega)
 have hBB:=Cw false false b b (by omega) (by omega)
 rw[beq_self_eq_true] at hBB
 have hb9:b.length≤1000000000:=by omega
 rcases Se b (by omega) with⟨k,⟨hw,he⟩,hg⟩|⟨c,o,hc0,hof,hg⟩
 ·have hpos:0<b.length:=by rw[he];have:=qP k;omega
  obtain⟨hm,y1,y2⟩:=vA hw he (by omega)
  rw[hg] at hP
  have hP:Ab Tryz.prog 6 [.d (Af false b)] (fun r=>r= .tup [ptQ k,erA 0 0]):=hP
  rw[y1,if_pos y2] at hR
  have hM:=Li k hm (mV (H5.1 hw).2.1)
  rw[hw,←he] at hM
  have hM:Ab Tryz.prog 8 [dpA k] (fun r=>r= .tup [Bb 0 5 b,iv 0]):=hM
  have hC:=mY k k hm.q hm.q
  rw[decide_eq_true rfl] at hC
  have hfr:=vQ k 0 0
  clear y1 y2 hm he
  refine acX 88 [8] Tryz.func3 rfl rfl fun _ _ _=> ?_
  (repeat'((conv=>whnf);first|refine zN ?_|refine Ae ?_|refine Aa hA rfl ?_|refine Aj (I5 (sz:=1) rfl rfl (ltN rfl) Tryz.underlying22 rfl rfl) ?_|refine Nf clQ ?_|refine Aj (O8 rfl rfl (ltN rfl) (C2.ty rfl) tyB) ?_|refine Aj (Yi (κ:=2000) rfl rfl (ltN rfl) clQ rfl rfl (Mr b) hpos Tryz.underlying22 tyB rfl hb9 (by omega)) ?_|refine Aj (U4 (κ:=2500) (k:=2000) rfl rfl (ltN rfl) clQ rfl (Gk b) (Gj b) rfl hP hfr) ?_|refine Aj (U5 (κ:=2600) (k:=2000) rfl rfl (ltN rfl) clQ rfl (Gk b) (Gj b) rfl rfl hBB rfl) ?_));(all_goals(conv=>whnf))
  refine Ax (fun i:Nat=>i≤b.length) (fun i=>b.length-i) (fun i=>⟨[(0,.d (Af false b)),(3,.pk 2000 0 b.length 1),(4,.ptr 4 0),(5,.ptr 5 0),(6,iv i)],[(2000,(Ak (Sb i b)).map AV.d),(4,[.d (Jo k.f),.d (Jn k.r),iv k.s,.d (Jo k.i)]),(5,[iv 0,iv 0])],[]⟩) 0 (by omega) (by((repeat'(first|exact trivial|exact Be _|refine And.intro ?_ ?_));(all_goals(conv=>whnf)));all_goals exact D2 _) ?_
  intro i hi
  by_cases hik:i<b.length
  ·have gi:decide ((i:Int)<b.length)=true:=decide_eq_true (by omega)
   obtain⟨x,hx⟩:∃x,b[i]?=some x:=⟨_,Am hik⟩
   have hx':=mI hx
   have hil:i<(Sb i b).length:=by rw[bX];exact hik
   have hs:=bY hx
   (repeat'((conv=>whnf);first|refine zP ?_|refine Aj (Ht rfl rfl (ltN rfl) Tryz.underlying22 rfl) ?_|refine Aj (Hr i rfl rfl (ltN rfl) Tryz.underlying22 tyB rfl rfl rfl hik) ?_|refine Aj (O7 rfl rfl (ltN rfl) rfl rfl hx') ?_|(with_reducible refine Bi (x.toNat+1) ?_)|refine Aj (Fu rfl rfl rfl rfl rfl hil) ?_|(with_reducible refine NInt.i64 ?_)));(all_goals(conv=>whnf))
   refine⟨i+1,by omega,by omega,?_⟩
   rw[←hs]
   ((repeat'(first|exact trivial|exact Be _|refine And.intro ?_ ?_));(all_goals(conv=>whnf)))
   all_goals exact D2 _
  ·have gi:decide ((i:Int)<b.length)=false:=decide_eq_false (by omega)
   (repeat'((conv=>whnf);first|refine zN ?_|refine Ae ?_|refine Nf clQ ?_|refine Aj (Ht rfl rfl (ltN rfl) Tryz.underlying22 rfl) ?_|refine Su (hM) (hpos) rfl rfl rfl (ltN rfl) 3000 clQ rfl rfl Nj ?_|refine Aa hR Nj ?_|refine Aa hC Nj ?_));(all_goals(conv=>whnf))
   refine Ax (fun i:Nat=>i≤b.length) (fun i=>b.length-i) (fun i=>⟨[(4,.ptr 4 0),(7,.pk 3000 0 b.length 1),(8,iv 0),(9,.ptr 9 0),(10,bv true),(11,iv i)],[(3000,(Ak (Sb i b)).map AV.d),(4,[.d (Jo k.f),.d (Jn k.r),iv k.s,.d (Jo k.i)]),(9,[.d (Tb k.f),.d (Jn k.r),iv k.s,.d (Tb k.i)])],[]⟩) 0 (by omega) (by((repeat'(first|exact trivial|exact Be _|refine And.intro ?_ ?_));(all_goals(conv=>whnf)));all_goals exact D2 _) ?_
   intro j hj
   by_cases hjk:j<b.length
   ·have gj:decide ((j:Int)<b.length)=true:=decide_eq_true (by omega)
    obtain⟨x,hx⟩:∃x,b[j]?=some x:=⟨_,Am hjk⟩
    have hx':=mI hx
    have hil:j<(Sb j b).length:=by rw[bX];exact hjk
    have hs:=bY hx
    (repeat'((conv=>whnf);first|refine zP ?_|refine Aj (Ht rfl rfl (ltN rfl) Tryz.underlying22 rfl) ?_|refine Aj (Hr j rfl rfl (ltN rfl) Tryz.underlying22 tyB rfl rfl rfl hjk) ?_|refine Aj (O7 rfl rfl (ltN rfl) rfl rfl hx') ?_|(with_reducible refine Bi (x.toNat+1) ?_)|refine Aj (Fu rfl rfl rfl rfl rfl hil) ?_|(with_reducible refine NInt.i64 ?_)));(all_goals(conv=>whnf))
    refine⟨j+1,by omega,by omega,?_⟩
    rw[←hs]
    ((repeat'(first|exact trivial|exact Be _|refine And.intro ?_ ?_));(all_goals(conv=>whnf)))
    all_goals exact D2 _
   ·have gj:decide ((j:Int)<b.length)=false:=decide_eq_false (by omega)
    (repeat'((conv=>whnf);first|refine zN ?_|refine Ac ?_|refine Ae ?_|refine Nf clQ ?_|refine Aj (Ht rfl rfl (ltN rfl) Tryz.underlying22 rfl) ?_|refine Aa hC Nj ?_|exact zE))
 ·rw[DB hg (by omega),if_neg (by simp)] at hR
  rw[hg] at hP
  have hP:Ab Tryz.prog 6 [.d (Af false b)] (fun r=>r= .tup [ptZ,erA c o]):=hP
  have hC:=mY pt0 pt0 KE KE
  rw[decide_eq_true rfl] at hC
  unfold pt0 at hC
  have gc:((c:Int)==0)=false:=by rw[beq_eq_false_iff_ne];omega
  have hM:=Li pt0 OP (by unfold L2 pt0;simp)
  rw[QA] at hM
  have hM:Ab Tryz.prog 8 [dpA pt0] (fun r=>r= .tup [A4,iv 8]):=hM
  have hM:=hM.les (Jw (show Oc [ptZ] [dpA pt0] by exact Mq))
  have hfr:(AV.tup [ptZ,erA c o]).fresh=true:=rfl
  by_cases hb0:b=[]
  ·subst hb0
   refine acX 88 [8] Tryz.func3 rfl rfl fun _ _ _=> ?_
   (repeat'((conv=>whnf);first|refine zN ?_|refine Ae ?_|refine Aa hA rfl ?_|refine Aj (I5 (sz:=1) rfl rfl (ltN rfl) Tryz.underlying22 rfl rfl) ?_|refine Aj (O8 rfl rfl (ltN rfl) (C2.ty rfl) tyB) ?_|refine Aj (kV rfl rfl (ltN rfl) rfl rfl Tryz.underlying22 tyB) ?_|refine Aa hP rfl ?_|refine Aa hBB rfl ?_));(all_goals(conv=>whnf))
   refine Ax (fun i:Nat=>i=0) (fun i=>i) (fun i=>⟨[(0,.d (Af false [])),(3,.d (.sl false 0 1 [])),(4,.ptr 4 0),(5,.ptr 5 0),(6,iv 0)],[(4,[A4,A4,iv 0,A4]),(5,[iv c,iv o])],[]⟩) 0 rfl leQ ?_
   rintro i rfl
   (repeat'((conv=>whnf);first|refine Ae ?_|refine Aj (I5 (sz:=1) rfl rfl (ltN rfl) Tryz.underlying22 rfl rfl) ?_|refine NStep.call (hM) rfl rfl (ltN rfl) 3000 clQ rfl rfl rfl ?_|refine Aa hR rfl ?_|refine Bk hC Mq ?_|(refine NBr.mk (fun hc=> ?_) (fun hc=> ?_)<;>(have hcP:=hc;(try simp only[zS] at hcP)<;>first|(exfalso;omega)|skip))));(all_goals(conv=>whnf))
   refine Ax (fun i:Nat=>i=0) (fun i=>i) (fun i=>⟨[(7,A4),(8,iv 8),(10,bv false),(11,iv 0)],[],[]⟩) 0 rfl leQ ?_
   rintro i rfl
   (repeat'((conv=>whnf);first|refine Ac ?_|refine Ae ?_|refine Aj (I5 (sz:=1) rfl rfl (ltN rfl) Tryz.underlying22 rfl rfl) ?_|exact zE))
  have hpos:0<b.length:=List.length_pos_iff.2 hb0
  refine acX 88 [8] Tryz.func3 rfl rfl fun _ _ _=> ?_
  (repeat'((conv=>whnf);first|refine zN ?_|refine Ae ?_|refine Aa hA rfl ?_|refine Aj (I5 (sz:=1) rfl rfl (ltN rfl) Tryz.underlying22 rfl rfl) ?_|refine Nf clQ ?_|refine Aj (O8 rfl rfl (ltN rfl) (C2.ty rfl) tyB) ?_|refine Aj (Yi (κ:=2000) rfl rfl (ltN rfl) clQ rfl rfl (Mr b) hpos Tryz.underlying22 tyB rfl hb9 (by omega)) ?_|refine Aj (U4 (κ:=2500) (k:=2000) rfl rfl (ltN rfl) clQ rfl (Gk b) (Gj b) rfl hP hfr) ?_|refine Aj (U5 (κ:=2600) (k:=2000) rfl rfl (ltN rfl) clQ rfl (Gk b) (Gj b) rfl rfl hBB rfl) ?_));(all_goals(conv=>whnf))
  refine Ax (fun i:Nat=>i≤b.length) (fun i=>b.length-i) (fun i=>⟨[(0,.d (Af false b)),(3,.pk 2000 0 b.length 1),(4,.ptr 4 0),(5,.ptr 5 0),(6,iv i)],[(2000,(Ak (Sb i b)).map AV.d),(4,[A4,A4,iv 0,A4]),(5,[iv c,iv o])],[]⟩) 0 (by omega) (by((repeat'(first|exact trivial|exact Be _|refine And.intro ?_ ?_));(all_goals(conv=>whnf)));all_goals exact D2 _) ?_
  intro i hi
  by_cases hik:i<b.length
  ·have gi:decide ((i:Int)<b.length)=true:=decide_eq_true (by omega)
   obtain⟨x,hx⟩:∃x,b[i]?=some x:=⟨_,Am hik⟩
   have hx':=mI hx
   have hil:i<(Sb i b).length:=by rw[bX];exact hik
   have hs:=bY hx
   (repeat'((conv=>whnf);first|refine zP ?_|refine Aj (Ht rfl rfl (ltN rfl) Tryz.underlying22 rfl) ?_|refine Aj (Hr i rfl rfl (ltN rfl) Tryz.underlying22 tyB rfl rfl rfl hik) ?_|refine Aj (O7 rfl rfl (ltN rfl) rfl rfl hx') ?_|(with_reducible refine Bi (x.toNat+1) ?_)|refine Aj (Fu rfl rfl rfl rfl rfl hil) ?_|(with_reducible refine NInt.i64 ?_)));(all_goals(conv=>whnf))
   refine⟨i+1,by omega,by omega,?_⟩
   rw[←hs]
   ((repeat'(first|exact trivial|exact Be _|refine And.intro ?_ ?_));(all_goals(conv=>whnf)))
   all_goals exact D2 _
  ·have gi:decide ((i:Int)<b.length)=false:=decide_eq_false (by omega)
   (repeat'((conv=>whnf);first|refine zN ?_|refine Ae ?_|refine Nf clQ ?_|refine Aj (Ht rfl rfl (ltN rfl) Tryz.underlying22 rfl) ?_|refine NStep.call (hM) rfl rfl (ltN rfl) 3000 clQ rfl rfl rfl ?_|refine Aa hR Nj ?_|refine Bk hC Mq ?_|(refine NBr.mk (fun hc=> ?_) (fun hc=> ?_)<;>(have hcP:=hc;(try simp only[zS] at hcP)<;>first|(exfalso;omega)|skip))));(all_goals(conv=>whnf))
   refine Ax (fun i:Nat=>i=0) (fun i=>i) (fun i=>⟨[(7,A4),(8,iv 8),(10,bv false),(11,iv 0)],[],[]⟩) 0 rfl leQ ?_
   rintro j rfl
   (repeat'((conv=>whnf);first|refine Ac ?_|refine Ae ?_|refine Aj (I5 (sz:=1) rfl rfl (ltN rfl) Tryz.underlying22 rfl rfl) ?_|exact zE))
end Go.Proofs.YtokmjjkbginodaaGreatDoor
