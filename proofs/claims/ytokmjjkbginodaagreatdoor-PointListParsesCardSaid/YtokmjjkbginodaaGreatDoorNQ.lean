/- NQ: the texts LawPL, one behind the other. No condition but what each lemma says. -/
import Derived.Test.YtokmjjkbginodaaGreatDoorNJ
namespace Go.Proofs.YtokmjjkbginodaaGreatDoor
open Go.RowKit
set_option maxRecDepth 100000
set_option maxHeartbeats 16000000
theorem DR {v:List Pt} (hw:v.all ptW=true) (hl:(Jp v).length≤3000):ptsM v∧(∀p∈v,p.eqs)∧v.length≤1000000:=by
 have h0:=Dp 0 16 true (v.map ptE).flatten
 have e:(Jp v).length=(Ah 0 16 true (v.map ptE).flatten).length:=rfl
 have hc:=Nd ptE 2 (l:=v) fun p _=>qP p
 have hp:∀p∈v,(ptE p).length≤399000:=fun p hp=>by
  have:=Gc (List.mem_map_of_mem (f:=ptE) hp)
  omega
 have hs:∀p∈v,p.sm:=fun p hm=>Xd (List.all_eq_true.1 hw p hm) (hp p hm)
 exact⟨⟨by omega,fun p hm=>⟨hs p hm,mV (H5.1 (List.all_eq_true.1 hw p hm)).2.1⟩,by omega⟩,fun p hm=>(hs p hm).q,by omega⟩
theorem vR {b:List UInt8} {c o:Nat} (h:mS b=(none,c,o)) (hb:b.length≤3000):Py b ((Bt b).ks.map D6)=false:=by
 cases hr:Py b ((Bt b).ks.map D6) with
 |false=>rfl
 |true=>
  generalize (Bt b).ks.map D6=v at hr
  unfold Py at hr
  rw[At,beq_iff_eq] at hr
  obtain⟨v0,v1⟩:=Lg.1 hr.1
  obtain⟨hm,-,-⟩:=DR v1 (by rw[hr.2];omega)
  have:=JF v0 v1 (fun p hp=>(hm.m p hp).1) (by have:=hm.e;omega)
  rw[hr.2,h] at this;cases this
theorem nG {b:List UInt8} {v:List Pt} (h0:v≠[]) (hw:v.all ptW=true) (he:b=Jp v) (hb:b.length≤3000):ptsM v∧(Bt b).ks.map D6=v∧Py b v=true∧∀p∈v,p.eqs:=by
 obtain⟨hm,hq,-⟩:=DR hw (by rw[←he];omega)
 refine⟨hm,by rw[he];exact DN hw (fun p hp=>(hm.m p hp).1) (by have:=hm.e;omega),?_,hq⟩
 unfold Py
 rw[Lg.2 ⟨h0,hw⟩,he,beq_self_eq_true];rfl
theorem Ib {p:Prop} (h:p:=by first|rfl|(simp only[AV.gives,AV.ren,AV.give,D.un,D.uns,An,Ao,List.nil_append,List.append_nil,List.cons_append,Av,A9,Ca,Bn,Bd,B8,Ck,Bw,Bl,Bx,Bf,J3,Lx,cL,cK,JM,qX,qY,cM];first|done|rfl)):p:=h
theorem DS (b:List UInt8) (hb:b.length≤big):Ab Tryz.prog 4 [.d (Af false b)] (fun r=>r=bv true):=by
 have hA:=qW
 unfold big at hb
 by_cases h1:(b.length:Int)>3000
 ·have g1:decide ((b.length:Int)>3000)=true:=decide_eq_true h1
  refine acQ 81 Tryz.func4 rfl rfl fun _ _ _=> ?_
  (repeat'((conv=>whnf);first|refine zP ?_|refine Ae ?_|refine Aa hA rfl ?_|exact zE))
 have g1:decide ((b.length:Int)>3000)=false:=decide_eq_false h1
 have hl:b.length≤3000:=by omega
 have hP:=nE b (by omega) (fun x _=>by have:=N7 b x;omega)
 have hR:=vP b hl
 rcases JE b (by omega) with⟨v,⟨h0,hw,he⟩,ho⟩|⟨c,o,hc0,hof,ho⟩
 ·obtain⟨hm,e1,e2,hq⟩:=nG h0 hw he hl
  have hn:=hm.n
  rw[e1,if_pos e2] at hR
  rw[ho] at hP
  have hP:Ab Tryz.prog 11 [.d (Af false b)] (fun r=>r= .tup [.d (OM v),erA 0 0]):=hP
  have hM:=nD v hm
  rw[Lg.2 ⟨h0,hw⟩,←he] at hM
  have hM:Ab Tryz.prog 15 [.d (Kk v)] (fun r=>r= .tup [Bb 0 5 b,iv 0]):=hM
  have hV:=Xi v hm
  rw[Lg.2 ⟨h0,hw⟩] at hV
  have hC:=qU v v ⟨by omega,hq⟩ ⟨by omega,hq⟩
  rw[decide_eq_true rfl] at hC
  have hW:=AE 0 0 b.length (fun _=>rfl) (fun h=>absurd rfl h)
  have hB:=Cw false false b b (by omega) (by omega)
  rw[beq_self_eq_true] at hB
  refine acQ 81 Tryz.func4 rfl rfl fun _ _ _=> ?_
  (repeat'((conv=>whnf);first|refine zN ?_|refine Ac ?_|refine Ae ?_|refine Aa hA rfl ?_|refine Aa hP Ib ?_|refine Aa hR Ib ?_|refine Aa hC Ib ?_|refine Aa hW rfl ?_|refine Aa hM Ib ?_|refine Aa hV Ib ?_|refine Aa hB Ib ?_|exact zE))
 ·rw[vR ho hl,if_neg (by simp)] at hR
  rw[ho] at hP
  have hP:Ab Tryz.prog 11 [.d (Af false b)] (fun r=>r= .tup [A4,erA c o]):=hP
  have hC:=qU [] [] ⟨by simp,by simp⟩ ⟨by simp,by simp⟩
  rw[decide_eq_true rfl] at hC
  have hW:=AE c o b.length (fun h=>absurd h hc0) (fun _=>hof)
  have gc:((c:Int)==0)=false:=by rw[beq_eq_false_iff_ne];omega
  refine acQ 81 Tryz.func4 rfl rfl fun _ _ _=> ?_
  (repeat'((conv=>whnf);first|refine zN ?_|refine Ac ?_|refine Ae ?_|refine Aa hA rfl ?_|refine Aa hP Ib ?_|refine Aa hR Ib ?_|refine Bk hC Mq ?_|refine Aa hW rfl ?_|(refine NBr.mk (fun hc=> ?_) (fun hc=> ?_)<;>(have hcP:=hc;(try simp only[zS] at hcP)<;>first|(exfalso;omega)|skip))|exact zE))
end Go.Proofs.YtokmjjkbginodaaGreatDoor
