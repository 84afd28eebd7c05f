/- MZ: the text LawSK. No condition but what each lemma says. -/
import Derived.Test.YtgmbmfoabndmoaaGreatDoorMW
set_option maxRecDepth 100000
set_option maxHeartbeats 16000000
namespace Go.Proofs.YtgmbmfoabndmoaaGreatDoor
open Go.RowKit
theorem qB (P E:List Gn) (c o:Int):(AV.tup [.agg [.d (Gw P),.d (Gw E)],erA c o]).fresh=true:=by
 show(((Gw P).fresh&&((Gw E).fresh&&true))&&((true&&(true&&true))&&true))=true
 rw[Vb,Vb];rfl
theorem L2 {p:Prop} (h:p:=by first|rfl|(simp only[AV.gives,AV.ren,AV.give,D.un,D.uns,Ah,Ai,List.nil_append,List.append_nil,List.cons_append,Am,Av,Bv,A1,As,Bp,Bx,Cz,By,Ce,Br,Pn,Mt];first|done|rfl)):p:=h
theorem BY (b:List UInt8) (hb:b.length≤big):Aa Tryz.prog 7 [.d (Ac false b)] (fun r=>r=bv true):=by
 have hA:=Ow
 unfold big at hb
 by_cases h1:(b.length:Int)>3000
 ·have g1:=EC h1
  clear h1
  refine acQ 88 Tryz.func7 rfl rfl fun _ _ _=> ?_
  (repeat'((conv=>whnf);first|refine NBr.pos asQ ?_|refine NBr.no ?_|refine NCall.eq hA rfl ?_));(all_goals(conv=>whnf))
  all_goals exact NEnd.eq leQ
 have g1:=GT h1
 have hP:=He b (by omega)
 have hR:=dO b (by omega)
 have hBB:=Co false false b b (by omega) (by omega)
 rw[beq_self_eq_true] at hBB
 have hb9:b.length≤1000000000:=by omega
 rcases Vd b (by omega) with⟨P,E,⟨hw,he⟩,hg⟩|⟨c,o,hc0,hof,hg⟩
 ·simp only at hw he
  have hpos:0<b.length:=by have:=Zr P E;rw[he];omega
  obtain⟨hm,y1,y2⟩:=Xe hw he (by omega)
  rw[hg] at hP
  have hP:Aa Tryz.prog 15 [.d (Ac false b)] (fun r=>r= .tup [.agg [.d (Gw P),.d (Gw E)],erA 0 0]):=hP
  rw[y1,if_pos y2] at hR
  have hM:=Gk P E hm
  rw[hw,←he] at hM
  have hM:Aa Tryz.prog 10 [sbA P E] (fun r=>r= .tup [Aq 0 5 b,iv 0]):=hM
  have hC:=H3 P E P E hm.qq.1 hm.qq.2 hm.qq.1 hm.qq.2
  rw[decide_eq_true ⟨rfl,rfl⟩] at hC
  have hfr:=qB P E 0 0
  clear y1 y2 hm he
  refine acX 88 [10] Tryz.func7 rfl rfl fun _ _ _=> ?_
  (repeat'((conv=>whnf);first|refine NBr.neg asQ ?_|refine NBr.no ?_|refine NCall.eq hA rfl ?_|refine NStep.go (Gs (sz:=1) rfl rfl (ltN rfl) Tryz.underlying27 rfl rfl) ?_|refine L0 clQ ?_|refine NStep.go (Nq rfl rfl (ltN rfl) (D3.ty rfl) tyB) ?_|refine NStep.go (Wa (κ:=2000) rfl rfl (ltN rfl) clQ rfl rfl (La b) hpos Tryz.underlying27 tyB rfl hb9 (by omega)) ?_|refine NStep.go (Tc (κ:=2500) (k:=2000) rfl rfl (ltN rfl) clQ rfl (Hp b) (Ho b) rfl hP hfr) ?_|refine NStep.go (Td (κ:=2600) (k:=2000) rfl rfl (ltN rfl) clQ rfl (Hp b) (Ho b) rfl rfl hBB rfl) ?_));(all_goals(conv=>whnf))
  refine NLoop.go (fun i:Nat=>i≤b.length) (fun i=>b.length-i) (fun i=>⟨[(0,.d (Ac false b)),(3,.pk 2000 0 b.length 1),(4,.ptr 4 0),(5,.ptr 5 0),(6,iv i)],[(2000,(Aj (Qm i b)).map AV.d),(4,[.d (Gw P),.d (Gw E)]),(5,[iv 0,iv 0])],[]⟩) 0 (by omega) (by((repeat'(first|exact trivial|exact Ak _|refine And.intro ?_ ?_));(all_goals(conv=>whnf)));all_goals exact Es _) ?_
  intro i hi
  by_cases hik:i<b.length
  ·have gi:decide ((i:Int)<b.length)=true:=decide_eq_true (by omega)
   obtain⟨x,hx⟩:∃x,b[i]?=some x:=⟨_,List.getElem?_eq_getElem hik⟩
   have hx':=iS hx
   have hil:i<(Qm i b).length:=by rw[Zl];exact hik
   have hs:=Zm hx
   (repeat'((conv=>whnf);first|refine NBr.pos asQ ?_|refine NStep.go (Ek rfl rfl (ltN rfl) Tryz.underlying27 rfl) ?_|refine NStep.go (Hm i rfl rfl (ltN rfl) Tryz.underlying27 tyB rfl rfl rfl hik) ?_|refine NStep.go (Hq rfl rfl (ltN rfl) rfl rfl hx') ?_|(with_reducible refine NInt.octZ (x.toNat+1) ?_)|refine NStep.go (Gt rfl rfl rfl rfl rfl hil) ?_|(with_reducible refine NInt.i64 ?_)));(all_goals(conv=>whnf))
   refine⟨i+1,by omega,by omega,?_⟩
   rw[←hs]
   ((repeat'(first|exact trivial|exact Ak _|refine And.intro ?_ ?_));(all_goals(conv=>whnf)))
   all_goals exact Es _
  ·have gi:decide ((i:Int)<b.length)=false:=decide_eq_false (by omega)
   (repeat'((conv=>whnf);first|refine NBr.neg asQ ?_|refine NBr.no ?_|refine L0 clQ ?_|refine NStep.go (Ek rfl rfl (ltN rfl) Tryz.underlying27 rfl) ?_|refine NStep.callX (hM) (hpos) rfl rfl rfl (ltN rfl) 3000 clQ rfl rfl L2 ?_|refine NCall.eq hR L2 ?_|refine NCall.eq hC L2 ?_));(all_goals(conv=>whnf))
   refine NLoop.go (fun i:Nat=>i≤b.length) (fun i=>b.length-i) (fun i=>⟨[(4,.ptr 4 0),(7,.pk 3000 0 b.length 1),(8,iv 0),(9,.ptr 9 0),(10,bv true),(11,iv i)],[(3000,(Aj (Qm i b)).map AV.d),(4,[.d (Gw P),.d (Gw E)]),(9,[.d (U7 P),.d (U7 E)])],[]⟩) 0 (by omega) (by((repeat'(first|exact trivial|exact Ak _|refine And.intro ?_ ?_));(all_goals(conv=>whnf)));all_goals exact Es _) ?_
   intro j hj
   by_cases hjk:j<b.length
   ·have gj:decide ((j:Int)<b.length)=true:=decide_eq_true (by omega)
    obtain⟨x,hx⟩:∃x,b[j]?=some x:=⟨_,List.getElem?_eq_getElem hjk⟩
    have hx':=iS hx
    have hil:j<(Qm j b).length:=by rw[Zl];exact hjk
    have hs:=Zm hx
    (repeat'((conv=>whnf);first|refine NBr.pos asQ ?_|refine NStep.go (Ek rfl rfl (ltN rfl) Tryz.underlying27 rfl) ?_|refine NStep.go (Hm j rfl rfl (ltN rfl) Tryz.underlying27 tyB rfl rfl rfl hjk) ?_|refine NStep.go (Hq rfl rfl (ltN rfl) rfl rfl hx') ?_|(with_reducible refine NInt.octZ (x.toNat+1) ?_)|refine NStep.go (Gt rfl rfl rfl rfl rfl hil) ?_|(with_reducible refine NInt.i64 ?_)));(all_goals(conv=>whnf))
    refine⟨j+1,by omega,by omega,?_⟩
    rw[←hs]
    ((repeat'(first|exact trivial|exact Ak _|refine And.intro ?_ ?_));(all_goals(conv=>whnf)))
    all_goals exact Es _
   ·have gj:decide ((j:Int)<b.length)=false:=decide_eq_false (by omega)
    (repeat'((conv=>whnf);first|refine NBr.neg asQ ?_|refine NBr.yes ?_|refine NBr.no ?_|refine L0 clQ ?_|refine NStep.go (Ek rfl rfl (ltN rfl) Tryz.underlying27 rfl) ?_|refine NCall.eq hC L2 ?_));(all_goals(conv=>whnf))
    all_goals exact NEnd.eq leQ
 ·rw[dL hg (by omega),if_neg (by simp)] at hR
  rw[hg] at hP
  have hP:Aa Tryz.prog 15 [.d (Ac false b)] (fun r=>r= .tup [.agg [Ao,Ao],erA c o]):=hP
  have q0:([]:List Gn).length≤1000000∧∀p∈([]:List Gn),p.eqs:=⟨by simp,fun p hp=>by cases hp⟩
  have hC:=H3 [] [] [] [] q0 q0 q0 q0
  rw[decide_eq_true ⟨rfl,rfl⟩] at hC
  have gc:((c:Int)==0)=false:=by rw[beq_eq_false_iff_ne];omega
  have hM:=Gk [] [] ⟨by simp,by simp,(fun g hg=>by cases hg),(fun g hg=>by cases hg),by simp[Bn],by simp[Bn]⟩
  have hM:Aa Tryz.prog 10 [sbA [] []] (fun r=>r= .tup [Ao,iv 8]):=hM
  have hM:=hM.les (J2 (show Np [.agg [Ao,Ao]] [sbA [] []] by exact S6))
  have hfr:(AV.tup [.agg [Ao,Ao],erA c o]).fresh=true:=rfl
  by_cases hb0:b=[]
  ·subst hb0
   refine acX 88 [10] Tryz.func7 rfl rfl fun _ _ _=> ?_
   (repeat'((conv=>whnf);first|refine NBr.neg asQ ?_|refine NBr.no ?_|refine NCall.eq hA rfl ?_|refine NStep.go (Gs (sz:=1) rfl rfl (ltN rfl) Tryz.underlying27 rfl rfl) ?_|refine NStep.go (Nq rfl rfl (ltN rfl) (D3.ty rfl) tyB) ?_|refine NStep.go (gA rfl rfl (ltN rfl) rfl rfl Tryz.underlying27 tyB) ?_|refine NCall.eq hP rfl ?_|refine NCall.eq hBB rfl ?_));(all_goals(conv=>whnf))
   refine NLoop.go (fun i:Nat=>i=0) (fun i=>i) (fun i=>⟨[(0,.d (Ac false [])),(3,.d (.sl false 0 1 [])),(4,.ptr 4 0),(5,.ptr 5 0),(6,iv 0)],[(4,[Ao,Ao]),(5,[iv c,iv o])],[]⟩) 0 rfl leQ ?_
   rintro i rfl
   (repeat'((conv=>whnf);first|refine NBr.no ?_|refine NStep.go (Gs (sz:=1) rfl rfl (ltN rfl) Tryz.underlying27 rfl rfl) ?_|refine NStep.call (hM) rfl rfl (ltN rfl) 3000 clQ rfl rfl rfl ?_|refine NCall.eq hR rfl ?_|refine NCall.le hC S6 ?_|(refine NBr.mk (fun hc=> ?_) (fun hc=> ?_)<;>(have hcP:=hc;(try simp only[beq_iff_eq,beq_eq_false_iff_ne,ne_eq,Bool.not_eq_true',Bool.not_eq_false'] at hcP)<;>first|(exfalso;omega)|skip))));(all_goals(conv=>whnf))
   refine NLoop.go (fun i:Nat=>i=0) (fun i=>i) (fun i=>⟨[(7,Ao),(8,iv 8),(10,bv false),(11,iv 0)],[],[]⟩) 0 rfl leQ ?_
   rintro i rfl
   (repeat'((conv=>whnf);first|refine NBr.yes ?_|refine NBr.no ?_|refine NStep.go (Gs (sz:=1) rfl rfl (ltN rfl) Tryz.underlying27 rfl rfl) ?_));(all_goals(conv=>whnf))
   all_goals exact NEnd.eq leQ
  have hpos:0<b.length:=List.length_pos_iff.2 hb0
  refine acX 88 [10] Tryz.func7 rfl rfl fun _ _ _=> ?_
  (repeat'((conv=>whnf);first|refine NBr.neg asQ ?_|refine NBr.no ?_|refine NCall.eq hA rfl ?_|refine NStep.go (Gs (sz:=1) rfl rfl (ltN rfl) Tryz.underlying27 rfl rfl) ?_|refine L0 clQ ?_|refine NStep.go (Nq rfl rfl (ltN rfl) (D3.ty rfl) tyB) ?_|refine NStep.go (Wa (κ:=2000) rfl rfl (ltN rfl) clQ rfl rfl (La b) hpos Tryz.underlying27 tyB rfl hb9 (by omega)) ?_|refine NStep.go (Tc (κ:=2500) (k:=2000) rfl rfl (ltN rfl) clQ rfl (Hp b) (Ho b) rfl hP hfr) ?_|refine NStep.go (Td (κ:=2600) (k:=2000) rfl rfl (ltN rfl) clQ rfl (Hp b) (Ho b) rfl rfl hBB rfl) ?_));(all_goals(conv=>whnf))
  refine NLoop.go (fun i:Nat=>i≤b.length) (fun i=>b.length-i) (fun i=>⟨[(0,.d (Ac false b)),(3,.pk 2000 0 b.length 1),(4,.ptr 4 0),(5,.ptr 5 0),(6,iv i)],[(2000,(Aj (Qm i b)).map AV.d),(4,[Ao,Ao]),(5,[iv c,iv o])],[]⟩) 0 (by omega) (by((repeat'(first|exact trivial|exact Ak _|refine And.intro ?_ ?_));(all_goals(conv=>whnf)));all_goals exact Es _) ?_
  intro i hi
  by_cases hik:i<b.length
  ·have gi:decide ((i:Int)<b.length)=true:=decide_eq_true (by omega)
   obtain⟨x,hx⟩:∃x,b[i]?=some x:=⟨_,List.getElem?_eq_getElem hik⟩
   have hx':=iS hx
   have hil:i<(Qm i b).length:=by rw[Zl];exact hik
   have hs:=Zm hx
   (repeat'((conv=>whnf);first|refine NBr.pos asQ ?_|refine NStep.go (Ek rfl rfl (ltN rfl) Tryz.underlying27 rfl) ?_|refine NStep.go (Hm i rfl rfl (ltN rfl) Tryz.underlying27 tyB rfl rfl rfl hik) ?_|refine NStep.go (Hq rfl rfl (ltN rfl) rfl rfl hx') ?_|(with_reducible refine NInt.octZ (x.toNat+1) ?_)|refine NStep.go (Gt rfl rfl rfl rfl rfl hil) ?_|(with_reducible refine NInt.i64 ?_)));(all_goals(conv=>whnf))
   refine⟨i+1,by omega,by omega,?_⟩
   rw[←hs]
   ((repeat'(first|exact trivial|exact Ak _|refine And.intro ?_ ?_));(all_goals(conv=>whnf)))
   all_goals exact Es _
  ·have gi:decide ((i:Int)<b.length)=false:=decide_eq_false (by omega)
   (repeat'((conv=>whnf);first|refine NBr.neg asQ ?_|refine NBr.no ?_|refine L0 clQ ?_|refine NStep.go (Ek rfl rfl (ltN rfl) Tryz.underlying27 rfl) ?_|refine NStep.call (hM) rfl rfl (ltN rfl) 3000 clQ rfl rfl rfl ?_|refine NCall.eq hR L2 ?_|refine NCall.le hC S6 ?_|(refine NBr.mk (fun hc=> ?_) (fun hc=> ?_)<;>(have hcP:=hc;(try simp only[beq_iff_eq,beq_eq_false_iff_ne,ne_eq,Bool.not_eq_true',Bool.not_eq_false'] at hcP)<;>first|(exfalso;omega)|skip))));(all_goals(conv=>whnf))
   refine NLoop.go (fun i:Nat=>i=0) (fun i=>i) (fun i=>⟨[(7,Ao),(8,iv 8),(10,bv false),(11,iv 0)],[],[]⟩) 0 rfl leQ ?_
   rintro j rfl
   (repeat'((conv=>whnf);first|refine NBr.yes ?_|refine NBr.no ?_|refine NStep.go (Gs (sz:=1) rfl rfl (ltN rfl) Tryz.underlying27 rfl rfl) ?_));(all_goals(conv=>whnf))
   all_goals exact NEnd.eq leQ
end Go.Proofs.YtgmbmfoabndmoaaGreatDoor
