/- NI: the texts LawYK, one behind the other. No condition but what each lemma says. -/
import Derived.Test.YtgamacmidohpfaaGreatDoorNF
namespace Go.Proofs.YtgamacmidohpfaaGreatDoor
open Go.RowKit
set_option maxRecDepth 100000
set_option maxHeartbeats 8000000
theorem oM (k:Kd) (c o:Int):(AV.tup [kdQ k,erA c o]).fresh=true:=by
 show((true&&((Ag true k.id).fresh&&((Y0 k.iss).fresh&&((Ag true k.ser).fresh&&true))))&&((true&&(true&&true))&&true))=true
 rw[gI,Iy,Iy];rfl
theorem kC:kd0.mid:=⟨by simp[kd0],by simp[kd0],⟨by simp[kd0],fun g hg=>(by cases hg),by simp[kd0]⟩⟩
theorem kD:(kdE kd0).length≤24:=by have:=jZ kC;simpa[kd0,Cg] using this
theorem Mh {p:Prop} (h:p:=by first|rfl|(simp only[AV.gives,AV.ren,AV.give,D.un,D.uns,Al,Ak,List.nil_append,List.append_nil,List.cons_append,AV.frz,AV.frzs,As,A0,Bb,A5,A2,Ba,Bi,Dn,Cq,C9,Cl,Pp,Pm];first|done|rfl)):p:=h
theorem AW (b:List UInt8) (hb:b.length≤big):Ab Tryz.prog 8 [.d (Ag false b)] (fun r=>r=bv true):=by
 have hA:=yR
 unfold big at hb
 by_cases h1:(b.length:Int)>3000
 ·have g1:=CY h1
  clear h1
  refine acQ 88 Tryz.func8 rfl rfl fun _ _ _=> ?_
  (repeat'((conv=>whnf);first|refine zP ?_|refine Af ?_|refine Aa hA rfl ?_|exact zE))
 have g1:=FS h1
 have hP:=oL b (by omega)
 have hR:=vV b (by omega)
 have hBB:=C4 false false b b (by omega) (by omega)
 rw[beq_self_eq_true] at hBB
 have hb9:b.length≤1000000000:=by omega
 rcases ET b (by omega) with⟨k,⟨hw,he⟩,hg⟩|⟨c,o,hc0,hof,hg⟩
 ·have hpos:0<b.length:=by rw[he];exact kB k
  obtain⟨hm,y1,y2⟩:=oH hw he (by omega)
  rw[hg] at hP
  have hP:Ab Tryz.prog 18 [.d (Ag false b)] (fun r=>r= .tup [kdQ k,erA 0 0]):=hP
  rw[y1,if_pos y2] at hR
  have hM:=Ww k hm (by rw[←he];omega)
  rw[hw,←he] at hM
  have hM:Ab Tryz.prog 14 [kdA k] (fun r=>r= .tup [Be 0 5 b,iv 0]):=hM
  have hC:=vW k k hm.q hm.q
  rw[decide_eq_true rfl] at hC
  have hfr:=oM k 0 0
  clear y1 y2 hm he
  refine acX 88 [14] Tryz.func8 rfl rfl fun _ _ _=> ?_
  (repeat'((conv=>whnf);first|refine zN ?_|refine Af ?_|refine Aa hA rfl ?_|refine An (Lh (sz:=1) rfl rfl (ltN rfl) Tryz.underlying22 rfl rfl) ?_|refine Ke clQ ?_|refine An (Nv rfl rfl (ltN rfl) (C5.ty rfl) tyB) ?_|refine An (Vw (κ:=2000) rfl rfl (ltN rfl) clQ rfl rfl (Lp b) hpos Tryz.underlying22 tyB rfl hb9 (by omega)) ?_|refine An (S8 (κ:=2500) (k:=2000) rfl rfl (ltN rfl) clQ rfl (Ic b) (Ib b) rfl hP hfr) ?_|refine An (S9 (κ:=2600) (k:=2000) rfl rfl (ltN rfl) clQ rfl (Ic b) (Ib b) rfl rfl hBB rfl) ?_));(all_goals(conv=>whnf))
  refine A4 (fun i:Nat=>i≤b.length) (fun i=>b.length-i) (fun i=>⟨[(0,.d (Ag false b)),(3,.pk 2000 0 b.length 1),(4,.ptr 4 0),(5,.ptr 5 0),(6,iv i)],[(2000,(Au (Me i b)).map AV.d),(4,[bv k.has,.d (Ag true k.id),.d (Y0 k.iss),.d (Ag true k.ser)]),(5,[iv 0,iv 0])],[]⟩) 0 (by omega) (by((repeat'(first|exact trivial|exact Ay _|refine And.intro ?_ ?_));(all_goals(conv=>whnf)));all_goals exact Du _) ?_
  intro i hi
  by_cases hik:i<b.length
  ·have gi:decide ((i:Int)<b.length)=true:=decide_eq_true (by omega)
   obtain⟨x,hx⟩:∃x,b[i]?=some x:=⟨_,Ar hik⟩
   have hx':=Ux hx
   have hil:i<(Me i b).length:=by rw[Pr];exact hik
   have hs:=Ps hx
   (repeat'((conv=>whnf);first|refine zP ?_|refine An (D5 rfl rfl (ltN rfl) Tryz.underlying22 rfl) ?_|refine An (Ia i rfl rfl (ltN rfl) Tryz.underlying22 tyB rfl rfl rfl hik) ?_|refine An (Ie rfl rfl (ltN rfl) rfl rfl hx') ?_|(with_reducible refine Bf (x.toNat+1) ?_)|refine An (Hc rfl rfl rfl rfl rfl hil) ?_|(with_reducible refine NInt.i64 ?_)));(all_goals(conv=>whnf))
   refine⟨i+1,by omega,by omega,?_⟩
   rw[←hs]
   ((repeat'(first|exact trivial|exact Ay _|refine And.intro ?_ ?_));(all_goals(conv=>whnf)))
   all_goals exact Du _
  ·have gi:decide ((i:Int)<b.length)=false:=decide_eq_false (by omega)
   (repeat'((conv=>whnf);first|refine zN ?_|refine Af ?_|refine Ke clQ ?_|refine An (D5 rfl rfl (ltN rfl) Tryz.underlying22 rfl) ?_|refine Lq (hM) (hpos) rfl rfl rfl (ltN rfl) 3000 clQ rfl rfl Mh ?_|refine Aa hR Mh ?_|refine Aa hC Mh ?_));(all_goals(conv=>whnf))
   refine A4 (fun i:Nat=>i≤b.length) (fun i=>b.length-i) (fun i=>⟨[(4,.ptr 4 0),(7,.pk 3000 0 b.length 1),(8,iv 0),(9,.ptr 9 0),(10,bv true),(11,iv i)],[(3000,(Au (Me i b)).map AV.d),(4,[bv k.has,.d (Ag true k.id),.d (Y0 k.iss),.d (Ag true k.ser)]),(9,[bv k.has,.d (Ag false k.id),.d (vF k.iss),.d (Ag false k.ser)])],[]⟩) 0 (by omega) (by((repeat'(first|exact trivial|exact Ay _|refine And.intro ?_ ?_));(all_goals(conv=>whnf)));all_goals exact Du _) ?_
   intro j hj
   by_cases hjk:j<b.length
   ·have gj:decide ((j:Int)<b.length)=true:=decide_eq_true (by omega)
    obtain⟨x,hx⟩:∃x,b[j]?=some x:=⟨_,Ar hjk⟩
    have hx':=Ux hx
    have hil:j<(Me j b).length:=by rw[Pr];exact hjk
    have hs:=Ps hx
    (repeat'((conv=>whnf);first|refine zP ?_|refine An (D5 rfl rfl (ltN rfl) Tryz.underlying22 rfl) ?_|refine An (Ia j rfl rfl (ltN rfl) Tryz.underlying22 tyB rfl rfl rfl hjk) ?_|refine An (Ie rfl rfl (ltN rfl) rfl rfl hx') ?_|(with_reducible refine Bf (x.toNat+1) ?_)|refine An (Hc rfl rfl rfl rfl rfl hil) ?_|(with_reducible refine NInt.i64 ?_)));(all_goals(conv=>whnf))
    refine⟨j+1,by omega,by omega,?_⟩
    rw[←hs]
    ((repeat'(first|exact trivial|exact Ay _|refine And.intro ?_ ?_));(all_goals(conv=>whnf)))
    all_goals exact Du _
   ·have gj:decide ((j:Int)<b.length)=false:=decide_eq_false (by omega)
    (repeat'((conv=>whnf);first|refine zN ?_|refine Ac ?_|refine Af ?_|refine Ke clQ ?_|refine An (D5 rfl rfl (ltN rfl) Tryz.underlying22 rfl) ?_|refine Aa hC Mh ?_|exact zE))
 ·rw[vR hg (by omega),if_neg (by simp)] at hR
  rw[hg] at hP
  have hP:Ab Tryz.prog 18 [.d (Ag false b)] (fun r=>r= .tup [.agg [bv false,Bc,Bc,Bc],erA c o]):=hP
  have hC:=vW kd0 kd0 BF BF
  rw[decide_eq_true rfl] at hC
  unfold kd0 at hC
  have gc:((c:Int)==0)=false:=by rw[beq_eq_false_iff_ne];omega
  have hM:=Ww kd0 kC (by have:=kD;omega)
  have hM:Ab Tryz.prog 14 [kdA kd0] (fun r=>r= .tup [Be 0 5 (kdE kd0),iv 0]):=hM
  have hM:=hM.les (Km (show Nu [.agg [bv false,Bc,Bc,Bc]] [kdA kd0] by exact U6))
  have hzp:=kB kd0
  have hzl:(kdE kd0).length≤1000000000:=by have:=kD;omega
  generalize kdE kd0=z at hM hzp hzl
  have hfr:(AV.tup [.agg [bv false,Bc,Bc,Bc],erA c o]).fresh=true:=rfl
  by_cases hb0:b=[]
  ·subst hb0
   refine acX 88 [14] Tryz.func8 rfl rfl fun _ _ _=> ?_
   (repeat'((conv=>whnf);first|refine zN ?_|refine Af ?_|refine Aa hA rfl ?_|refine An (Lh (sz:=1) rfl rfl (ltN rfl) Tryz.underlying22 rfl rfl) ?_|refine An (Nv rfl rfl (ltN rfl) (C5.ty rfl) tyB) ?_|refine An (eU rfl rfl (ltN rfl) rfl rfl Tryz.underlying22 tyB) ?_|refine Aa hP rfl ?_|refine Aa hBB rfl ?_));(all_goals(conv=>whnf))
   refine A4 (fun i:Nat=>i=0) (fun i=>i) (fun i=>⟨[(0,.d (Ag false [])),(3,.d (.sl false 0 1 [])),(4,.ptr 4 0),(5,.ptr 5 0),(6,iv 0)],[(4,[bv false,Bc,Bc,Bc]),(5,[iv c,iv o])],[]⟩) 0 rfl leQ ?_
   rintro i rfl
   (repeat'((conv=>whnf);first|refine Af ?_|refine Ke clQ ?_|refine An (Lh (sz:=1) rfl rfl (ltN rfl) Tryz.underlying22 rfl rfl) ?_|refine Lq (hM) (hzp) rfl rfl rfl (ltN rfl) 3000 clQ rfl rfl rfl ?_|refine Aa hR rfl ?_|refine Bj hC U6 ?_|(refine NBr.mk (fun hc=> ?_) (fun hc=> ?_)<;>(have hcP:=hc;(try simp only[zS] at hcP)<;>first|(exfalso;omega)|skip))));(all_goals(conv=>whnf))
   refine A4 (fun i:Nat=>i≤z.length) (fun i=>z.length-i) (fun i=>⟨[(7,.pk 3000 0 z.length 1),(8,iv 0),(10,bv false),(11,iv i)],[(3000,(Au (Me i z)).map AV.d)],[]⟩) 0 (by omega) (by((repeat'(first|exact trivial|exact Ay _|refine And.intro ?_ ?_));(all_goals(conv=>whnf)));all_goals exact Du _) ?_
   intro j hj
   by_cases hjk:j<z.length
   ·have gj:decide ((j:Int)<z.length)=true:=decide_eq_true (by omega)
    obtain⟨x,hx⟩:∃x,z[j]?=some x:=⟨_,Ar hjk⟩
    have hx':=Ux hx
    have hil:j<(Me j z).length:=by rw[Pr];exact hjk
    have hs:=Ps hx
    (repeat'((conv=>whnf);first|refine zP ?_|refine An (D5 rfl rfl (ltN rfl) Tryz.underlying22 rfl) ?_|refine An (Ia j rfl rfl (ltN rfl) Tryz.underlying22 tyB rfl rfl rfl hjk) ?_|refine An (Ie rfl rfl (ltN rfl) rfl rfl hx') ?_|(with_reducible refine Bf (x.toNat+1) ?_)|refine An (Hc rfl rfl rfl rfl rfl hil) ?_|(with_reducible refine NInt.i64 ?_)));(all_goals(conv=>whnf))
    refine⟨j+1,by omega,by omega,?_⟩
    rw[←hs]
    ((repeat'(first|exact trivial|exact Ay _|refine And.intro ?_ ?_));(all_goals(conv=>whnf)))
    all_goals exact Du _
   ·have gj:decide ((j:Int)<z.length)=false:=decide_eq_false (by omega)
    (repeat'((conv=>whnf);first|refine zN ?_|refine Ac ?_|refine An (D5 rfl rfl (ltN rfl) Tryz.underlying22 rfl) ?_|exact zE))
  have hpos:0<b.length:=List.length_pos_iff.2 hb0
  refine acX 88 [14] Tryz.func8 rfl rfl fun _ _ _=> ?_
  (repeat'((conv=>whnf);first|refine zN ?_|refine Af ?_|refine Aa hA rfl ?_|refine An (Lh (sz:=1) rfl rfl (ltN rfl) Tryz.underlying22 rfl rfl) ?_|refine Ke clQ ?_|refine An (Nv rfl rfl (ltN rfl) (C5.ty rfl) tyB) ?_|refine An (Vw (κ:=2000) rfl rfl (ltN rfl) clQ rfl rfl (Lp b) hpos Tryz.underlying22 tyB rfl hb9 (by omega)) ?_|refine An (S8 (κ:=2500) (k:=2000) rfl rfl (ltN rfl) clQ rfl (Ic b) (Ib b) rfl hP hfr) ?_|refine An (S9 (κ:=2600) (k:=2000) rfl rfl (ltN rfl) clQ rfl (Ic b) (Ib b) rfl rfl hBB rfl) ?_));(all_goals(conv=>whnf))
  refine A4 (fun i:Nat=>i≤b.length) (fun i=>b.length-i) (fun i=>⟨[(0,.d (Ag false b)),(3,.pk 2000 0 b.length 1),(4,.ptr 4 0),(5,.ptr 5 0),(6,iv i)],[(2000,(Au (Me i b)).map AV.d),(4,[bv false,Bc,Bc,Bc]),(5,[iv c,iv o])],[]⟩) 0 (by omega) (by((repeat'(first|exact trivial|exact Ay _|refine And.intro ?_ ?_));(all_goals(conv=>whnf)));all_goals exact Du _) ?_
  intro i hi
  by_cases hik:i<b.length
  ·have gi:decide ((i:Int)<b.length)=true:=decide_eq_true (by omega)
   obtain⟨x,hx⟩:∃x,b[i]?=some x:=⟨_,Ar hik⟩
   have hx':=Ux hx
   have hil:i<(Me i b).length:=by rw[Pr];exact hik
   have hs:=Ps hx
   (repeat'((conv=>whnf);first|refine zP ?_|refine An (D5 rfl rfl (ltN rfl) Tryz.underlying22 rfl) ?_|refine An (Ia i rfl rfl (ltN rfl) Tryz.underlying22 tyB rfl rfl rfl hik) ?_|refine An (Ie rfl rfl (ltN rfl) rfl rfl hx') ?_|(with_reducible refine Bf (x.toNat+1) ?_)|refine An (Hc rfl rfl rfl rfl rfl hil) ?_|(with_reducible refine NInt.i64 ?_)));(all_goals(conv=>whnf))
   refine⟨i+1,by omega,by omega,?_⟩
   rw[←hs]
   ((repeat'(first|exact trivial|exact Ay _|refine And.intro ?_ ?_));(all_goals(conv=>whnf)))
   all_goals exact Du _
  ·have gi:decide ((i:Int)<b.length)=false:=decide_eq_false (by omega)
   (repeat'((conv=>whnf);first|refine zN ?_|refine Af ?_|refine Ke clQ ?_|refine An (D5 rfl rfl (ltN rfl) Tryz.underlying22 rfl) ?_|refine Lq (hM) (hzp) rfl rfl rfl (ltN rfl) 3000 clQ rfl rfl rfl ?_|refine Aa hR Mh ?_|refine Bj hC U6 ?_|(refine NBr.mk (fun hc=> ?_) (fun hc=> ?_)<;>(have hcP:=hc;(try simp only[zS] at hcP)<;>first|(exfalso;omega)|skip))));(all_goals(conv=>whnf))
   refine A4 (fun i:Nat=>i≤z.length) (fun i=>z.length-i) (fun i=>⟨[(7,.pk 3000 0 z.length 1),(8,iv 0),(10,bv false),(11,iv i)],[(3000,(Au (Me i z)).map AV.d)],[]⟩) 0 (by omega) (by((repeat'(first|exact trivial|exact Ay _|refine And.intro ?_ ?_));(all_goals(conv=>whnf)));all_goals exact Du _) ?_
   intro j hj
   by_cases hjk:j<z.length
   ·have gj:decide ((j:Int)<z.length)=true:=decide_eq_true (by omega)
    obtain⟨x,hx⟩:∃x,z[j]?=some x:=⟨_,Ar hjk⟩
    have hx':=Ux hx
    have hil:j<(Me j z).length:=by rw[Pr];exact hjk
    have hs:=Ps hx
    (repeat'((conv=>whnf);first|refine zP ?_|refine An (D5 rfl rfl (ltN rfl) Tryz.underlying22 rfl) ?_|refine An (Ia j rfl rfl (ltN rfl) Tryz.underlying22 tyB rfl rfl rfl hjk) ?_|refine An (Ie rfl rfl (ltN rfl) rfl rfl hx') ?_|(with_reducible refine Bf (x.toNat+1) ?_)|refine An (Hc rfl rfl rfl rfl rfl hil) ?_|(with_reducible refine NInt.i64 ?_)));(all_goals(conv=>whnf))
    refine⟨j+1,by omega,by omega,?_⟩
    rw[←hs]
    ((repeat'(first|exact trivial|exact Ay _|refine And.intro ?_ ?_));(all_goals(conv=>whnf)))
    all_goals exact Du _
   ·have gj:decide ((j:Int)<z.length)=false:=decide_eq_false (by omega)
    (repeat'((conv=>whnf);first|refine zN ?_|refine Ac ?_|refine An (D5 rfl rfl (ltN rfl) Tryz.underlying22 rfl) ?_|exact zE))
end Go.Proofs.YtgamacmidohpfaaGreatDoor
