/- MK: the texts Acc Mul Mul2 Mul3 OpnA Awk20, one behind the other. No condition but what each lemma says. -/
import Derived.Test.YtcojanjphgmcmaaGreatDoorMH
import Derived.Test.YtcojanjphgmcmaaGreatDoorMI
import Derived.Test.YtcojanjphgmcmaaGreatDoorMD
import Derived.Test.YtcojanjphgmcmaaGreatDoorMJ
import Derived.Test.YtcojanjphgmcmaaGreatDoorMC
import Derived.Test.YtcojanjphgmcmaaGreatDoorMG
set_option maxRecDepth 100000
set_option maxHeartbeats 16000000
namespace Go.Proofs.YtcojanjphgmcmaaGreatDoor
open Go.RowKit
structure Acc where
 m:List UInt8
 g:Gn
def Ye (a:Acc):List D:=sD a.m::gnC a.g
def Cb (l:List Acc):D:=Gk false 10 Ye l
theorem D1 (a:Acc):D.uns (Ye a)=Ye a:=by
 show D.un (sD a.m)::D.uns (gnC a.g)=_
 rw[Bf];rfl
theorem D7 (l:List Acc):(Cb l).un=Cb l:=G6 D1 false 10 l
def U7 (a:Acc):Bool:=Qy a.g&&decide (a.m.length≤200)
def H5 (l:List Acc):Bool:=(l.take 10).all U7&&decide (l.length≤6)
theorem Ly (l:List Acc) (h:l.length≤big∧∀a∈l,a.g.ok∧a.m.length≤big):Aa Tryz.prog 9 [.d (Cb l)] (fun x=>x=bv (H5 l)):=by
 have hl:=h.1
 unfold big at hl
 refine Dw 33 _ G1 mixed Tryz.func9 rfl (by kernel_rfl) rfl rfl rfl rfl fun W0 fp0 z0=> ?_
 (all_goals(conv=>whnf))
 refine NLoop.go (fun i:Nat=>i≤l.length∧i≤10∧(l.take i).all U7=true) (fun i=>l.length-i) (fun i=>⟨[(0,.d (Cb l)),(3,iv i)],[],[]⟩) 0 ⟨by omega,by omega,rfl⟩ (by((repeat'(first|exact trivial|exact Ao _|refine And.intro ?_ ?_)))) ?_
 rintro i ⟨hi,hi10,ha⟩
 by_cases hik:i<l.length∧i<10
 ·obtain⟨hik,hi9⟩:=hik
  obtain⟨a,hg⟩:∃p,l[i]?=some p:=⟨_,List.getElem?_eq_getElem hik⟩
  obtain⟨ho,hm⟩:=h.2 a (List.mem_of_getElem? hg)
  unfold big at hm
  have hF:=eZ a.g ho
  cases hf:U7 a
  ·rw[show H5 l=false by unfold H5;rw[Xt U7 hg (m:=10) hi9 hf];rfl]
   unfold U7 at hf
   cases hg1:Qy a.g
   ·rw[hg1] at hF
    (repeat'((conv=>whnf);first|refine NBr.yes ?_|refine NIdx.tab (fun _=>rfl) hg ?_|refine NCall.eq (hF) (by first|rfl|(simp only[AV.gives,AV.give,D.un,Ag,Ar];first|done|rfl)) ?_|(refine NBr.dec (fun hc hcP=> ?_) (fun hc hcP=> ?_)<;>try(exfalso;omega))));(all_goals(conv=>whnf))
    all_goals(refine NEnd.eq ?_;(repeat'(first|exact Ao _|refine And.intro ?_ ?_|exact rfl)))
   ·rw[hg1] at hF hf
    simp at hf
    (repeat'((conv=>whnf);first|refine NBr.yes ?_|refine NBr.no ?_|refine NIdx.tab (fun _=>rfl) hg ?_|refine NCall.eq (hF) (by first|rfl|(simp only[AV.gives,AV.give,D.un,Ag,Ar];first|done|rfl)) ?_|(refine NBr.dec (fun hc hcP=> ?_) (fun hc hcP=> ?_)<;>try(exfalso;omega))));(all_goals(conv=>whnf))
    all_goals(refine NEnd.eq ?_;(repeat'(first|exact Ao _|refine And.intro ?_ ?_|exact rfl)))
  ·obtain⟨hg1,hg2⟩:Qy a.g=true∧a.m.length≤200:=by unfold U7 at hf;simp at hf;exact hf
   rw[hg1] at hF
   (repeat'((conv=>whnf);first|refine NBr.yes ?_|refine NBr.no ?_|refine NIdx.tab (fun _=>rfl) hg ?_|refine NCall.eq (hF) (by first|rfl|(simp only[AV.gives,AV.give,D.un,Ag,Ar];first|done|rfl)) ?_|(with_reducible refine NInt.i64 ?_)|(refine NBr.dec (fun hc hcP=> ?_) (fun hc hcP=> ?_)<;>try(exfalso;omega))));(all_goals(conv=>whnf))
   refine⟨i+1,⟨by omega,by omega,by rw[S6 U7 hg,ha,hf];rfl⟩,by omega,?_⟩
   ((repeat'(first|exact trivial|exact Ao _|refine And.intro ?_ ?_)))
 ·have hR:H5 l=decide (l.length≤6):=by unfold H5;rw[←Ta hi hi10 hik,ha];rfl
  rw[hR]
  (repeat'((conv=>whnf);first|refine NBr.yes ?_|refine NBr.no ?_|(refine NBr.dec (fun hc hcP=> ?_) (fun hc hcP=> ?_)<;>try(exfalso;omega))));(all_goals(conv=>whnf))
  all_goals(refine NEnd.eq ?_;(repeat'(first|refine And.intro ?_ ?_|exact rfl));(all_goals(conv=>whnf)))
  all_goals(apply Bool.eq_iff_iff.2;simp only[decide_eq_true_eq]<;>omega)
def Bv (b:List UInt8):Bool:=(D0 b).code==0
theorem We (b:List UInt8):(∃s,D0 b=⟨[s],0,0⟩)∨(∃c o,c≠0∧D0 b=⟨[],c,o⟩):=by
 have hF:=Fq b 16 b.length (by omega) 0 (by omega)
 dsimp only at hF
 unfold D0
 generalize A4 b 16 0 b.length=r at hF
 by_cases h:r.code=0
 ·obtain⟨s,rfl,h1,h2⟩:=hF.1 h
  by_cases h3:s.stop<b.length
  ·rw[G3 h3];exact .inr ⟨_,_,by simp,rfl⟩
  ·rw[Js h3];exact .inl ⟨s,rfl⟩
 ·obtain⟨l,c,o⟩:=r
  have hl:l=[]:=(hF.2 h).2
  subst hl
  have h':¬c=0:=h
  rw[H4];exact .inr ⟨c,o,h',by simp[SR.bad]⟩
theorem Kk {p:Prop} (h:p:=by first|rfl|(simp only[AV.gives,AV.ren,AV.give,D.un,D.uns,Ag,Ah,List.nil_append,List.append_nil,List.cons_append,Al,Av,D6,B6];first|done|rfl)):p:=h
theorem sY (b:List UInt8) (hb:b.length≤1000000000):Aa Tryz.prog 100 [.d (Ac false b)] (fun r=>r=bv (Bv b)):=by
 have hP:=V9 b hb
 unfold Bv
 rcases We b with⟨s,h⟩|⟨c,o,hc0,h⟩
 ·rw[h] at hP⊢
  obtain⟨a,q,c,n,k,b',ks⟩:=s
  have hP':Aa Tryz.prog 134 [.d (Ac false b)] (fun r=>r= .tup [.agg ((aX true (.mk a q c n k b' ks)).map AV.d),erA 0 0]):=hP
  refine acQ 13 Tryz.func100 rfl rfl fun _ _ _=> ?_
  (repeat'((conv=>whnf);refine NCall.eq hP' Kk ?_));(all_goals(conv=>whnf))
  all_goals exact NEnd.eq leQ
 ·rw[h] at hP⊢
  have hP':Aa Tryz.prog 134 [.d (Ac false b)] (fun r=>r= .tup [.agg [iv 0,iv 0,bv false,.d (.v (.slice none 0 0)),.d (.v (.slice none 0 0))],erA c o]):=by
   cases c with
   |zero=>exact absurd rfl hc0
   |succ c=>exact hP
  have gc:((c:Int)==0)=false:=by rw[beq_eq_false_iff_ne];simpa using hc0
  have gd:(c==0)=false:=by rw[beq_eq_false_iff_ne];exact hc0
  refine acQ 13 Tryz.func100 rfl rfl fun _ _ _=> ?_
  (repeat'((conv=>whnf);refine NCall.eq hP' Kk ?_));(all_goals(conv=>whnf))
  all_goals(refine NEnd.eq ?_;(repeat'(first|refine And.intro ?_ ?_|exact rfl));(all_goals(conv=>whnf)))
  all_goals exact gc.trans gd.symm
theorem nF (b:List UInt8) (hb:b.length≤1000000000):Aa Tryz.prog 99 [.d (Ac false b)] (fun r=>r=bv (!Bv b)):=by
 have hO:=sY b hb
 refine acQ 6 Tryz.func99 rfl rfl fun _ _ _=> ?_
 (repeat'((conv=>whnf);refine NCall.eq hO Kk ?_));(all_goals(conv=>whnf))
 all_goals exact NEnd.eq leQ
theorem Fr {α:Type} (f:α→Bool) {l:List α} {i:Nat} {x:α} (h:l[i]?=some x) (hx:f x=true) (ha:(l.take i).all f=true):(l.take (i+1)).all f=true:=by
 obtain⟨hlt,he⟩:=List.getElem?_eq_some_iff.1 h
 rw[List.take_succ_eq_append_getElem hlt,he,List.all_append,ha];simp[hx]
def fO (ps:List (List UInt8)):Int:=if ps.all Bv then-1 else((ps.takeWhile Bv).length:Int)
theorem AX {α:Type} (f:α→Bool):∀{l:List α} {i:Nat} {x:α},(l.take i).all f=true→l[i]?=some x→f x=false→(l.takeWhile f).length=i∧l.all f=false
 |[],i,x,_,h,_=>by simp at h
 |y::r,0,x,_,h,hx=>by
  obtain rfl:y=x:=by simpa using h
  simp[hx]
 |y::r,i+1,x,ha,h,hx=>by
  rw[List.take_succ_cons,List.all_cons,Bool.and_eq_true] at ha
  obtain⟨q1,q2⟩:=AX f ha.2 (by simpa using h) hx
  rw[List.takeWhile_cons,ha.1,if_pos rfl,List.length_cons,q1,List.all_cons,q2]
  simp
theorem sZ (ps:List (List UInt8)) (hn:ps.length≤1000000000) (hl:∀p∈ps,p.length≤1000000000):Aa Tryz.prog 133 [.d (Bw ps),.d (.fn 99 [])] (fun r=>r=iv (fO ps)):=by
 refine acQ 19 Tryz.func133 rfl rfl fun _ _ _=> ?_
 (all_goals(conv=>whnf))
 refine NLoop.go (fun i:Nat=>i≤ps.length∧(ps.take i).all Bv=true) (fun i=>ps.length-i) (fun i=>⟨[(0,.d (Bw ps)),(1,.d (.fn 99 [])),(7,iv ps.length),(8,iv i)],[],[]⟩) 0 ⟨by omega,rfl⟩ leQ ?_
 rintro i ⟨hi,ha⟩
 by_cases hik:i<ps.length
 ·have gi:decide ((i:Int)<ps.length)=true:=decide_eq_true (by omega)
  obtain⟨b,hg⟩:∃p,ps[i]?=some p:=⟨_,List.getElem?_eq_getElem hik⟩
  have hF:=nF b (hl b (List.mem_of_getElem? hg))
  cases hb:Bv b
  ·rw[hb] at hF
   obtain⟨q1,q2⟩:=AX Bv ha hg hb
   rw[show fO ps=i by unfold fO;rw[q2,q1];rfl]
   (repeat'((conv=>whnf);first|refine NBr.yes ?_|refine NBr.pos asP ?_|refine NIdx.tab (fun _=>rfl) hg ?_|refine NCall.eq hF Kk ?_));(all_goals(conv=>whnf))
   all_goals exact NEnd.eq leQ
  ·rw[hb] at hF
   (repeat'((conv=>whnf);first|refine NBr.no ?_|refine NBr.pos asP ?_|refine NIdx.tab (fun _=>rfl) hg ?_|refine NCall.eq hF Kk ?_|(with_reducible refine NInt.i64 ?_)));(all_goals(conv=>whnf))
   refine⟨i+1,⟨by omega,Fr Bv hg hb ha⟩,by omega,?_⟩
   exact leQ
 ·have gi:decide ((i:Int)<ps.length)=false:=decide_eq_false (by omega)
  obtain rfl:i=ps.length:=by omega
  rw[List.take_length] at ha
  rw[show fO ps= -1 by unfold fO;rw[ha];rfl]
  (repeat'((conv=>whnf);refine NBr.neg asP ?_));(all_goals(conv=>whnf))
  all_goals exact NEnd.eq leQ
theorem yR (ps:List (List UInt8)):decide (fO ps≥0)= !ps.all Bv:=by
 unfold fO
 cases ps.all Bv
 ·rw[if_neg (by simp)];exact decide_eq_true (by omega)
 ·rw[if_pos rfl];rfl
theorem nG (ps:List (List UInt8)) (hn:ps.length≤1000000000) (hl:∀p∈ps,p.length≤1000000000):Aa Tryz.prog 98 [.d (Bw ps),.d (.fn 99 [])] (fun r=>r=bv (!ps.all Bv)):=by
 have hI:=sZ ps hn hl
 rw[←yR]
 refine acQ 9 Tryz.func98 rfl rfl fun _ _ _=> ?_
 (repeat'((conv=>whnf);refine NCall.eq hI Kk ?_));(all_goals(conv=>whnf))
 all_goals exact NEnd.eq leQ
def Wg (ps:List (List UInt8)):Bool:=decide (ps.length>0)&&Fi ps&&ps.all Bv
theorem tA (ps:List (List UInt8)) (hn:ps.length≤1000000000) (hl:∀p∈ps,p.length≤1000000000):Aa Tryz.prog 61 [.d (Bw ps)] (fun r=>r=bv (Wg ps)):=by
 have hO:=Lk ps hn hl
 have hC:=nG ps hn hl
 unfold Wg
 by_cases h0:ps.length>0
 ·have gi:decide ((ps.length:Int)>0)=true:=decide_eq_true (by omega)
  rw[decide_eq_true h0]
  cases h1:Fi ps
  ·rw[h1] at hO
   refine acQ 15 Tryz.func61 rfl rfl fun _ _ _=> ?_
   (repeat'((conv=>whnf);first|refine NBr.yes ?_|refine NBr.no ?_|refine NBr.pos asP ?_|refine NCall.eq hO Kk ?_));(all_goals(conv=>whnf))
   all_goals exact NEnd.eq leQ
  ·rw[h1] at hO
   cases h2:ps.all Bv
   all_goals
    rw[h2] at hC
    refine acQ 15 Tryz.func61 rfl rfl fun _ _ _=> ?_
    (repeat'((conv=>whnf);first|refine NBr.yes ?_|refine NBr.pos asP ?_|refine NCall.eq hO Kk ?_|refine NCall.eq hC Kk ?_));(all_goals(conv=>whnf))
    all_goals exact NEnd.eq leQ
 ·have gi:decide ((ps.length:Int)>0)=false:=decide_eq_false (by omega)
  rw[decide_eq_false h0]
  refine acQ 15 Tryz.func61 rfl rfl fun _ _ _=> ?_
  (repeat'((conv=>whnf);first|refine NBr.no ?_|refine NBr.neg asP ?_));(all_goals(conv=>whnf))
  all_goals exact NEnd.eq leQ
def Fc (p:List UInt8):List D:=[Ac true p]
theorem Bg (l:List (List UInt8)):D.uns (l.flatMap Fc)=l.flatMap Ik:=by
 induction l with
 |nil=>rfl
 |cons p r ih=>
  show D.un (Ac true p)::D.uns (r.flatMap Fc)=_
  rw[Ag,ih];rfl
structure Mu where
 oid:List UInt8
 vs:List (List UInt8)
def muC (m:Mu):List D:=[.v (.string ⟨⟨m.oid⟩⟩),Bw m.vs]
def nH (l:List Mu):D:=Gk false 2 muC l
theorem Yf (m:Mu):D.uns (muC m)=muC m:=by simp only[muC,D.uns,Al,D.un]
theorem iY (l:List Mu):(nH l).un=nH l:=G6 Yf false 2 l
abbrev muA (m:Mu):AV:= .agg [sx m.oid,.d (Bw m.vs)]
theorem F7 {p:List UInt8}:∀{l:List (List UInt8)},p∈l→p.length≤l.flatten.length
 |[],h=>by cases h
 |q::r,h=>by
  rw[List.flatten_cons,List.length_append]
  rcases List.mem_cons.1 h with rfl|h
  ·omega
  ·have:=F7 h;omega
theorem Iq {p:Prop} (h:p:=by first|rfl|(simp only[AV.gives,AV.ren,AV.give,D.un,D.uns,Ag,Ah,List.nil_append,List.append_nil,List.cons_append,Al,Av,iY,Yf,D6,B6,Bg];first|done|rfl)):p:=h
theorem tB (m:Mu) (hn:m.vs.length≤1000000000) (hl:m.vs.flatten.length≤900000000):Aa Tryz.prog 62 [muA m] (fun r=>r= .tup [sx m.oid,.d (Ac true (Ae 0 17 true m.vs.flatten)),bv (Wg m.vs)]):=by
 have hW:=F1 0 17 true m.vs (by omega) (by omega) hl hn
 have hF:=tA m.vs hn (fun p hp=>by have:=F7 hp;omega)
 refine acQ 23 Tryz.func62 rfl rfl fun _ _ _=> ?_
 (repeat'((conv=>whnf);first|refine NBr.yes ?_|refine NCall.eq hW Iq ?_|refine NCall.eq hF Iq ?_|refine NFact.go ⟨by decide+kernel,by kernel_rfl⟩ ?_));(all_goals(conv=>whnf))
 all_goals exact NEnd.eq leQ
theorem tD:Aa Tryz.prog 32 [] (fun r=>r= .agg [.d (.fn 59 []),.d (.fn 62 [])]):=by
 refine acQ 2 Tryz.func32 rfl rfl fun _ _ _=> ?_
 (all_goals(conv=>whnf))
 all_goals exact NEnd.eq leQ
def muV (m:Mu):Bool:=C9 m.oid&&Wg m.vs
def muE (m:Mu):List UInt8:=Ae 0 16 true (Ae 0 6 false (Am m.oid)++Ae 0 17 true m.vs.flatten)
abbrev mpA:AV:= .agg [.d (.fn 59 []),.d (.fn 62 [])]
structure Mu.sm (m:Mu):Prop where
 o:m.oid.length≤70000
 n:m.vs.length≤1000000
 v:m.vs.flatten.length≤70000
def bC (l:List Mu):AV:=if l≠[]∧l.all muV=true then .tup [As 0 5 (Ae 0 16 true (l.map muE).flatten),iv 0] else .tup [Ap,iv 8]
theorem yS {m:Mu} (h:m.sm):(muE m).length≤420100:=by
 have h1:=De m.oid
 have h2:=Aj 0 6 false (Am m.oid) (by have:=h.o;omega)
 have h3:=Aj 0 17 true m.vs.flatten (by have:=h.v;omega)
 unfold muE
 have h4:=Aj 0 16 true (Ae 0 6 false (Am m.oid)++Ae 0 17 true m.vs.flatten) (by rw[List.length_append];have:=h.o;have:=h.v;omega)
 rw[List.length_append] at h4
 have:=h.o;have:=h.v;omega
theorem tE {l:List Mu} (h:∀m∈l,m.sm):((l.map muE).flatten).length≤l.length*420100:=by
 induction l with
 |nil=>simp
 |cons a r ih=>
  have h1:=yS (h a (List.mem_cons_self ..))
  have h2:=ih fun m hm=>h m (List.mem_cons_of_mem _ hm)
  rw[List.map_cons,List.flatten_cons,List.length_append,List.length_cons];omega
theorem tF {l:List Mu} {i:Nat} {m:Mu} (hg:l[i]?=some m) (hv:muV m=false):bC l= .tup [Ap,iv 8]:=by
 unfold bC
 rw[if_neg]
 rintro⟨-,h⟩
 rw[List.all_eq_true.1 h m (List.mem_of_getElem? hg)] at hv;cases hv
theorem tG (l:List Mu) (hl:l.length≤2000) (hs:∀m∈l,m.sm):Aa Tryz.prog 33 [mpA,.d (nH l)] (fun r=>r=bC l):=by
 refine acQ 72 Tryz.func33 rfl rfl fun _ _ _=> ?_
 (all_goals(conv=>whnf))
 refine NLoop.goA [.s 6 1 26] (fun i:Nat=>i≤l.length∧(l.take i).all muV=true) (fun i=>l.length-i) (fun i=>⟨[(2,.ptr 2 0),(6,B6 6 1 26 Fc ((l.take i).map muE)),(16,.d (nH l)),(17,iv l.length),(18,iv i)],[(2,[.d (.fn 59 []),.d (.fn 62 [])])],[(6,(((l.take i).map muE).length,1,26))]⟩) 0 ⟨by omega,rfl⟩ leQ ?_
 rintro i ⟨hi,ha⟩
 have hml:((l.take i).map muE).length≤2000:=by rw[List.length_map,List.length_take];omega
 by_cases hik:i<l.length
 ·have gi:decide ((i:Int)<l.length)=true:=decide_eq_true (by omega)
  obtain⟨m,hg⟩:∃p,l[i]?=some p:=⟨_,List.getElem?_eq_getElem hik⟩
  obtain⟨o1,o2,o3⟩:=hs m (List.mem_of_getElem? hg)
  have hS:=tB m (by omega) (by omega)
  have hO:=H3 m.oid (by omega)
  cases hv:muV m
  ·rw[tF hg hv]
   cases hf:Wg m.vs
   ·rw[hf] at hS
    (repeat'((conv=>whnf);first|refine NBr.yes ?_|refine NBr.pos asP ?_|refine NIdx.tab (fun _=>rfl) hg ?_|refine NCall.eq hS Iq ?_|refine NCall.eq hO rfl ?_));(all_goals(conv=>whnf))
    all_goals exact NEnd.eq leQ
   ·have h8:Lp m.oid=8:=by
     unfold muV C9 at hv
     unfold Lp
     cases h:Dd m.oid with
     |none=>rfl
     |some a=>rw[h,hf] at hv;cases hv
    rw[hf] at hS
    rw[h8] at hO
    (repeat'((conv=>whnf);first|refine NBr.yes ?_|refine NBr.no ?_|refine NBr.pos asP ?_|refine NIdx.tab (fun _=>rfl) hg ?_|refine NCall.eq hS Iq ?_|refine NCall.eq hO rfl ?_));(all_goals(conv=>whnf))
    all_goals exact NEnd.eq leQ
  ·have hf:Wg m.vs=true:=by unfold muV at hv;simp at hv;exact hv.2
   have h8:Lp m.oid=0:=(Jn m.oid).1 (by unfold muV at hv;simp at hv;exact hv.1)
   rw[hf] at hS
   rw[h8] at hO
   have k1:=De m.oid
   have k2:=Aj 0 6 false (Am m.oid) (by omega)
   have k3:=Aj 0 17 true m.vs.flatten (by omega)
   have hW:=F1 0 6 false [Am m.oid] (by omega) (by omega) (by simp;omega) (by simp)
   rw[show [Am m.oid].flatten=Am m.oid by simp] at hW
   have hQ:=Ke [Ae 0 6 false (Am m.oid),Ae 0 17 true m.vs.flatten] (by simp;omega) (by simp)
   rw[show Ae 0 16 true [Ae 0 6 false (Am m.oid),Ae 0 17 true m.vs.flatten].flatten=muE m by simp[muE]] at hQ
   have hs':(l.take (i+1)).map muE=(l.take i).map muE++[muE m]:=by
    rw[List.take_succ_eq_append_getElem hik,List.map_append]
    have hg':=List.getElem?_eq_getElem hik
    rw[hg] at hg';cases hg';rfl
   (repeat'((conv=>whnf);first|refine NBr.no ?_|refine NBr.pos asP ?_|refine NIdx.tab (fun _=>rfl) hg ?_|refine NCall.eq hS Iq ?_|refine NCall.eq hO rfl ?_|refine NCall.eq hW Iq ?_|refine NCall.eq hQ Iq ?_|refine NApp.one Fc (muE m) ?_|(with_reducible refine NInt.i64 ?_)));(all_goals(conv=>whnf))
   refine⟨i+1,⟨by omega,Fr muV hg hv ha⟩,by omega,?_⟩
   rw[hs']
   exact leQ
 ·have gi:decide ((i:Int)<l.length)=false:=decide_eq_false (by omega)
  obtain rfl:i=l.length:=by omega
  rw[List.take_length] at ha⊢
  have hq:=tE hs
  have hS:=Ke (l.map muE) (by omega) (by rw[List.length_map];omega)
  by_cases h0:l=[]
  ·subst h0
   (repeat'((conv=>whnf);first|refine NBr.yes ?_|refine NBr.no ?_));(all_goals(conv=>whnf))
   all_goals exact NEnd.eq leQ
  ·have gj:(((l.map muE).length:Int)==0)=false:=by rw[beq_eq_false_iff_ne,List.length_map];intro h;exact h0 (List.eq_nil_of_length_eq_zero (by omega))
   rw[show bC l= .tup [As 0 5 (Ae 0 16 true (l.map muE).flatten),iv 0] by unfold bC;rw[if_pos ⟨h0,ha⟩]]
   (repeat'((conv=>whnf);first|refine NBr.neg asP ?_|refine NCall.eq hS Iq ?_));(all_goals(conv=>whnf))
   all_goals exact NEnd.eq leQ
theorem nI (l:List Mu) (hl:l.length≤2000) (hs:∀m∈l,m.sm):Aa Tryz.prog 19 [.d (nH l)] (fun r=>r=bC l):=by
 have hA:=tD
 have hP:=tG l hl hs
 unfold bC at hP⊢
 by_cases h:l≠[]∧l.all muV=true
 all_goals
  first|rw[if_pos h] at hP⊢ |rw[if_neg h] at hP⊢
  refine Dw 9 _ G1 mixed Tryz.func19 rfl (by kernel_rfl) rfl rfl rfl rfl fun W0 fp0 z0=> ?_
  (repeat'((conv=>whnf);first|refine NCall.eq (hA) (by rfl) ?_|refine NCall.eq (hP) (by first|rfl|(simp only[AV.gives,AV.give,D.un,D.uns,iY];first|done|rfl)) ?_));(all_goals(conv=>whnf))
  all_goals(refine NEnd.eq ?_;(repeat'(first|exact trivial|exact Ao _|refine And.intro ?_ ?_|exact rfl)))
theorem CW:TxOk 6 [120] [134,1,120]:=by
 refine⟨.inr (.inr rfl),by decide,by decide+kernel,?_,⟨2,by decide,by kernel_rfl,by decide+kernel⟩⟩
 rw[Ep _ _ _ _ (by decide+kernel)]
 decide+kernel
theorem T7:Aa Tryz.prog 21 [] (fun r=>r= .agg [.d (.fn 35 []),.d (.fn 37 [])]):=by
 refine Dw 2 _ G1 mixed Tryz.func21 rfl (by kernel_rfl) rfl rfl rfl rfl fun W0 fp0 z0=> ?_
 (all_goals(conv=>whnf))
 all_goals(refine NEnd.eq ?_;(repeat'(first|exact Ao _|refine And.intro ?_ ?_|exact rfl)))
abbrev adA:AV:= .agg [.d (.fn 35 []),.d (.fn 37 [])]
theorem nJ {n:Nat} {m l b:List UInt8} (h:TxOk n l b):Aa Tryz.prog 37 [.agg ((Ye ⟨m,gnV n l⟩).map AV.d)] (fun r=>r= .tup [sx m,.d (Ac true b),bv true]):=by
 have h1:Aa Tryz.prog 38 [gnA (gnV n l)] (fun r=>r= .tup [As 0 5 b,iv 0]):=aD h
 refine Dw 18 _ G1 mixed Tryz.func37 rfl (by kernel_rfl) rfl rfl rfl rfl fun W0 fp0 z0=> ?_
 (repeat'((conv=>whnf);refine NCall.eq (h1) (by rfl) ?_));(all_goals(conv=>whnf))
 all_goals(refine NEnd.eq ?_;(repeat'(first|exact trivial|exact Ao _|refine And.intro ?_ ?_|exact rfl)))
end Go.Proofs.YtcojanjphgmcmaaGreatDoor
namespace Go.Proofs.YtcojanjphgmcmaaGreatDoor
open Go.ChangeShapes Go.WideShapes Go.ChangeAt Go.RowKit Go.Joins
theorem CX:Op 49 10 Ye (fun a=>a.m.length≤big∧a.g.wf):=by
 intro H enc w fuel cs x h
 obtain⟨xs,m,-,-,hl,hn,hf⟩:=DataW.trod_struct Tryz.underlying49 h
 have hl':cs.length=10:=hl.trans (by kernel_rfl)
 obtain⟨o,k0,r0⟩:=Dy hn hf (o:=0) 0 (by kernel_rfl) (by kernel_rfl) Jl
 obtain⟨v,k1,r1⟩:=Dy hn hf (o:=1) 1 (by kernel_rfl) (by kernel_rfl) FG
 exact⟨⟨o,v⟩,⟨k0,k1⟩,hl',iK (Dx r0 (Dx r1 (Rn hl')))⟩
theorem Yg:Op 22 1 (fun l=>[Cb l]) (fun l=>l.length≤big∧∀a∈l,a.m.length≤big∧a.g.wf):=Ot Tryz.underlying22 (by kernel_rfl) CX
end Go.Proofs.YtcojanjphgmcmaaGreatDoor
namespace Go.Proofs.YtcojanjphgmcmaaGreatDoor
open Go.RowKit
def Kz:List UInt8:=[49,46,50,46,51]
theorem tH:Aa Tryz.prog 22 [adA,.d (Cb [⟨Kz,gnV 6 [120]⟩])] (fun r=>r= .tup [As 0 5 [48,9,48,7,6,2,42,3,134,1,120],iv 0]):=by
 have hS:Aa Tryz.prog 37 [.agg ((Ye ⟨Kz,gnV 6 [120]⟩).map AV.d)] (fun r=>r= .tup [sx Kz,.d (Ac true [134,1,120]),bv true]):=nJ (m:=Kz) CW
 have hO:=H3 Kz (by decide)
 rw[show Am Kz=[42,3] by decide+kernel,show Lp Kz=0 by decide+kernel] at hO
 have hW:=F1 0 6 false [[42,3]] (by omega) (by omega) (by decide) (by decide)
 rw[show Ae 0 6 false [[42,3]].flatten=[6,2,42,3] by rw[Ep 0 6 false _ (by decide)];decide] at hW
 have hQ:=Ke [[6,2,42,3],[134,1,120]] (by decide) (by decide)
 rw[show Ae 0 16 true [[6,2,42,3],[134,1,120]].flatten=[48,7,6,2,42,3,134,1,120] by rw[Ep 0 16 true _ (by decide)];decide] at hQ
 have hQ2:=Ke [[48,7,6,2,42,3,134,1,120]] (by decide) (by decide)
 rw[show Ae 0 16 true [[48,7,6,2,42,3,134,1,120]].flatten=[48,9,48,7,6,2,42,3,134,1,120] by rw[Ep 0 16 true _ (by decide)];decide] at hQ2
 have hg0:([⟨Kz,gnV 6 [120]⟩]:List Acc)[0]?=some ⟨Kz,gnV 6 [120]⟩:=rfl
 refine Dw 72 _ G1 mixed Tryz.func22 rfl (by kernel_rfl) rfl rfl rfl rfl fun W0 fp0 z0=> ?_
 (all_goals(conv=>whnf))
 refine NLoop.rounds 2 ?_
 have hg00:([⟨Kz,gnV 6 [120]⟩]:List Acc)[0]?=some ⟨Kz,gnV 6 [120]⟩:=rfl
 (repeat'((conv=>whnf);first|refine NBr.yes ?_|refine NBr.no ?_|refine NIdx.tab (fun _=>rfl) hg0 ?_|refine NCall.eq (hS) (by rfl) ?_|refine NCall.eq (hO) (by rfl) ?_|refine NCall.eq (hW) (by rfl) ?_|refine NCall.eq (hQ) (by rfl) ?_|refine NCall.eq (hQ2) (by rfl) ?_|(refine Or.inr ?_)|(refine NApp.at 1 _ ?_)|(with_reducible refine NInt.i64 ?_)));(all_goals(conv=>whnf))
 all_goals(refine NEnd.eq ?_;(repeat'(first|exact trivial|exact Ao _|refine And.intro ?_ ?_|exact rfl)))
theorem fP:Aa Tryz.prog 10 [.d (Cb [⟨Kz,gnV 6 [120]⟩])] (fun r=>r= .tup [As 0 5 [48,9,48,7,6,2,42,3,134,1,120],iv 0]):=by
 have hA:=T7
 have hP:=tH
 refine Dw 9 _ G1 mixed Tryz.func10 rfl (by kernel_rfl) rfl rfl rfl rfl fun W0 fp0 z0=> ?_
 (repeat'((conv=>whnf);first|refine NCall.eq (hA) (by rfl) ?_|refine NCall.eq (hP) (by rfl) ?_));(all_goals(conv=>whnf))
 all_goals(refine NEnd.eq ?_;(repeat'(first|exact trivial|exact Ao _|refine And.intro ?_ ?_|exact rfl)))
theorem nK:Aa Tryz.prog 19 [.d (nH [⟨Kz,[[5,0]]⟩])] (fun r=>r= .tup [As 0 5 [48,10,48,8,6,2,42,3,49,2,5,0],iv 0]):=by
 have h:=nI [⟨Kz,[[5,0]]⟩] (by decide) (fun m hm=>by
  obtain rfl:=List.mem_singleton.1 hm
  exact⟨by decide,by decide,by decide⟩)
 have hv:([⟨Kz,[[5,0]]⟩]:List Mu).all muV=true:=by decide+kernel
 rw[bC,if_pos ⟨by simp,hv⟩] at h
 have e:Ae 0 16 true (([⟨Kz,[[5,0]]⟩]:List Mu).map muE).flatten=[48,10,48,8,6,2,42,3,49,2,5,0]:=by
  have e1:muE ⟨Kz,[[5,0]]⟩=[48,8,6,2,42,3,49,2,5,0]:=by
   unfold muE
   rw[show Am (Mu.mk Kz [[5,0]]).oid=[42,3] by decide+kernel,Ep 0 6 false _ (by decide),Ep 0 17 true _ (by decide),Ep 0 16 true _ (by decide)];decide
  rw[List.map_cons,List.map_nil,e1,Ep 0 16 true _ (by decide)];decide
 rwa[e] at h
theorem Pa:Aa Tryz.prog 8 [] (fun r=>r=bv true):=by
 have m1:=fP
 have m2:=nK
 have b1:=By false false [48,9,48,7,6,2,42,3,134,1,120] [48,9,48,7,6,2,42,3,134,1,120] (by decide) (by decide)
 have b2:=By false false [48,10,48,8,6,2,42,3,49,2,5,0] [48,10,48,8,6,2,42,3,49,2,5,0] (by decide) (by decide)
 rw[beq_self_eq_true] at b1 b2
 refine Dw 36 _ G1 mixed Tryz.func8 rfl (by kernel_rfl) rfl rfl rfl rfl fun W0 fp0 z0=> ?_
 (repeat'((conv=>whnf);first|refine NBr.yes ?_|(refine NCall.le (m1) ?_ ?_;focus((repeat'(first|exact trivial|refine And.intro ?_ ?_|exact rfl|exact Or.inr rfl|refine Or.inr ?_));done))|(refine NCall.le (m2) ?_ ?_;focus((repeat'(first|exact trivial|exact Ao _|refine And.intro ?_ ?_));done))|(refine NCall.le (b1) ?_ ?_;focus((repeat'(first|exact trivial|exact Ao _|refine And.intro ?_ ?_|exact rfl|exact Or.inr rfl|refine Or.inr ?_));done))|(refine NCall.le (b2) ?_ ?_;focus((repeat'(first|exact trivial|exact Ao _|refine And.intro ?_ ?_));done))));(all_goals(conv=>whnf))
 all_goals(refine NEnd.eq ?_;(repeat'(first|exact Ao _|refine And.intro ?_ ?_|exact rfl)))
end Go.Proofs.YtcojanjphgmcmaaGreatDoor
