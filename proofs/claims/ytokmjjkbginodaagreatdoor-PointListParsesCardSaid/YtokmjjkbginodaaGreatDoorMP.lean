/- MP: the texts GenM GenR DnP GenL GenX GenY, one behind the other. No condition but what each lemma says. -/
import Derived.Test.YtokmjjkbginodaaGreatDoorMO
import Derived.Test.YtokmjjkbginodaaGreatDoorGEncPlain
set_option maxRecDepth 100000
set_option maxHeartbeats 16000000
namespace Go.Proofs.YtokmjjkbginodaaGreatDoor
open Go.RowKit
def rdP (n:Nat) (c:List UInt8):Gn×Bool:=match n with
 |0=>Og 0 c
 |1=>(⟨1,[],Cu 22 c,[],[],0,[],0,[]⟩,D7 22 c==0)
 |2=>(⟨2,[],Cu 22 c,[],[],0,[],0,[]⟩,D7 22 c==0)
 |3=>(⟨3,[],[],c,[],0,[],0,[]⟩,true)
 |4=>Q0 4 c
 |5=>Lc 5 c
 |6=>(⟨6,[],Cu 22 c,[],[],0,[],0,[]⟩,D7 22 c==0)
 |7=>(⟨7,[],[],c,[],0,[],0,[]⟩,true)
 |8=>(⟨8,odT c,[],[],[],0,[],0,[]⟩,(odC c:Int)==0)
 |_=>(gz,false)
def Q2 (x:El):Bool:=x.c==2&&(decide (x.n≤8)&&(x.k==D0 x.n))
def okP (p:Gn×Bool):Bool:=p.2&&S9 p.1
def Wl (b:List UInt8) (r:ElR):Option Gn:=if r.code≠0 then none else if Q2 r.x=false then none else if okP (rdP r.x.n ((b.drop r.x.body).take (r.x.stop-r.x.body)))=true then some (rdP r.x.n ((b.drop r.x.body).take (r.x.stop-r.x.body))).1 else none
def L6 (b:List UInt8):Option Gn:=Wl b (Bj b)
def bK (r:ElR):Nat×Nat:=if r.code≠0 then(r.code,r.off) else if Q2 r.x=false then(3,0) else(6,r.x.body)
def Wm (b:List UInt8):Nat×Nat:=bK (Bj b)
theorem Wn {b:List UInt8} {x:El} (h:Q2 x=false):Wl b ⟨x,0,0⟩=none∧bK ⟨x,0,0⟩=(3,0):=by
 refine⟨?_,?_⟩
 ·unfold Wl;rw[if_neg (by simp),if_pos h]
 ·unfold bK;rw[if_neg (by simp),if_pos h]
theorem oZ {b:List UInt8} {x:El} (h:Q2 x=true) (h2:okP (rdP x.n ((b.drop x.body).take (x.stop-x.body)))=false):Wl b ⟨x,0,0⟩=none∧bK ⟨x,0,0⟩=(6,x.body):=by
 refine⟨?_,?_⟩
 ·unfold Wl;simp only;rw[if_neg (by simp),if_neg (by rw[h];simp),if_neg (by rw[h2];simp)]
 ·unfold bK;rw[if_neg (by simp),if_neg (by rw[h];simp)]
theorem gD {b:List UInt8} {x:El} (h:Q2 x=true) (h2:okP (rdP x.n ((b.drop x.body).take (x.stop-x.body)))=true):Wl b ⟨x,0,0⟩=some (rdP x.n ((b.drop x.body).take (x.stop-x.body))).1:=by
 unfold Wl;simp only;rw[if_neg (by simp),if_neg (by rw[h];simp),if_pos h2]
def gnR (o:Option Gn) (e:Nat×Nat):AV:=match o with
 |some g=> .tup [gnQ g,erA 0 0]
 |none=> .tup [gnQ gz,erA e.1 e.2]
theorem bL (b:List UInt8):(Wm b).1≠0∧(Wm b).2≤b.length:=by
 have hF:=D9 b
 unfold Wm bK
 by_cases h1:(Bj b).code≠0
 ·rw[if_pos h1];exact⟨h1,hF.2.2.1⟩
 rw[if_neg h1]
 split
 ·exact⟨by simp,Nat.zero_le _⟩
 ·have:=hF.1 (Decidable.not_not.1 h1)
  exact⟨by simp,by show(Bj b).x.body≤_;omega⟩
theorem GN (k:Int) (c:List UInt8):(Og k c).1.by'.length≤c.length:=by
 have hm:=fun p=>Pm (c:=c) (p:=p)
 unfold Og
 generalize Dv c=l at hm
 match l with
 |[]=>exact Nat.zero_le _
 |[x]=>exact Nat.zero_le _
 |x::y::z::r=>exact Nat.zero_le _
 |[p,q]=>
  show(Xw k p q).1.by'.length≤_
  unfold Xw
  split
  ·exact Nat.zero_le _
  ·have:=hm q (by simp)
   have:=Q1 q 0
   show(inn q 0).length≤_
   omega
theorem GO (k:Int) (c:List UInt8):(Lc k c).1.by'=[]:=by
 unfold Lc
 match Dv c with
 |[]=>rfl
 |[q]=>rfl
 |x::y::z::r=>rfl
 |[p,q]=>
  show(if(By p 0).isSome&&Gl (inn p 0) then Ls k q (pK (inn p 0)) (pV (inn p 0)) else(gz,false)).1.by'=[]
  split<;>rfl
theorem GP (k:Int) (c:List UInt8):(Q0 k c).1.by'=[]:=by
 unfold Q0;split<;>rfl
theorem AR {C:Cx} {o:Oper} {σ:AS} {t:Nat} {x y:Operand} {k:Int} (h:rdF k=none) (ho:o.op= .lookup 181 x y true) (hd:o.dst=some t) (ht:t<C.N) (hx:σ.eval x=some rdA) (hy:σ.eval y=some (iv k)):
 LA Tryz.prog C o ⟨[],some (t,.tup [.d (.v .nilFunc),bv false]),none,none,[],[],[],[]⟩ σ:=by
 have:=Iw ho hd ht hx hy
 unfold fnA at this
 rwa[h] at this
def QG:Nat→FuncId
 |0=>151
 |3=>153
 |4=>154
 |5=>155
 |7=>153
 |8=>156
 |_=>152
theorem GQ {n:Nat} (hn:n≤8) (c:List UInt8) (hl:c.length≤800000):Ab Tryz.prog (QG n) [ptA n c] (fun r=>r=gbA (rdP n c))∧(rdP n c).1.by'.length≤100000000:=by
 have l0:([]:List UInt8).length≤100000000:=by simp
 rcases(by omega:n=0∨n=1∨n=2∨n=3∨n=4∨n=5∨n=6∨n=7∨n=8) with rfl|rfl|rfl|rfl|rfl|rfl|rfl|rfl|rfl
 ·exact⟨AP 0 c hl,by have:=GN 0 c;show(Og 0 _).1.by'.length≤_;omega⟩
 ·exact⟨R4 1 c (by omega),l0⟩
 ·exact⟨R4 2 c (by omega),l0⟩
 ·exact⟨Wj 3 c (by omega),by show c.length≤_;omega⟩
 ·exact⟨AO 4 c hl,by show(Q0 4 _).1.by'.length≤_;rw[GP];exact l0⟩
 ·exact⟨AQ 5 c hl,by show(Lc 5 _).1.by'.length≤_;rw[GO];exact l0⟩
 ·exact⟨R4 6 c (by omega),l0⟩
 ·exact⟨Wj 7 c (by omega),by show c.length≤_;omega⟩
 ·exact⟨gB 8 c (by omega),l0⟩
theorem Gh {p:Prop} (h:p:=by first|rfl|(simp only[AV.gives,AV.ren,AV.give,D.un,D.uns,An,Ao,List.nil_append,List.append_nil,List.cons_append,Av,A9,Ca,Bn,Bd,B8,Ck,Bw,Bl];first|done|rfl)):p:=h
theorem AT (b:List UInt8) (hb:b.length≤800000) (x:El) (hx:x.body≤x.stop∧x.stop≤b.length) (hn:x.n≤8) (hO:Ab Tryz.prog 49 [.d (Af false b)] (fun r=>r=erR ⟨x,0,0⟩)):Ab Tryz.prog 83 [.d (Af false b)] (fun r=>r=gnR (Wl b ⟨x,0,0⟩) (bK ⟨x,0,0⟩)):=by
 obtain⟨c,n,k,p,body,stop⟩:=x
 simp only at hx hn
 have hlc:((b.drop body).take (stop-body)).length≤b.length:=by rw[Al,Az];omega
 obtain⟨hR,hl⟩:=GQ hn ((b.drop body).take (stop-body)) (by omega)
 have gt:Q2 ⟨c,n,k,p,body,stop⟩=(c==2&&(true&&(k==D0 n))):=by unfold Q2;rw[decide_eq_true hn]
 obtain⟨con,hcon,hK⟩:∃con:Bool,D0 (n:Int)=con∧Ab Tryz.prog 82 [iv n] (fun r=>r=bv con):=⟨_,rfl,gC n⟩
 rw[hcon] at gt
 rcases(by omega:n=0∨n=1∨n=2∨n=3∨n=4∨n=5∨n=6∨n=7∨n=8) with rfl|rfl|rfl|rfl|rfl|rfl|rfl|rfl|rfl
 all_goals cases con
 all_goals try(exact absurd hcon (by decide))
 all_goals
  clear hn hcon
  cases hc:(c==2)
  ·have e:=Wn (b:=b) (gt.trans (by rw[hc];rfl))
   rw[e.1,e.2]
   have g1:((c:Int) !=2)=true:=by rw[bne_iff_ne];rw[beq_eq_false_iff_ne] at hc;omega
   refine acQ 70 Tryz.func83 rfl rfl fun _ _ _=> ?_
   (repeat'((conv=>whnf);first|refine Ac ?_|refine Ae ?_|refine Ay asP ?_|refine Aa hO Gh ?_|refine Aa Gu rfl ?_|refine NLa.mk ⟨_,Iw rfl rfl (ltN rfl) rfl rfl,?_⟩|refine zF ?_|exact zE))
  have g1:((c:Int) !=2)=false:=by rw[bne_eq_false_iff_eq];rw[beq_iff_eq] at hc;omega
  cases k
  all_goals try
   have hk:=gt.trans (show _=false by rw[hc];rfl)
   have e:=Wn (b:=b) hk
   rw[e.1,e.2]
   refine acQ 70 Tryz.func83 rfl rfl fun _ _ _=> ?_
   (repeat'((conv=>whnf);first|refine Ac ?_|refine Ae ?_|refine A0 asP ?_|refine Aa hO Gh ?_|refine Aa Gu rfl ?_|refine Aa hK rfl ?_|refine NLa.mk ⟨_,Iw rfl rfl (ltN rfl) rfl rfl,?_⟩|refine zF ?_|exact zE))
  have ht:=gt.trans (show _=true by rw[hc];rfl)
  have eN:=oZ (b:=b) ht
  have eY:=gD (b:=b) ht
  simp only at eN eY
  generalize rdP _ ((b.drop body).take (stop-body))=q at hR hl eN eY
  obtain⟨g,ok⟩:=q
  simp only at hl eN eY
  have hT:=Y7 g hl
  simp only[gbA] at hR
  cases ok
  ·rw[(eN rfl).1,(eN rfl).2]
   refine acQ 70 Tryz.func83 rfl rfl fun _ _ _=> ?_
   (repeat'((conv=>whnf);first|refine Ac ?_|refine Ae ?_|refine A0 asP ?_|refine Aa hO Gh ?_|refine Aa Gu rfl ?_|refine Aa hK rfl ?_|refine NSl.slice (body) (stop) ?_|refine Aa hR Gh ?_|refine NLa.mk ⟨_,Iw rfl rfl (ltN rfl) rfl rfl,?_⟩|refine zF ?_|exact zE))
  cases hfi:S9 g
  ·rw[hfi] at hT
   have e:=eN (show(true&&S9 g)=false by rw[hfi];rfl)
   rw[e.1,e.2]
   refine acQ 70 Tryz.func83 rfl rfl fun _ _ _=> ?_
   (repeat'((conv=>whnf);first|refine Ac ?_|refine Ae ?_|refine A0 asP ?_|refine Aa hO Gh ?_|refine Aa Gu rfl ?_|refine Aa hK rfl ?_|refine NSl.slice (body) (stop) ?_|refine Aa hR Gh ?_|refine Aa hT Gh ?_|refine NLa.mk ⟨_,Iw rfl rfl (ltN rfl) rfl rfl,?_⟩|refine zF ?_|exact zE))
  ·rw[hfi] at hT
   rw[eY (show(true&&S9 g)=true by rw[hfi];rfl)]
   refine acQ 70 Tryz.func83 rfl rfl fun _ _ _=> ?_
   (repeat'((conv=>whnf);first|refine Ae ?_|refine A0 asP ?_|refine Aa hO Gh ?_|refine Aa Gu rfl ?_|refine Aa hK rfl ?_|refine NSl.slice (body) (stop) ?_|refine Aa hR Gh ?_|refine Aa hT Gh ?_|refine NLa.mk ⟨_,Iw rfl rfl (ltN rfl) rfl rfl,?_⟩|refine zF ?_|exact zE))
theorem Wo (b:List UInt8) (hb:b.length≤800000):Ab Tryz.prog 83 [.d (Af false b)] (fun r=>r=gnR (L6 b) (Wm b)):=by
 have hO:=Lp b (by omega)
 have hF:=D9 b
 unfold L6 Wm
 generalize Bj b=r at hO hF⊢
 obtain⟨x,c,o⟩:=r
 by_cases h1:c=0
 ·subst h1
  obtain⟨f1,f2,f3,f4,f5⟩:=hF.1 rfl
  simp only at f1 f2 f3 f4 f5
  subst f5
  have hx:x.body≤x.stop∧x.stop≤b.length:=by omega
  by_cases hn:x.n≤8
  ·exact AT b hb x hx hn hO
  ·have gt:Q2 x=false:=by unfold Q2;rw[decide_eq_false hn];simp
   have e:=Wn (b:=b) gt
   rw[e.1,e.2]
   obtain⟨c,n,k,p,body,stop⟩:=x
   simp only at hn
   have hr:rdF (n:Int)=none:=by
    unfold rdF
    rw[if_neg (by omega),if_neg (by omega),if_neg (by omega),if_neg (by omega),if_neg (by omega),if_neg (by omega)]
   show Ab _ _ _ (fun r=>r= .tup [gnQ gz,erA 3 0])
   refine acQ 70 Tryz.func83 rfl rfl fun _ _ _=> ?_
   (repeat'((conv=>whnf);first|refine Ac ?_|refine Ae ?_|refine Aa hO Gh ?_|refine Aa Gu rfl ?_|refine NLa.mk ⟨_,AR hr rfl rfl (ltN rfl) rfl rfl,?_⟩|refine zF ?_|exact zE))
 ·have gc:((c:Int) !=0)=true:=by rw[bne_iff_ne];omega
  rw[show Wl b ⟨x,c,o⟩=none by unfold Wl;rw[if_pos h1],show bK ⟨x,c,o⟩=(c,o) by unfold bK;rw[if_pos h1]]
  show Ab _ _ _ (fun r=>r= .tup [gnQ gz,erA c o])
  refine acQ 70 Tryz.func83 rfl rfl fun _ _ _=> ?_
  (repeat'((conv=>whnf);first|refine Ay asP ?_|refine Aa hO Gh ?_|refine zF ?_|exact zE))
def gnE (g:Gn):List UInt8:=Ah 2 g.k.toNat (D0 g.k) ((En g).getD [])
def Xx (g:Gn):Bool:=Cr g&&(S9 g&&((En g).isSome&&(L6 (gnE g)).isSome))
def Oh (o:Bool) (b:List UInt8):AV:=if o=true then .tup [Bb 0 5 b,iv 0] else .tup [A4,iv 8]
theorem Pn {g:Gn} {c:List UInt8} (h:En g=some c):∃n:Nat,n≤8∧g.k=n:=by
 unfold En at h
 by_cases h0:g.k=0
 ·exact⟨0,by omega,h0⟩
 rw[if_neg h0] at h
 by_cases h1:g.k=1∨g.k=2∨g.k=6
 ·exact⟨g.k.toNat,by omega,by omega⟩
 rw[if_neg h1] at h
 by_cases h2:g.k=3∨g.k=7
 ·exact⟨g.k.toNat,by omega,by omega⟩
 rw[if_neg h2] at h
 by_cases h3:g.k=4
 ·exact⟨4,by omega,h3⟩
 rw[if_neg h3] at h
 by_cases h4:g.k=5
 ·exact⟨5,by omega,h4⟩
 rw[if_neg h4] at h
 by_cases h5:g.k=8
 ·exact⟨8,by omega,h5⟩
 rw[if_neg h5] at h;cases h
theorem Do {p:Prop} (h:p:=by first|rfl|(simp only[AV.gives,AV.ren,AV.give,D.un,D.uns,An,Ao,List.nil_append,List.append_nil,List.cons_append,Av,A9,Ca,Bn,Bd,B8,Ck,Bw,Bl,Bx,Bf];first|done|rfl)):p:=h
theorem lW (g:Gn) (hs:g.sm) (hl:((En g).getD []).length≤700000):Ab Tryz.prog 50 [gnA g] (fun r=>r=Oh (Xx g) (gnE g)):=by
 have hA:=uI g
 have hF:=Y7 g (by have:=hs.b;omega)
 have hC:=bJ g hs
 unfold Xx Oh
 cases ha:Cr g
 ·rw[ha] at hA
  show Ab _ _ _ (fun r=>r= .tup [A4,iv 8])
  refine acQ 48 Tryz.func50 rfl rfl fun _ _ _=> ?_
  (repeat'((conv=>whnf);first|refine Ac ?_|refine Aa hA Do ?_|exact zE))
 rw[ha] at hA
 cases hf:S9 g
 ·rw[hf] at hF
  show Ab _ _ _ (fun r=>r= .tup [A4,iv 8])
  refine acQ 48 Tryz.func50 rfl rfl fun _ _ _=> ?_
  (repeat'((conv=>whnf);first|refine Ac ?_|refine Ae ?_|refine Aa hA Do ?_|refine Aa hF Do ?_|exact zE))
 rw[hf] at hF
 cases hc:En g with
 |none=>
  rw[hc] at hC
  have hC:Ab Tryz.prog 81 [gnA g] (fun r=>r= .tup [.d (Af false []),iv 8]):=hC
  show Ab _ _ _ (fun r=>r= .tup [A4,iv 8])
  refine acQ 48 Tryz.func50 rfl rfl fun _ _ _=> ?_
  (repeat'((conv=>whnf);first|refine Ac ?_|refine Ae ?_|refine Aa hA Do ?_|refine Aa hF Do ?_|refine Aa hC Do ?_|exact zE))
 |some c=>
  obtain⟨n,hn,hk⟩:=Pn hc
  rw[hc] at hC hl
  have hC:Ab Tryz.prog 81 [gnA g] (fun r=>r= .tup [.d (Af false c),iv 0]):=hC
  have hl:c.length≤700000:=hl
  have hK:=gC g.k
  have hW:=D3 2 n (D0 g.k) c (by omega) (by omega) (by omega)
  have hle:=As 2 n (D0 g.k) c (by omega)
  have hP:=Wo (Ah 2 n (D0 g.k) c) (by omega)
  have he:=bL (Ah 2 n (D0 g.k) c)
  have e:gnE g=Ah 2 n (D0 g.k) c:=by unfold gnE;rw[hc,hk];rfl
  rw[e]
  generalize Wm (Ah 2 n (D0 g.k) c)=er at hP he
  obtain⟨ec,eo⟩:=er
  simp only at he
  have gc:((ec:Int) !=0)=true:=by rw[bne_iff_ne];omega
  obtain⟨k,oid,tx,by',nm,ak,av,pk,pv⟩:=g
  simp only at hk
  subst hk
  simp only at hK hW hP hle⊢
  generalize Ah 2 n (D0 (n:Int)) c=b at hW hP⊢
  cases ho:L6 b with
  |none=>
   rw[ho] at hP
   have hP:Ab Tryz.prog 83 [.d (Af false b)] (fun r=>r= .tup [gnQ gz,erA ec eo]):=hP
   show Ab _ _ _ (fun r=>r= .tup [A4,iv 8])
   refine acQ 48 Tryz.func50 rfl rfl fun _ _ _=> ?_
   (repeat'((conv=>whnf);first|refine Ae ?_|refine Ay asP ?_|refine Aa hA Do ?_|refine Aa hF Do ?_|refine Aa hC Do ?_|refine Aa hK rfl ?_|refine Aa hW Do ?_|refine Aa hP Do ?_|refine zF ?_|exact zE))
  |some v=>
   rw[ho] at hP
   have hP:Ab Tryz.prog 83 [.d (Af false b)] (fun r=>r= .tup [gnQ v,erA 0 0]):=hP
   show Ab _ _ _ (fun r=>r= .tup [Bb 0 5 b,iv 0])
   refine acQ 48 Tryz.func50 rfl rfl fun _ _ _=> ?_
   (repeat'((conv=>whnf);first|refine Ae ?_|refine Aa hA Do ?_|refine Aa hF Do ?_|refine Aa hC Do ?_|refine Aa hK rfl ?_|refine Aa hW Do ?_|refine Aa hP Do ?_|refine zF ?_|exact zE))
structure Gn.mid (g:Gn):Prop where
 s:g.sm
 c:((En g).getD []).length≤700000
def bM (l:List Gn):Bool:= !l.isEmpty&&l.all Xx
def Ta (l:List Gn):List UInt8:=Ah 0 16 true (l.map gnE).flatten
theorem GR {g:Gn} (h:g.mid):(gnE g).length≤700006:=by
 have:=h.c
 have:=As 2 g.k.toNat (D0 g.k) ((En g).getD []) (by omega)
 unfold gnE;omega
structure gnsM (l:List Gn):Prop where
 n:l.length≤1000000
 m:∀g∈l,g.mid
 e:(l.map gnE).flatten.length≤800000000
theorem S4 (l:List Gn) (hz:gnsM l):Ab Tryz.prog 25 [.d (Gy l)] (fun r=>r=Oh (bM l) (Ta l)):=by
 obtain⟨hl,hs,hq⟩:=hz
 have hS:=Nw (l.map gnE) (by omega) (by rw[List.length_map];omega)
 refine acQ 35 Tryz.func25 rfl rfl fun _ _ _=> ?_
 (all_goals(conv=>whnf))
 refine A5 [.s 4 1 22] (fun i:Nat=>i≤l.length∧(l.take i).all Xx=true) (fun i=>l.length-i) (fun i=>⟨[(4,Bx 4 1 22 Dn ((l.take i).map gnE)),(9,.d (Gy l)),(10,iv l.length),(11,iv i)],[],[(4,(((l.take i).map gnE).length,1,22))]⟩) 0 ⟨by omega,rfl⟩ leQ ?_
 rintro i ⟨hi,ha⟩
 have hml:((l.take i).map gnE).length≤1000000:=by rw[List.length_map,Al];omega
 by_cases hik:i<l.length
 ·have gi:decide ((i:Int)<l.length)=true:=decide_eq_true (by omega)
  obtain⟨x,hg⟩:∃p,l[i]?=some p:=⟨_,Am hik⟩
  have hm:=hs x (A8 hg)
  have hM:=lW x hm.s hm.c
  unfold Oh at hM
  cases hv:Xx x
  ·rw[hv,if_neg (by simp)] at hM
   rw[show Oh (bM l) (Ta l)= .tup [A4,iv 8] by unfold Oh bM;rw[bF hg hv,Bool.and_false,if_neg (by simp)]]
   (repeat'((conv=>whnf);first|refine Ac ?_|refine Ay asP ?_|refine NIdx.tab (fun _=>rfl) hg ?_|refine Aa hM Do ?_|exact zE))
  ·rw[hv,if_pos rfl] at hM
   have hs':=Fe gnE hg
   (repeat'((conv=>whnf);first|refine Ae ?_|refine Ay asP ?_|refine NIdx.tab (fun _=>rfl) hg ?_|refine Aa hM Do ?_|refine A2 Dn (gnE x) ?_|(with_reducible refine NInt.i64 ?_)));(all_goals(conv=>whnf))
   refine⟨i+1,⟨by omega,Gw Xx hg hv ha⟩,by omega,?_⟩
   rw[hs']
   exact leQ
 ·have gi:decide ((i:Int)<l.length)=false:=decide_eq_false (by omega)
  obtain rfl:i=l.length:=by omega
  rw[List.take_length] at ha⊢
  by_cases h0:l=[]
  ·subst h0
   (repeat'((conv=>whnf);first|refine Ac ?_|refine Ae ?_|exact zE))
  ·have gj:(((l.map gnE).length:Int)==0)=false:=by rw[beq_eq_false_iff_ne,List.length_map];intro h;exact h0 (List.eq_nil_of_length_eq_zero (by omega))
   rw[show Oh (bM l) (Ta l)= .tup [Bb 0 5 (Ta l),iv 0] by unfold Oh bM;rw[ha,Bool.and_true,if_pos (by cases l with|nil=>exact absurd rfl h0|cons _ _=>rfl)]]
   (repeat'((conv=>whnf);first|refine A0 asP ?_|refine Aa hS Do ?_|exact zE))
theorem gE (l:List Gn) (hz:gnsM l):Ab Tryz.prog 46 [.d (Gy l)] (fun r=>r=bv (bM l)):=by
 have hM:=S4 l hz
 unfold Oh at hM
 cases hv:bM l
 all_goals
  rw[hv] at hM
  first|rw[if_pos rfl] at hM|rw[if_neg (by simp)] at hM
  refine acQ 12 Tryz.func46 rfl rfl fun _ _ _=> ?_
  (repeat'((conv=>whnf);refine Aa hM Do ?_));(all_goals(conv=>whnf))
  all_goals exact zE
theorem R5 {k:Int} {l:List UInt8} (h:Aq k l=true):Fl k (chS k l)=k∧Cu k (chS k l)=l∧D7 k (chS k l)=0:=by
 have:=EE h
 unfold Fh at this
 rwa[if_pos h] at this
theorem bN {k:Int} {c:List UInt8} (h:D7 k c=0):Fl k c=k∧Aq k (Cu k c)=true∧chS k (Cu k c)=c:=by
 unfold D7 at h
 unfold Fl Cu
 split at h
 ·cases h
 ·rename_i hk
  split at h
  ·rename_i ho
   rw[if_neg hk,if_neg hk,if_pos ho,if_pos ho]
   unfold okD at ho
   simp only[At,beq_iff_eq] at ho
   exact⟨rfl,ho.1,ho.2⟩
  ·cases h
theorem Y8:∀{a b:List (List UInt8)},G6 (a++b)=true→G6 a=true
 |[],_,_=>rfl
 |[_],_,_=>rfl
 |x::y::r,b,h=>by
  have h':(decide (Fi x y<0)&&G6 (y::r++b))=true:=h
  rw[At] at h'
  rw[G6,h'.1,Y8 h'.2];rfl
theorem MC {a:Att} (_:atV a=true) (hs:a.sm):∃t:Tv,t.ok∧atE a=t.enc:=by
 have k1:=Fd a.oid
 have:=hs.o
 have:=hs.v
 have k2:=As 0 6 false (Bq a.oid) (by omega)
 exact⟨⟨0,16,true,Ah 0 6 false (Bq a.oid)++a.val⟩,⟨by show(0:Nat)≤3;omega,by show(16:Nat)≤30;omega,by show(_++_:List UInt8).length≤_;rw[Ap];omega⟩,rfl⟩
theorem GS {a:Att} (h:atV a=true) (hs:a.sm):atO (atE a)=some a:=by
 obtain⟨h1,h2⟩:=T1 h
 have k1:=Fd a.oid
 have o1:=hs.o
 have o2:=hs.v
 obtain⟨y,yo,ye⟩:=(M5 h2).tv (by omega)
 obtain⟨x,hx⟩:∃x:Tv,x=⟨0,6,false,Bq a.oid⟩:=⟨_,rfl⟩
 have xo:x.ok:=by subst hx;exact⟨by show(0:Nat)≤3;omega,by show(6:Nat)≤30;omega,by show(Bq a.oid).length≤_;omega⟩
 have e:atE a=Ah 0 16 true (C6 [x,y]):=by
  unfold atE
  rw[Df,Df,←ye]
  subst hx
  show _=Ah 0 16 true (Ah 0 6 false (Bq a.oid)++(a.val++[]))
  rw[List.append_nil]
 have hl:(C6 [x,y]).length≤2147483600:=by
  have:=As 0 6 false (Bq a.oid) (by omega)
  rw[Df,Df,←ye]
  subst hx
  show(Ah 0 6 false (Bq a.oid)++(a.val++[])).length≤_
  simp only[Ap,List.length_nil];omega
 have hp:=fT x y xo yo hl
 obtain⟨e1,e2⟩:=Vi h1
 have xv:x.v=Bq a.oid:=by subst hx;rfl
 have xi:(x.el 0).isB 0 6 false=true:=by subst hx;rfl
 rw[xv,if_pos ⟨xi,e2⟩,e1,←ye,←e] at hp
 unfold atO
 rw[hp]
 simp only
 rw[if_pos h2]
theorem uJ {p id s:List UInt8} (h:fR p=some (id,s)) (hl:p.length≤2147483600):E6 id=true∧p=Ah 0 16 true (Ah 0 6 false (Bq id)++s)∧∃y:Tv,y.ok∧s=y.enc:=by
 obtain⟨c0,l2⟩:=lU h
 obtain⟨ts,t1,t2,-,-,t5⟩:=Iy c0
 have hlt:(C6 ts).length≤2147483600:=by
  have:=congrArg List.length t2
  unfold Ah at this
  rw[E0] at this;omega
 obtain⟨q,e1,-⟩:=Fg (c:=0) (n:=16) ts (by omega) (by omega) t1 hlt
 rw[←t2] at e1
 rw[e1] at l2
 have l2':ts.length=2:=by rw[←Tz q ts];exact l2
 obtain⟨x,y,rfl⟩:∃x y,ts=[x,y]:=by
  match ts,l2' with
  |[x,y],_=>exact⟨x,y,rfl⟩
 have hpp:=fT x y (t1 x (by simp)) (t1 y (by simp)) hlt
 rw[←t2,h] at hpp
 by_cases hc:(x.el 0).isB 0 6 false=true∧odC x.v=0
 ·rw[if_pos hc] at hpp
  simp only[Option.some.injEq,Prod.mk.injEq] at hpp
  obtain⟨rfl,rfl⟩:=hpp
  have hd:=lD hc.2
  have hb:=hc.1
  unfold El.isB Tv.el at hb
  simp only[At,beq_iff_eq] at hb
  obtain⟨⟨b1,b2⟩,b3⟩:=hb
  have hxe:x.enc=Ah 0 6 false x.v:=by rw[Tv.enc,b1,b2,b3]
  refine⟨hd.1,?_,y,t1 y (by simp),rfl⟩
  rw[hd.2,←hxe,t2,Df,Df]
  show Ah 0 16 true (x.enc++(y.enc++[]))=_
  rw[List.append_nil]
 ·rw[if_neg hc] at hpp;cases hpp
theorem GT {p:List UInt8} {a:Att} (h:atO p=some a) (hl:p.length≤2147483600):atV a=true∧p=atE a:=by
 unfold atO at h
 cases hp:fR p with
 |none=>rw[hp] at h;cases h
 |some w=>
  obtain⟨id,s⟩:=w
  rw[hp] at h
  simp only at h
  by_cases ho:Er s=true
  ·rw[if_pos ho] at h
   obtain rfl:=Option.some.inj h
   obtain⟨h1,h2,-⟩:=uJ hp hl
   exact⟨by unfold atV;rw[h1,ho];rfl,h2⟩
  ·rw[if_neg ho] at h;cases h
def bO:List (List UInt8)→List (List UInt8)→List Att→Option (List Att)
 |[],_,out=>some out
 |p::r,ps,out=>match atO p with
  |none=>none
  |some a=>if G6 (ps++[p])=true then bO r (ps++[p]) (out++[a]) else none
theorem Wp (b:List UInt8):∀(l:List El) (ps:List (List UInt8)) (out:List Att),(S8 b l ps out).1=bO (l.map (elO b)) ps out
 |[],_,_=>rfl
 |x::r,ps,out=>by
  rw[S8,List.map_cons,bO]
  cases atO (elO b x) with
  |none=>rfl
  |some a=>
   simp only
   by_cases h:G6 (ps++[elO b x])=true
   ·rw[if_pos h,if_pos h];exact Wp b r _ _
   ·rw[if_neg h,if_neg h]
theorem gF:∀{r:List Att} {ps:List (List UInt8)} {out:List Att},r.all atV=true→(∀a∈r,a.sm)→G6 (ps++r.map atE)=true→bO (r.map atE) ps out=some (out++r)
 |[],_,_,_,_,_=>by simp[bO]
 |a::r,ps,out,h,hs,ho=>by
  rw[List.all_cons,At] at h
  rw[List.map_cons] at ho⊢
  have ho':G6 ((ps++[atE a])++r.map atE)=true:=by rw[List.append_assoc];exact ho
  rw[bO,GS h.1 (hs a (by simp))]
  simp only
  rw[if_pos (Y8 ho'),gF h.2 (fun k hk=>hs k (by simp[hk])) ho',List.append_assoc];rfl
theorem gG:∀{qs ps:List (List UInt8)} {out z:List Att},(∀p∈qs,p.length≤2147483600)→bO qs ps out=some z→∃r:List Att,z=out++r∧r.all atV=true∧qs=r.map atE∧(qs≠[]→G6 (ps++qs)=true)
 |[],_,out,z,_,h=>by
  rw[bO] at h
  obtain rfl:=Option.some.inj h
  exact⟨[],by simp,rfl,rfl,fun h=>absurd rfl h⟩
 |p::qs,ps,out,z,hl,h=>by
  rw[bO] at h
  cases ha:atO p with
  |none=>rw[ha] at h;cases h
  |some a=>
   rw[ha] at h
   simp only at h
   by_cases ho:G6 (ps++[p])=true
   ·rw[if_pos ho] at h
    obtain⟨r,e1,e2,e3,e4⟩:=gG (fun q hq=>hl q (by simp[hq])) h
    obtain⟨k1,k2⟩:=GT ha (hl p (by simp))
    refine⟨a::r,by rw[e1,List.append_assoc];rfl,by rw[List.all_cons,k1,e2];rfl,by rw[List.map_cons,←k2,←e3],fun _=> ?_⟩
    by_cases hq:qs=[]
    ·subst hq;exact ho
    ·have:=e4 hq
     rwa[List.append_assoc] at this
   ·rw[if_neg ho] at h;cases h
theorem GU {r:List Att} (h:r.all atV=true) (hs:∀a∈r,a.sm):∃ts:List Tv,(∀t∈ts,t.ok)∧r.map atE=ts.map Tv.enc:=
 Qx fun p hp=>by
  obtain⟨a,ha,rfl⟩:=List.mem_map.1 hp
  exact MC (List.all_eq_true.1 h a ha) (hs a ha)
theorem gH {r:List Att} (h:Eh r=true) (hz:rdnZ r):(Je (Ct r)).1=some r:=by
 obtain⟨h0,h1,h2⟩:=N6 h
 obtain⟨hl,hs,hq⟩:=hz
 obtain⟨ts,t1,t2⟩:=GU h1 hs
 have hf:(r.map atE).flatten=C6 ts:=by rw[t2,Eg]
 obtain⟨q,e1,e2⟩:=Fg (c:=0) (n:=17) ts (by omega) (by omega) t1 (by rw[←hf];omega)
 unfold Je Ct
 rw[hf,e1,AM,if_neg (by simp)]
 have hne:els q ts≠[]:=by
  intro e
  have:=congrArg List.length e
  rw[Tz] at this
  have h3:=congrArg List.length t2
  rw[List.length_map,List.length_map] at h3
  exact h0 (List.eq_nil_of_length_eq_zero (by rw[h3];exact this))
 simp only
 rw[if_neg hne,Wp,e2,←t2]
 exact gF h1 hs h2
theorem gI {b:List UInt8} {r:List Att} (h:(Je b).1=some r) (hl:b.length≤2147483600):Eh r=true∧b=Ct r:=by
 unfold Je AM at h
 by_cases h1:(A6 b 0 17).code≠0
 ·rw[if_pos h1] at h;cases h
 rw[if_neg h1] at h
 obtain⟨ts,t1,t2,-,-,-⟩:=Iy (Decidable.not_not.1 h1)
 have hlt:(C6 ts).length≤b.length:=by
  have:=congrArg List.length t2
  unfold Ah at this
  rw[E0] at this;omega
 obtain⟨q,e1,e2⟩:=Fg (c:=0) (n:=17) ts (by omega) (by omega) t1 (by omega)
 rw[←t2] at e1 e2
 rw[e1] at h
 simp only at h
 by_cases hn:els q ts=[]
 ·rw[if_pos hn] at h;cases h
 rw[if_neg hn,Wp,e2] at h
 obtain⟨r',e3,e4,e5,e6⟩:=gG (fun p hp=>by
  have:=Gc hp
  rw[←Eg] at this;omega) h
 rw[List.nil_append] at e3
 subst e3
 have hne:ts.map Tv.enc≠[]:=by
  intro e
  have h5:ts=[]:=by simpa using e
  subst h5;exact hn rfl
 have ho:=e6 hne
 rw[List.nil_append,e5] at ho
 refine⟨?_,?_⟩
 ·unfold Eh
  rw[e4,ho]
  cases r with
  |nil=>exact absurd e5 hne
  |cons _ _=>rfl
 ·rw[t2]
  unfold Ct
  rw[Eg,e5]
def nmP:List (List UInt8)→List (List Att)→Option (List (List Att))
 |[],out=>some out
 |p::r,out=>match(Je p).1 with
  |none=>none
  |some a=>nmP r (out++[a])
theorem bP (b:List UInt8):∀(l:List El) (out:List (List Att)),(nmL b l out).1=nmP (l.map (elO b)) out
 |[],_=>rfl
 |x::r,out=>by
  rw[nmL,List.map_cons,nmP]
  generalize Je (elO b x)=q
  obtain⟨o,c,p⟩:=q
  cases o with
  |none=>rfl
  |some a=>exact bP b r _
theorem pA:∀{n out:List (List Att)},n.all Eh=true→(∀r∈n,rdnZ r)→nmP (n.map Ct) out=some (out++n)
 |[],_,_,_=>by simp[nmP]
 |r::n,out,h,hs=>by
  rw[List.all_cons,At] at h
  have h1:=hs r (by simp)
  rw[List.map_cons,nmP,gH h.1 h1]
  simp only
  rw[pA h.2 (fun k hk=>hs k (by simp[hk])),List.append_assoc];rfl
theorem pB:∀{qs:List (List UInt8)} {out z:List (List Att)},(∀p∈qs,p.length≤2147483600)→nmP qs out=some z→∃n:List (List Att),z=out++n∧n.all Eh=true∧qs=n.map Ct
 |[],out,z,_,h=>by
  rw[nmP] at h
  obtain rfl:=Option.some.inj h
  exact⟨[],by simp,rfl,rfl⟩
 |p::qs,out,z,hl,h=>by
  rw[nmP] at h
  cases ha:(Je p).1 with
  |none=>rw[ha] at h;cases h
  |some a=>
   rw[ha] at h
   obtain⟨n,e1,e2,e3⟩:=pB (fun q hq=>hl q (by simp[hq])) h
   obtain⟨k1,k2⟩:=gI ha (hl p (by simp))
   exact⟨a::n,by rw[e1,List.append_assoc];rfl,by rw[List.all_cons,k1,e2];rfl,by rw[List.map_cons,←k2,←e3]⟩
theorem MD {r:List Att} (hz:rdnZ r):∃t:Tv,t.ok∧Ct r=t.enc:=by
 have hq:=hz.e
 exact⟨⟨0,17,true,(r.map atE).flatten⟩,⟨by show(0:Nat)≤3;omega,by show(17:Nat)≤30;omega,by show(r.map atE).flatten.length≤_;omega⟩,rfl⟩
theorem GV {n:List (List Att)} (h:nmV n=true) (hs:nmZ n):(nmR (nmE n)).1=some n:=by
 obtain⟨ts,t1,t2⟩:=Qx (l:=n.map Ct) fun p hp=>by
  obtain⟨r,hr,rfl⟩:=List.mem_map.1 hp
  exact MD (hs.r r hr)
 have hf:(n.map Ct).flatten=C6 ts:=by rw[t2,Eg]
 have he:=hs.e
 obtain⟨q,e1,e2⟩:=Fg (c:=0) (n:=16) ts (by omega) (by omega) t1 (by rw[←hf];omega)
 unfold nmR nmE
 rw[hf,e1,nmQ,if_neg (by simp)]
 simp only
 rw[bP,e2,←t2]
 exact pA h hs.r
theorem GW {b:List UInt8} {n:List (List Att)} (h:(nmR b).1=some n) (hl:b.length≤2147483600):nmV n=true∧b=nmE n:=by
 unfold nmR nmQ at h
 by_cases h1:(A6 b 0 16).code≠0
 ·rw[if_pos h1] at h;cases h
 rw[if_neg h1] at h
 obtain⟨ts,t1,t2,-,-,-⟩:=Iy (Decidable.not_not.1 h1)
 have hlt:(C6 ts).length≤b.length:=by
  have:=congrArg List.length t2
  unfold Ah at this
  rw[E0] at this;omega
 obtain⟨q,e1,e2⟩:=Fg (c:=0) (n:=16) ts (by omega) (by omega) t1 (by omega)
 rw[←t2] at e1 e2
 rw[e1] at h
 simp only at h
 rw[bP,e2] at h
 obtain⟨n',e3,e4,e5⟩:=pB (fun p hp=>by
  have:=Gc hp
  rw[←Eg] at this;omega) h
 rw[List.nil_append] at e3
 subst e3
 refine⟨e4,?_⟩
 rw[t2]
 unfold nmE
 rw[Eg,e5]
theorem Po {ts:List Tv} (h:∀t∈ts,t.ok):Dv (C6 ts)=ts.map Tv.enc:=by
 have hp:=N4 ts (C6 ts) [] (C6 ts).length h (by rw[List.take_length];rfl) (Nat.le_refl _)
 have he:=Ty ts (C6 ts) [] (C6 ts).length (by rw[List.take_length];rfl) (Nat.le_refl _)
 rw[List.length_nil] at hp he
 unfold Dv
 rw[hp,if_neg (by simp)]
 exact he
theorem Wq {c:List UInt8} (h:Dv c≠[]):∃ts:List Tv,(∀t∈ts,t.ok)∧c=C6 ts∧Dv c=ts.map Tv.enc:=by
 by_cases h1:(Cv c 0 c.length).code≠0
 ·unfold Dv at h;rw[if_pos h1] at h;exact absurd rfl h
 ·obtain⟨ts,e1,e2,e3⟩:=R2 _ c 0 c.length (Nat.le_refl _) (by omega) (by omega) (Decidable.not_not.1 h1)
  rw[List.drop_zero,Nat.sub_zero,List.take_length] at e3
  exact⟨ts,e1,e3,by rw[e3];exact Po e1⟩
theorem Pp {t:Tv} (h:t.ok) (n:Nat):By t.enc n=if t.c=2∧t.n=n∧t.k=true then some t.v else none:=by
 unfold By
 rw[H8 h]
 simp only
 have hi:(t.el 0).isB 2 n true=decide (t.c=2∧t.n=n∧t.k=true):=by
  unfold El.isB Tv.el
  rw[Bool.eq_iff_iff]
  simp only[At,beq_iff_eq,decide_eq_true_eq]
  exact⟨fun⟨⟨a,b⟩,c⟩=>⟨a,c,b⟩,fun⟨a,c,b⟩=>⟨⟨a,b⟩,c⟩⟩
 have hv:(t.enc.drop (0+t.hd)).take (0+t.enc.length-(0+t.hd))=t.v:=by
  rw[Nat.zero_add,Nat.zero_add,t.body]
  exact List.take_of_length_le (by rw[t.len];omega)
 by_cases hc:t.c=2∧t.n=n∧t.k=true
 ·rw[hi,decide_eq_true hc,if_neg (by simp),if_pos hc]
  show some ((t.enc.drop (0+t.hd)).take (0+t.enc.length-(0+t.hd)))=_
  rw[hv]
 ·rw[hi,decide_eq_false hc,if_pos (by simp),if_neg hc]
theorem Jf {n:Nat} {v:List UInt8} (hn:n≤30) (hv:v.length≤2147483600):By (Ah 2 n true v) n=some v:=by
 have:=Pp (t:=⟨2,n,true,v⟩) ⟨by show(2:Nat)≤3;omega,hn,by show v.length≤_;omega⟩ n
 rw[if_pos ⟨rfl,rfl,rfl⟩] at this
 exact this
theorem Hy {b v:List UInt8} {n:Nat} (h:By b n=some v):b=Ah 2 n true v:=by
 unfold By at h
 split at h
 ·cases h
 ·rename_i hh
  rw[not_or] at hh
  obtain⟨t,t1,t2,t3⟩:=Qw (Decidable.not_not.1 hh.1)
  have:=Pp t1 n
  rw[←t3] at this
  have hc:t.c=2∧t.n=n∧t.k=true:=by
   have hb:=hh.2
   rw[t2] at hb
   have hb:(t.el 0).isB 2 n true=true:=by simpa using hb
   unfold El.isB Tv.el at hb
   simp only[At,beq_iff_eq] at hb
   exact⟨hb.1.1,hb.2,hb.1.2⟩
  rw[if_pos hc] at this
  have h':By b n=some v:=by unfold By;rw[if_neg (by rw[not_or];exact hh)];exact h
  rw[this] at h'
  obtain rfl:=Option.some.inj h'
  rw[t3,Tv.enc,hc.1,hc.2.1,hc.2.2]
def fiB (k:Int) (l:List UInt8):Bool:=Aq k l&&(!(l==[])&& !(k==22||k==26))
theorem ME {k:Int} {l:List UInt8} (h:Aq k l=true) (hl:l.length≤500000000):∃n:Nat,k=n∧Tv.ok ⟨0,n,false,chS k l⟩∧txE k l=Tv.enc ⟨0,n,false,chS k l⟩:=by
 obtain⟨n,h1,h2,rfl⟩:=Qz h
 have h4:=Gx h
 exact⟨n,rfl,⟨by show(0:Nat)≤3;omega,h2,by show(chS (n:Int) l).length≤_;omega⟩,by unfold txE;rw[Int.toNat_natCast];rfl⟩
theorem pC {k:Int} {l:List UInt8} (h:Aq k l=true) (hl:l.length≤500000000):Of (txE k l)=k∧R3 (txE k l)=l∧bD (txE k l)=true:=by
 obtain⟨n,hk,ho,he⟩:=ME h hl
 have hc:=R5 h
 generalize ht:(⟨0,n,false,chS k l⟩:Tv)=t at ho he
 have h1:=H8 ho
 have hs:S2 t.enc=true:=by unfold S2;rw[h1];subst ht;rfl
 have hcon:Wg t.enc=chS k l:=by
  unfold Wg
  rw[h1]
  show(t.enc.drop (0+t.hd)).take (0+t.enc.length-(0+t.hd))=_
  rw[Nat.zero_add,Nat.zero_add,t.body,List.take_of_length_le (by rw[t.len];omega)]
  subst ht;rfl
 have hn:(Bj t.enc).x.n=n:=by rw[h1];subst ht;rfl
 rw[he]
 unfold Of R3 bD
 rw[hs,hcon,hn,←hk]
 exact⟨hc.1,hc.2.1,by rw[hc.2.2];rfl⟩
theorem GX {b:List UInt8} (h:bD b=true):Aq (Of b) (R3 b)=true∧b=txE (Of b) (R3 b):=by
 unfold bD at h
 rw[At] at h
 obtain⟨hs,hd⟩:=h
 have hs':=hs
 unfold S2 at hs'
 simp only[At,beq_iff_eq] at hs'
 obtain⟨t,t1,t2,t3⟩:=Qw hs'.1
 have hcon:Wg b=t.v:=by
  unfold Wg
  rw[t2,t3]
  show(t.enc.drop (0+t.hd)).take (0+t.enc.length-(0+t.hd))=_
  rw[Nat.zero_add,Nat.zero_add,t.body,List.take_of_length_le (by rw[t.len];omega)]
 have hn:(Bj b).x.n=t.n:=by rw[t2];rfl
 have htc:t.c=0:=by have:=hs'.2.1;rw[t2] at this;exact this
 have htk:t.k=false:=by have:=hs'.2.2;rw[t2] at this;simpa[Tv.el] using this
 rw[hn,hcon] at hd
 have hd:D7 (t.n:Int) t.v=0:=by simpa using hd
 obtain⟨i1,i2,i3⟩:=bN hd
 have hK:Of b=(t.n:Int):=by unfold Of;rw[if_pos hs,hn,hcon];exact i1
 have hV:R3 b=Cu (t.n:Int) t.v:=by unfold R3;rw[if_pos hs,hn,hcon]
 rw[hK,hV]
 refine⟨i2,?_⟩
 unfold txE
 rw[i3,Int.toNat_natCast,t3,Tv.enc,htc,htk]
theorem bQ {k:Int} {l:List UInt8} (h:fiB k l=true) (hl:l.length≤500000000):Gl (txE k l)=true∧pK (txE k l)=k∧pV (txE k l)=l:=by
 have h':=h
 unfold fiB at h
 rw[At] at h
 obtain⟨s1,s2,s3⟩:=pC h.1 hl
 have hd:Gl (txE k l)=true:=by
  unfold Gl
  rw[s1,s2,s3,h.2];rfl
 refine⟨hd,?_,?_⟩
 ·unfold pK;rw[if_pos hd,s1]
 ·unfold pV;rw[if_pos hd,s2]
theorem pD {b:List UInt8} (h:Gl b=true):fiB (pK b) (pV b)=true∧b=txE (pK b) (pV b):=by
 have h':=h
 unfold Gl at h'
 rw[At] at h'
 obtain⟨s1,s2⟩:=GX h'.1
 unfold pK pV
 rw[if_pos h,if_pos h]
 refine⟨?_,s2⟩
 unfold fiB
 rw[s1,h'.2];rfl
theorem AU {k:Int} {l:List UInt8} (hv:Aq k l=true) (h:fiB k l=false) (hl:l.length≤500000000):Gl (txE k l)=false:=by
 cases hd:Gl (txE k l) with
 |false=>rfl
 |true=>
  exfalso
  obtain⟨s1,s2,s3⟩:=pC hv hl
  unfold Gl at hd
  rw[s1,s2,s3] at hd
  unfold fiB at h
  rw[hv] at h
  rw[h] at hd;cases hd
def Hz (g:Gn):Bool:= !(g.k==5)||((zT g.ak g.av||fiB g.ak g.av)&&fiB g.pk g.pv)
def gnW (g:Gn):Bool:=Cr g&&(S9 g&&((En g).isSome&&Hz g))
theorem R6 {k:Int} {l:List UInt8}:zT k l=true↔k=0∧l=[]:=by unfold zT;simp
theorem gJ {n:Nat} {c:List UInt8} (hn:n≤8) (hl:c.length≤2147483600):L6 (Ah 2 n (D0 n) c)=if okP (rdP n c)=true then some (rdP n c).1 else none:=by
 obtain⟨t,ht⟩:∃t:Tv,t=⟨2,n,D0 n,c⟩:=⟨_,rfl⟩
 have hOk:t.ok:=by subst ht;exact⟨by show(2:Nat)≤3;omega,by show n≤30;omega,by show c.length≤_;omega⟩
 have he:Ah 2 n (D0 n) c=t.enc:=by subst ht;rfl
 have hv:t.v=c:=by subst ht;rfl
 have htag:Q2 (t.el 0)=true:=by
  unfold Q2;subst ht
  show((2:Nat)==2&&(decide (n≤8)&&(D0 n==D0 n)))=true
  rw[decide_eq_true hn];simp
 have hn':(t.el 0).n=n:=by subst ht;rfl
 have hb:(t.enc.drop (t.el 0).body).take ((t.el 0).stop-(t.el 0).body)=c:=by
  show(t.enc.drop (0+t.hd)).take (0+t.enc.length-(0+t.hd))=_
  rw[Nat.zero_add,Nat.zero_add,t.body,List.take_of_length_le (by rw[t.len];omega),hv]
 rw[he]
 unfold L6
 rw[H8 hOk]
 cases ho:okP (rdP n c)
 ·rw[if_neg (by simp)]
  exact(oZ htag (by rw[hn',hb];exact ho)).1
 ·rw[if_pos rfl]
  have:=gD (b:=t.enc) htag (by rw[hn',hb];exact ho)
  rw[this,hn',hb]
theorem AW {b:List UInt8} {g:Gn} (h:L6 b=some g):∃n:Nat,∃c:List UInt8,n≤8∧c.length≤b.length∧b=Ah 2 n (D0 n) c∧okP (rdP n c)=true∧g=(rdP n c).1:=by
 unfold L6 Wl at h
 by_cases h1:(Bj b).code≠0
 ·rw[if_pos h1] at h;cases h
 rw[if_neg h1] at h
 by_cases h2:Q2 (Bj b).x=false
 ·rw[if_pos h2] at h;cases h
 rw[if_neg h2] at h
 obtain⟨t,t1,t2,t3⟩:=Qw (Decidable.not_not.1 h1)
 have hb:(b.drop (Bj b).x.body).take ((Bj b).x.stop-(Bj b).x.body)=t.v:=by
  rw[t2,t3]
  show(t.enc.drop (0+t.hd)).take (0+t.enc.length-(0+t.hd))=_
  rw[Nat.zero_add,Nat.zero_add,t.body,List.take_of_length_le (by rw[t.len];omega)]
 have hn:(Bj b).x.n=t.n:=by rw[t2];rfl
 rw[hb,hn] at h
 have htag:Q2 (Bj b).x=true:=by simpa using h2
 rw[t2] at htag
 unfold Q2 at htag
 simp only[At,beq_iff_eq,decide_eq_true_eq] at htag
 obtain⟨a1,a2,a3⟩:=htag
 have a1:t.c=2:=a1
 have a2:t.n≤8:=a2
 have a3:t.k=D0 t.n:=a3
 by_cases h3:okP (rdP t.n t.v)=true
 ·rw[if_pos h3] at h
  refine⟨t.n,t.v,a2,by rw[t3,t.len];omega,?_,h3,(Option.some.inj h).symm⟩
  rw[t3,Tv.enc,a1,a3]
 ·rw[if_neg h3] at h;cases h
theorem pE {c d n m:Nat} {j k:Bool} {u v:List UInt8} (hc:c≤3) (hn:n≤30) (hd:d≤3) (hm:m≤30) (hu:u.length≤500000000) (hv:v.length≤500000000):Dv (Ah c n j u++Ah d m k v)=[Ah c n j u,Ah d m k v]:=by
 have:=Po (ts:=[⟨c,n,j,u⟩,⟨d,m,k,v⟩]) (fun t ht=>by
  rcases List.mem_cons.1 ht with rfl|ht
  ·exact⟨hc,hn,by show u.length≤_;omega⟩
  ·rw[List.mem_singleton.1 ht];exact⟨hd,hm,by show v.length≤_;omega⟩)
 rw[Df,Df] at this
 show Dv (Tv.enc ⟨c,n,j,u⟩++Tv.enc ⟨d,m,k,v⟩)=_
 have e:C6 ([]:List Tv)=[]:=rfl
 rw[e,List.append_nil] at this
 exact this
theorem MF {c n:Nat} {j:Bool} {u:List UInt8} (hc:c≤3) (hn:n≤30) (hu:u.length≤500000000):Dv (Ah c n j u)=[Ah c n j u]:=by
 have:=Po (ts:=[⟨c,n,j,u⟩]) (fun t ht=>by
  rw[List.mem_singleton.1 ht];exact⟨hc,hn,by show u.length≤_;omega⟩)
 rw[Df] at this
 have e:C6 ([]:List Tv)=[]:=rfl
 rw[e,List.append_nil] at this
 exact this
theorem GY {oid by':List UInt8} (h:E6 oid=true) (hl:oid.length≤3000000) (hb:by'.length≤3000000):Og 0 (Ah 0 6 false (Bq oid)++Ah 2 0 true by')=(⟨0,oid,[],by',[],0,[],0,[]⟩,true):=by
 have k1:=Fd oid
 unfold Og
 rw[pE (by omega) (by omega) (by omega) (by omega) (by omega) (by omega)]
 show Xw 0 _ _=_
 obtain⟨t,ht⟩:∃t:Tv,t=⟨0,6,false,Bq oid⟩:=⟨_,rfl⟩
 have hOk:t.ok:=by subst ht;exact⟨by show(0:Nat)≤3;omega,by show 6≤30;omega,by show(Bq oid).length≤_;omega⟩
 have he:Ah 0 6 false (Bq oid)=t.enc:=by subst ht;rfl
 have hv:t.v=Bq oid:=by subst ht;rfl
 have hi:(t.el 0).isB 0 6 false=true:=by subst ht;rfl
 have hin:=Jf (n:=0) (v:=by') (by omega) (by omega)
 obtain⟨e1,e2⟩:=Vi h
 unfold Xw
 rw[he,H8 hOk]
 simp only
 rw[hi,if_neg (by simp)]
 have hd:t.enc.drop (t.el 0).body=Bq oid:=by
  show t.enc.drop (0+t.hd)=_
  rw[Nat.zero_add,t.body,hv]
 rw[hd,e1,e2,hin,Ge hin]
 rfl
theorem pF {c:List UInt8} (_:c.length≤800000) (h:(Og 0 c).2=true):∃oid by':List UInt8,Og 0 c=(⟨0,oid,[],by',[],0,[],0,[]⟩,true)∧E6 oid=true∧c=Ah 0 6 false (Bq oid)++Ah 2 0 true by':=by
 unfold Og at h⊢
 by_cases hn:Dv c=[]
 ·rw[hn] at h;cases h
 obtain⟨ts,t1,t2,t3⟩:=Wq hn
 match hs:Dv c with
 |[]=>exact absurd hs hn
 |[x]=>rw[hs] at h;cases h
 |x::y::z::r=>rw[hs] at h;cases h
 |[p,q]=>
  rw[hs] at h t3
  have h:(Xw 0 p q).2=true:=h
  show∃oid by',Xw 0 p q=_∧_
  obtain⟨x,y,rfl⟩:∃x y,ts=[x,y]:=by
   match ts,congrArg List.length t3 with
   |[x,y],_=>exact⟨x,y,rfl⟩
  simp only[List.map_cons,List.map_nil,List.cons.injEq,and_true] at t3
  obtain⟨rfl,rfl⟩:=t3
  have x1:=t1 x (by simp)
  have y1:=t1 y (by simp)
  unfold Xw at h⊢
  rw[H8 x1] at h⊢
  simp only at h⊢
  by_cases hc:(0:Nat)≠0∨(x.el 0).isB 0 6 false=false
  ·rw[if_pos hc] at h;cases h
  rw[if_neg hc] at h⊢
  have hd:x.enc.drop (x.el 0).body=x.v:=by
   show x.enc.drop (0+x.hd)=_
   rw[Nat.zero_add,x.body]
  rw[hd] at h⊢
  simp only[At,beq_iff_eq] at h
  obtain⟨h1,h2⟩:=h
  obtain⟨v,hv⟩:=Option.isSome_iff_exists.1 h1
  have hod:odC x.v=0:=by omega
  obtain⟨o1,o2⟩:=lD hod
  have hb:(x.el 0).isB 0 6 false=true:=by
   rw[not_or] at hc;simpa using hc.2
  unfold El.isB Tv.el at hb
  simp only[At,beq_iff_eq] at hb
  refine⟨odT x.v,v,?_,o1,?_⟩
  ·rw[hv,Ge hv,hod];rfl
  ·rw[o2,←Hy hv,t2,Df,Df]
   have e:x.enc=Ah 0 6 false x.v:=by rw[Tv.enc,hb.1.1,hb.2,hb.1.2]
   rw[←e]
   show x.enc++(y.enc++[])=_
   rw[List.append_nil]
theorem pG {K:Int} {V:List UInt8} (ak:Int) (av:List UInt8) (hv:Aq K V=true) (hl:V.length≤3000000):Ls 5 (Ah 2 1 true (txE K V)) ak av=(⟨5,[],[],[],[],ak,av,pK (txE K V),pV (txE K V)⟩,fiB K V):=by
 have h4:=Gg hv hl
 have hin:=Jf (n:=1) (v:=txE K V) (by omega) (by omega)
 unfold Ls
 rw[hin,Ge hin]
 have:Gl (txE K V)=fiB K V:=by
  cases hf:fiB K V
  ·exact AU hv hf (by omega)
  ·exact(bQ hf (by omega)).1
 rw[this];rfl
theorem Ld {k:Int} {l:List UInt8} (h:fiB k l=true):Aq k l=true:=by
 unfold fiB at h;rw[At] at h;exact h.1
theorem pH {g:Gn} {c:List UInt8} (hk:g.k=5) (hc:M8 g=some c) (ha:g.av.length≤3000000) (hp:g.pv.length≤3000000):(Lc 5 c).2=((zT g.ak g.av||fiB g.ak g.av)&&fiB g.pk g.pv)∧(((zT g.ak g.av||fiB g.ak g.av)&&fiB g.pk g.pv)=true→Lc 5 c=(⟨5,[],[],[],[],g.ak,g.av,g.pk,g.pv⟩,true)):=by
 obtain⟨k,oid,tx,by',nm,ak,av,pk,pv⟩:=g
 unfold M8 at hc
 simp only at hk hc ha hp⊢
 by_cases hh:((zT ak av||Aq ak av)&&Aq pk pv)=true
 ·rw[if_pos hh] at hc
  rw[At] at hh
  obtain⟨h1,h2⟩:=hh
  have hl2:=Gg h2 hp
  obtain rfl:=Option.some.inj hc
  have fin:fiB pk pv=true→(⟨5,[],[],[],[],ak,av,pK (txE pk pv),pV (txE pk pv)⟩:Gn)=⟨5,[],[],[],[],ak,av,pk,pv⟩:=fun h=>by
   obtain⟨-,q1,q2⟩:=bQ h (by omega)
   rw[q1,q2]
  cases hz:zT ak av
  ·rw[hz,Bool.false_or] at h1
   have hl1:=Gg h1 ha
   rw[if_neg (by simp),Bool.false_or]
   unfold Lc
   rw[pE (by omega) (by omega) (by omega) (by omega) (by omega) (by omega)]
   have hin:=Jf (n:=0) (v:=txE ak av) (by omega) (by omega)
   show(if(By (Ah 2 0 true (txE ak av)) 0).isSome&&Gl (inn (Ah 2 0 true (txE ak av)) 0) then Ls 5 (Ah 2 1 true (txE pk pv)) (pK (inn (Ah 2 0 true (txE ak av)) 0)) (pV (inn (Ah 2 0 true (txE ak av)) 0)) else(gz,false)).2=_∧(_→(if(By (Ah 2 0 true (txE ak av)) 0).isSome&&Gl (inn (Ah 2 0 true (txE ak av)) 0) then Ls 5 (Ah 2 1 true (txE pk pv)) (pK (inn (Ah 2 0 true (txE ak av)) 0)) (pV (inn (Ah 2 0 true (txE ak av)) 0)) else(gz,false))=_)
   rw[hin,Ge hin]
   cases hf:fiB ak av
   ·rw[AU h1 hf (by omega),if_neg (by simp)]
    exact⟨rfl,fun h=>by cases h⟩
   ·obtain⟨d1,d2,d3⟩:=bQ hf (by omega)
    rw[d1,d2,d3,if_pos (by rfl),pG _ _ h2 hp]
    exact⟨rfl,fun h=>by
     have h:fiB pk pv=true:=h
     rw[fin h,h]⟩
  ·obtain⟨z1,z2⟩:=R6.1 hz
   subst z1 z2
   rw[if_pos rfl,Bool.true_or,List.nil_append]
   unfold Lc
   rw[MF (by omega) (by omega) (by omega)]
   show(Ls 5 _ 0 []).2=_∧(_→Ls 5 _ 0 []=_)
   rw[pG _ _ h2 hp]
   exact⟨rfl,fun h=>by
    have h:fiB pk pv=true:=h
    rw[fin h,h]⟩
 ·rw[if_neg hh] at hc;cases hc
theorem gK {q:List UInt8} {ak:Int} {av:List UInt8} (h:(Ls 5 q ak av).2=true):∃(K:Int) (V:List UInt8),Ls 5 q ak av=(⟨5,[],[],[],[],ak,av,K,V⟩,true)∧fiB K V=true∧q=Ah 2 1 true (txE K V):=by
 unfold Ls at h⊢
 simp only[At] at h
 obtain⟨v,hv⟩:=Option.isSome_iff_exists.1 h.1
 have hd:=h.2
 rw[Ge hv] at hd
 obtain⟨d1,d2⟩:=pD hd
 refine⟨pK v,pV v,?_,d1,by rw[←d2];exact Hy hv⟩
 rw[hv,Ge hv,hd];rfl
theorem GZ {c:List UInt8} (h:(Lc 5 c).2=true):∃g:Gn,Lc 5 c=(g,true)∧g=⟨5,[],[],[],[],g.ak,g.av,g.pk,g.pv⟩∧M8 g=some c∧((zT g.ak g.av||fiB g.ak g.av)&&fiB g.pk g.pv)=true:=by
 unfold Lc at h⊢
 by_cases hn:Dv c=[]
 ·rw[hn] at h;cases h
 obtain⟨ts,t1,t2,t3⟩:=Wq hn
 have hfl:c=(Dv c).flatten:=by rw[t3,←Eg];exact t2
 match hs:Dv c with
 |[]=>exact absurd hs hn
 |x::y::z::r=>rw[hs] at h;cases h
 |[q]=>
  rw[hs] at h hfl
  have h:(Ls 5 q 0 []).2=true:=h
  obtain⟨K,V,e1,e2,e3⟩:=gK h
  refine⟨⟨5,[],[],[],[],0,[],K,V⟩,e1,rfl,?_,by rw[e2];rfl⟩
  unfold M8
  have e4:=Ld e2
  rw[show((zT 0 []||Aq 0 [])&&Aq K V)=true by rw[e4];rfl,if_pos rfl]
  have e5:zT 0 []=true:=rfl
  simp only
  rw[e5,if_pos rfl,List.nil_append,←e3,hfl];simp
 |[p,q]=>
  rw[hs] at h hfl
  have h:(if(By p 0).isSome&&Gl (inn p 0) then Ls 5 q (pK (inn p 0)) (pV (inn p 0)) else(gz,false)).2=true:=h
  show∃g:Gn,(if(By p 0).isSome&&Gl (inn p 0) then Ls 5 q (pK (inn p 0)) (pV (inn p 0)) else(gz,false))=(g,true)∧_
  by_cases hc:((By p 0).isSome&&Gl (inn p 0))=true
  ·rw[if_pos hc] at h⊢
   rw[At] at hc
   obtain⟨v,hv⟩:=Option.isSome_iff_exists.1 hc.1
   have hd:=hc.2
   rw[Ge hv] at hd h⊢
   obtain⟨d1,d2⟩:=pD hd
   obtain⟨K,V,e1,e2,e3⟩:=gK h
   refine⟨⟨5,[],[],[],[],pK v,pV v,K,V⟩,e1,rfl,?_,by rw[e2,d1];simp⟩
   have e4:=Ld e2
   have e5:=Ld d1
   have e6:zT (pK v) (pV v)=false:=by
    cases hz:zT (pK v) (pV v) with
    |false=>rfl
    |true=>
     obtain⟨z1,z2⟩:=R6.1 hz
     rw[z1] at e5
     obtain⟨m,m1,m2,m3⟩:=Qz e5
     omega
   unfold M8
   simp only
   rw[e4,e5,e6]
   show some (Ah 2 0 true (txE (pK v) (pV v))++Ah 2 1 true (txE K V))=some c
   rw[←d2,←Hy hv,←e3,hfl];simp
  ·rw[if_neg hc] at h;cases h
theorem D5 (g:Gn):Cr g=true↔(g.k=0∨g.k=8∨g.oid=[])∧(g.k=1∨g.k=2∨g.k=6∨g.tx=[])∧(g.k=0∨g.k=3∨g.k=7∨g.by'=[])∧(g.k=4∨g.nm=[])∧(g.k=5∨(g.ak=0∧g.av=[])∧(g.pk=0∧g.pv=[])):=by
 unfold Cr alB
 simp only[At,Bool.or_eq_true,beq_iff_eq,R6]
 have l0:∀{α:Type} (l:List α),((l.length:Int)=0↔l=[]):=fun l=>⟨fun h=>List.eq_nil_of_length_eq_zero (by omega),fun h=>by rw[h];rfl⟩
 rw[l0,l0]
 constructor
 ·rintro⟨h1,h2,h3,h4,h5⟩
  refine⟨?_,?_,?_,h4,h5⟩
  ·rcases h1 with(h|h)|h<;>simp[h]
  ·rcases h2 with(h|h|h)|h<;>simp[h]
  ·rcases h3 with(h|h|h)|h<;>simp[h]
 ·rintro⟨h1,h2,h3,h4,h5⟩
  refine⟨?_,?_,?_,h4,h5⟩
  ·rcases h1 with h|h|h<;>simp[h]
  ·rcases h2 with h|h|h|h<;>simp[h]
  ·rcases h3 with h|h|h|h<;>simp[h]
theorem pI {g:Gn} {n:Nat} {c:List UInt8} (hk:g.k=n) (ha:Cr g=true) (hc:En g=some c) (hp:Hz g=true) (hs:g.sm):rdP n c=(g,true):=by
 obtain⟨k,oid,tx,by',nm,ak,av,pk,pv⟩:=g
 obtain⟨s1,s2,s3,s4,s5,s6⟩:=hs
 simp only at hk s1 s2 s3 s4 s5 s6
 subst hk
 rw[D5] at ha
 obtain⟨a1,a2,a3,a4,a5⟩:=ha
 simp only at a1 a2 a3 a4 a5
 unfold En at hc
 simp only at hc
 rcases(by
  obtain⟨m,hm,e⟩:=Pn (g:=⟨(n:Int),oid,tx,by',nm,ak,av,pk,pv⟩) (c:=c) hc
  simp only at e
  omega:n=0∨n=1∨n=2∨n=3∨n=4∨n=5∨n=6∨n=7∨n=8) with rfl|rfl|rfl|rfl|rfl|rfl|rfl|rfl|rfl
 ·obtain rfl:tx=[]:=by simpa using a2
  obtain rfl:nm=[]:=by simpa using a4
  obtain⟨⟨rfl,rfl⟩,rfl,rfl⟩:(ak=0∧av=[])∧pk=0∧pv=[]:=by simpa using a5
  rw[if_pos (by rfl)] at hc
  by_cases ho:E6 oid=true
  ·rw[if_pos ho] at hc
   obtain rfl:=Option.some.inj hc
   exact GY ho s1 s3
  ·rw[if_neg ho] at hc;cases hc
 ·obtain rfl:oid=[]:=by simpa using a1
  obtain rfl:by'=[]:=by simpa using a3
  obtain rfl:nm=[]:=by simpa using a4
  obtain⟨⟨rfl,rfl⟩,rfl,rfl⟩:(ak=0∧av=[])∧pk=0∧pv=[]:=by simpa using a5
  rw[if_neg (by decide),if_pos (by decide)] at hc
  by_cases ho:Aq 22 tx=true
  ·rw[if_pos ho] at hc
   obtain rfl:=Option.some.inj hc
   obtain⟨-,e2,e3⟩:=R5 ho
   show((⟨1,[],Cu 22 (chS 22 tx),[],[],0,[],0,[]⟩:Gn),D7 22 (chS 22 tx)==0)=_
   rw[e2,e3];rfl
  ·rw[if_neg ho] at hc;cases hc
 ·obtain rfl:oid=[]:=by simpa using a1
  obtain rfl:by'=[]:=by simpa using a3
  obtain rfl:nm=[]:=by simpa using a4
  obtain⟨⟨rfl,rfl⟩,rfl,rfl⟩:(ak=0∧av=[])∧pk=0∧pv=[]:=by simpa using a5
  rw[if_neg (by decide),if_pos (by decide)] at hc
  by_cases ho:Aq 22 tx=true
  ·rw[if_pos ho] at hc
   obtain rfl:=Option.some.inj hc
   obtain⟨-,e2,e3⟩:=R5 ho
   show((⟨2,[],Cu 22 (chS 22 tx),[],[],0,[],0,[]⟩:Gn),D7 22 (chS 22 tx)==0)=_
   rw[e2,e3];rfl
  ·rw[if_neg ho] at hc;cases hc
 ·obtain rfl:oid=[]:=by simpa using a1
  obtain rfl:tx=[]:=by simpa using a2
  obtain rfl:nm=[]:=by simpa using a4
  obtain⟨⟨rfl,rfl⟩,rfl,rfl⟩:(ak=0∧av=[])∧pk=0∧pv=[]:=by simpa using a5
  rw[if_neg (by decide),if_neg (by decide),if_pos (by decide)] at hc
  obtain rfl:=Option.some.inj hc
  rfl
 ·obtain rfl:oid=[]:=by simpa using a1
  obtain rfl:tx=[]:=by simpa using a2
  obtain rfl:by'=[]:=by simpa using a3
  obtain⟨⟨rfl,rfl⟩,rfl,rfl⟩:(ak=0∧av=[])∧pk=0∧pv=[]:=by simpa using a5
  rw[if_neg (by decide),if_neg (by decide),if_neg (by decide),if_pos (by rfl)] at hc
  by_cases ho:nmV nm=true
  ·rw[if_pos ho] at hc
   obtain rfl:=Option.some.inj hc
   have:=GV ho s4
   show Q0 4 (nmE nm)=_
   unfold Q0
   generalize nmR (nmE nm)=q at this
   obtain⟨o,cc,p⟩:=q
   simp only at this
   subst this
   rfl
  ·rw[if_neg ho] at hc;cases hc
 ·obtain rfl:oid=[]:=by simpa using a1
  obtain rfl:tx=[]:=by simpa using a2
  obtain rfl:by'=[]:=by simpa using a3
  obtain rfl:nm=[]:=by simpa using a4
  rw[if_neg (by decide),if_neg (by decide),if_neg (by decide),if_neg (by decide),if_pos (by rfl)] at hc
  exact(pH (g:=⟨((5:Nat):Int),[],[],[],[],ak,av,pk,pv⟩) rfl hc s5 s6).2 hp
 ·obtain rfl:oid=[]:=by simpa using a1
  obtain rfl:by'=[]:=by simpa using a3
  obtain rfl:nm=[]:=by simpa using a4
  obtain⟨⟨rfl,rfl⟩,rfl,rfl⟩:(ak=0∧av=[])∧pk=0∧pv=[]:=by simpa using a5
  rw[if_neg (by decide),if_pos (by decide)] at hc
  by_cases ho:Aq 22 tx=true
  ·rw[if_pos ho] at hc
   obtain rfl:=Option.some.inj hc
   obtain⟨-,e2,e3⟩:=R5 ho
   show((⟨6,[],Cu 22 (chS 22 tx),[],[],0,[],0,[]⟩:Gn),D7 22 (chS 22 tx)==0)=_
   rw[e2,e3];rfl
  ·rw[if_neg ho] at hc;cases hc
 ·obtain rfl:oid=[]:=by simpa using a1
  obtain rfl:tx=[]:=by simpa using a2
  obtain rfl:nm=[]:=by simpa using a4
  obtain⟨⟨rfl,rfl⟩,rfl,rfl⟩:(ak=0∧av=[])∧pk=0∧pv=[]:=by simpa using a5
  rw[if_neg (by decide),if_neg (by decide),if_pos (by decide)] at hc
  obtain rfl:=Option.some.inj hc
  rfl
 ·obtain rfl:tx=[]:=by simpa using a2
  obtain rfl:by'=[]:=by simpa using a3
  obtain rfl:nm=[]:=by simpa using a4
  obtain⟨⟨rfl,rfl⟩,rfl,rfl⟩:(ak=0∧av=[])∧pk=0∧pv=[]:=by simpa using a5
  rw[if_neg (by decide),if_neg (by decide),if_neg (by decide),if_neg (by decide),if_neg (by decide),if_pos (by rfl)] at hc
  by_cases ho:E6 oid=true
  ·rw[if_pos ho] at hc
   obtain rfl:=Option.some.inj hc
   obtain⟨e1,e2⟩:=Vi ho
   show((⟨8,odT (Bq oid),[],[],[],0,[],0,[]⟩:Gn),(odC (Bq oid):Int)==0)=_
   rw[e1,e2];rfl
  ·rw[if_neg ho] at hc;cases hc
theorem HE {n:Nat} {c:List UInt8} (hn:n≤8) (hl:c.length≤800000) (h:(rdP n c).2=true):(rdP n c).1.k=n∧Cr (rdP n c).1=true∧En (rdP n c).1=some c∧Hz (rdP n c).1=true:=by
 rcases(by omega:n=0∨n=1∨n=2∨n=3∨n=4∨n=5∨n=6∨n=7∨n=8) with rfl|rfl|rfl|rfl|rfl|rfl|rfl|rfl|rfl
 ·obtain⟨oid,by',e1,e2,e3⟩:=pF hl (show(Og 0 c).2=true from h)
  show(Og 0 c).1.k=_∧Cr (Og 0 c).1=true∧En (Og 0 c).1=some c∧Hz (Og 0 c).1=true
  rw[e1]
  refine⟨rfl,by rw[D5];simp,?_,rfl⟩
  unfold En
  rw[if_pos rfl]
  simp only
  rw[if_pos e2,e3]
 ·have hd:D7 22 c=0:=by simpa[rdP] using h
  obtain⟨-,i2,i3⟩:=bN hd
  refine⟨rfl,by rw[D5];simp[rdP],?_,rfl⟩
  show(if Aq 22 (Cu 22 c)=true then some (chS 22 (Cu 22 c)) else none)=_
  rw[if_pos i2,i3]
 ·have hd:D7 22 c=0:=by simpa[rdP] using h
  obtain⟨-,i2,i3⟩:=bN hd
  refine⟨rfl,by rw[D5];simp[rdP],?_,rfl⟩
  show(if Aq 22 (Cu 22 c)=true then some (chS 22 (Cu 22 c)) else none)=_
  rw[if_pos i2,i3]
 ·exact⟨rfl,by rw[D5];simp[rdP],rfl,rfl⟩
 ·have h':(Q0 4 c).2=true:=h
  have hi:=fun n hh=>GW (b:=c) (n:=n) hh (by omega)
  show(Q0 4 c).1.k=_∧Cr (Q0 4 c).1=true∧En (Q0 4 c).1=some c∧Hz (Q0 4 c).1=true
  unfold Q0 at h'⊢
  generalize nmR c=q at h' hi⊢
  obtain⟨o,cc,p⟩:=q
  cases o with
  |none=>cases h'
  |some nm=>
   obtain⟨i1,i2⟩:=hi nm rfl
   refine⟨rfl,by rw[D5];simp,?_,rfl⟩
   show(if nmV nm=true then some (nmE nm) else none)=_
   rw[if_pos i1,←i2]
 ·obtain⟨g,e1,e2,e3,e4⟩:=GZ (show(Lc 5 c).2=true from h)
  show(Lc 5 c).1.k=_∧Cr (Lc 5 c).1=true∧En (Lc 5 c).1=some c∧Hz (Lc 5 c).1=true
  rw[e1]
  have hk:g.k=5:=by rw[e2]
  refine⟨hk,by rw[D5,e2];simp,?_,?_⟩
  ·show En g=some c
   unfold En
   rw[hk,if_neg (by decide),if_neg (by decide),if_neg (by decide),if_neg (by decide),if_pos rfl]
   exact e3
  ·show Hz g=true
   unfold Hz;rw[e4];simp
 ·have hd:D7 22 c=0:=by simpa[rdP] using h
  obtain⟨-,i2,i3⟩:=bN hd
  refine⟨rfl,by rw[D5];simp[rdP],?_,rfl⟩
  show(if Aq 22 (Cu 22 c)=true then some (chS 22 (Cu 22 c)) else none)=_
  rw[if_pos i2,i3]
 ·exact⟨rfl,by rw[D5];simp[rdP],rfl,rfl⟩
 ·have hd:odC c=0:=by
   have h:((odC c:Int)==0)=true:=h
   rw[beq_iff_eq] at h;omega
  obtain⟨o1,o2⟩:=lD hd
  refine⟨rfl,by rw[D5];simp[rdP],?_,rfl⟩
  show(if E6 (odT c)=true then some (Bq (odT c)) else none)=_
  rw[if_pos o1,o2]
theorem N8 (g:Gn):gnW g=true↔Cr g=true∧S9 g=true∧(∃c,En g=some c)∧Hz g=true:=by
 unfold gnW
 simp only[At,Option.isSome_iff_exists]
theorem gL {g:Gn} (h:gnW g=true) (hs:g.mid):L6 (gnE g)=some g:=by
 obtain⟨h1,h2,⟨c,h3⟩,h4⟩:=(N8 g).1 h
 obtain⟨n,hn,hk⟩:=Pn h3
 have hl:=hs.c
 rw[h3] at hl
 have hl:c.length≤700000:=hl
 have e:gnE g=Ah 2 n (D0 n) c:=by unfold gnE;rw[h3,hk];rfl
 have hr:=pI hk h1 h3 h4 hs.s
 rw[e,gJ hn (by omega),hr]
 have:okP (g,true)=true:=by unfold okP;rw[h2];rfl
 rw[if_pos this]
theorem AX {b:List UInt8} {g:Gn} (h:L6 b=some g) (hl:b.length≤800000):gnW g=true∧b=gnE g:=by
 obtain⟨n,c,hn,hc,hb,ho,rfl⟩:=AW h
 unfold okP at ho
 rw[At] at ho
 obtain⟨i1,i2,i3,i4⟩:=HE hn (by omega) ho.1
 refine⟨(N8 _).2 ⟨i2,ho.2,⟨c,i3⟩,i4⟩,?_⟩
 unfold gnE
 rw[i1,i3];exact hb
theorem MG {g:Gn} (hs:g.mid):Xx g=gnW g:=by
 cases hw:gnW g
 ·cases hv:Xx g with
  |false=>rfl
  |true=>
   exfalso
   unfold Xx at hv
   simp only[At] at hv
   obtain⟨v1,v2,v3,v4⟩:=hv
   obtain⟨c,h3⟩:=Option.isSome_iff_exists.1 v3
   obtain⟨n,hn,hk⟩:=Pn h3
   have hp:Hz g=false:=by
    unfold gnW at hw;rw[v1,v2,v3] at hw;exact hw
   have h5:g.k=5:=by
    unfold Hz at hp
    simp only[Bool.or_eq_false_iff,Bool.not_eq_false',beq_iff_eq] at hp
    exact hp.1
   have hl:=hs.c
   rw[h3] at hl
   have hl:c.length≤700000:=hl
   have e:gnE g=Ah 2 5 (D0 (5:Nat)) c:=by unfold gnE;rw[h3,h5];rfl
   have hc:M8 g=some c:=by
    unfold En at h3
    rw[h5,if_neg (by decide),if_neg (by decide),if_neg (by decide),if_neg (by decide),if_pos rfl] at h3
    exact h3
   have hq:=(pH h5 hc hs.s.a hs.s.p).1
   have:((zT g.ak g.av||fiB g.ak g.av)&&fiB g.pk g.pv)=false:=by
    unfold Hz at hp;rw[h5] at hp;exact hp
   rw[this] at hq
   rw[e,gJ (by omega) (by omega)] at v4
   have ho:okP (rdP 5 c)=false:=by
    show((Lc 5 c).2&&S9 (Lc 5 c).1)=false
    rw[hq];rfl
   rw[ho] at v4;cases v4
 ·obtain⟨h1,h2,⟨c,h3⟩,h4⟩:=(N8 g).1 hw
  unfold Xx
  rw[gL hw hs,h1,h2,h3];rfl
end Go.Proofs.YtokmjjkbginodaaGreatDoor
