/- MP: the texts GenM GenR DnP GenL GenX GenY, one behind the other. No condition but what each lemma says. -/
import Derived.Test.YtaoahmplnckhpaaGreatDoorMO
import Derived.Test.YtaoahmplnckhpaaGreatDoorGEncPlain
set_option maxRecDepth 100000
set_option maxHeartbeats 16000000
namespace Go.Proofs.YtaoahmplnckhpaaGreatDoor
open Go.RowKit
def rdP (n:Nat) (c:List UInt8):Gn×Bool:=match n with
 |0=>Zs 0 c
 |1=>(⟨1,[],Fv 22 c,[],[],0,[],0,[]⟩,Fx 22 c==0)
 |2=>(⟨2,[],Fv 22 c,[],[],0,[],0,[]⟩,Fx 22 c==0)
 |3=>(⟨3,[],[],c,[],0,[],0,[]⟩,true)
 |4=>Zr 4 c
 |5=>Pp 5 c
 |6=>(⟨6,[],Fv 22 c,[],[],0,[],0,[]⟩,Fx 22 c==0)
 |7=>(⟨7,[],[],c,[],0,[],0,[]⟩,true)
 |8=>(⟨8,odT c,[],[],[],0,[],0,[]⟩,(odC c:Int)==0)
 |_=>(gz,false)
def Sd (x:El):Bool:=x.c==2&&(decide (x.n≤8)&&(x.k==Dt x.n))
def okP (p:Gn×Bool):Bool:=p.2&&Pq p.1
def Tc (b:List UInt8) (r:ElR):Option Gn:=if r.code≠0 then none else if Sd r.x=false then none else if okP (rdP r.x.n ((b.drop r.x.body).take (r.x.stop-r.x.body)))=true then some (rdP r.x.n ((b.drop r.x.body).take (r.x.stop-r.x.body))).1 else none
def Se (b:List UInt8):Option Gn:=Tc b (Bb b)
def Ws (r:ElR):Nat×Nat:=if r.code≠0 then(r.code,r.off) else if Sd r.x=false then(3,0) else(6,r.x.body)
def Zv (b:List UInt8):Nat×Nat:=Ws (Bb b)
theorem Sf {b:List UInt8} {x:El} (h:Sd x=false):Tc b ⟨x,0,0⟩=none∧Ws ⟨x,0,0⟩=(3,0):=by
 refine⟨?_,?_⟩
 ·unfold Tc;rw[if_neg (by simp),if_pos h]
 ·unfold Ws;rw[if_neg (by simp),if_pos h]
theorem gV {b:List UInt8} {x:El} (h:Sd x=true) (h2:okP (rdP x.n ((b.drop x.body).take (x.stop-x.body)))=false):Tc b ⟨x,0,0⟩=none∧Ws ⟨x,0,0⟩=(6,x.body):=by
 refine⟨?_,?_⟩
 ·unfold Tc;simp only;rw[if_neg (by simp),if_neg (by rw[h];simp),if_neg (by rw[h2];simp)]
 ·unfold Ws;rw[if_neg (by simp),if_neg (by rw[h];simp)]
theorem Zw {b:List UInt8} {x:El} (h:Sd x=true) (h2:okP (rdP x.n ((b.drop x.body).take (x.stop-x.body)))=true):Tc b ⟨x,0,0⟩=some (rdP x.n ((b.drop x.body).take (x.stop-x.body))).1:=by
 unfold Tc;simp only;rw[if_neg (by simp),if_neg (by rw[h];simp),if_pos h2]
def gnR (o:Option Gn) (e:Nat×Nat):AV:=match o with
 |some g=> .tup [gnQ g,erA 0 0]
 |none=> .tup [gnQ gz,erA e.1 e.2]
theorem xG (b:List UInt8):(Zv b).1≠0∧(Zv b).2≤b.length:=by
 have hF:=D3 b
 unfold Zv Ws
 by_cases h1:(Bb b).code≠0
 ·rw[if_pos h1];exact⟨h1,hF.2.2.1⟩
 rw[if_neg h1]
 split
 ·exact⟨by simp,Nat.zero_le _⟩
 ·have:=hF.1 (Decidable.not_not.1 h1)
  exact⟨by simp,by show(Bb b).x.body≤_;omega⟩
theorem xH (k:Int) (c:List UInt8):(Zs k c).1.by'.length≤c.length:=by
 have hm:=fun p=>Md (c:=c) (p:=p)
 unfold Zs
 generalize Eu c=l at hm
 match l with
 |[]=>exact Nat.zero_le _
 |[x]=>exact Nat.zero_le _
 |x::y::z::r=>exact Nat.zero_le _
 |[p,q]=>
  show(dZ k p q).1.by'.length≤_
  unfold dZ
  split
  ·exact Nat.zero_le _
  ·have:=hm q (by simp)
   have:=Nq q 0
   show(inn q 0).length≤_
   omega
theorem xI (k:Int) (c:List UInt8):(Pp k c).1.by'=[]:=by
 unfold Pp
 match Eu c with
 |[]=>rfl
 |[q]=>rfl
 |x::y::z::r=>rfl
 |[p,q]=>
  show(if(Cy p 0).isSome&&Gp (inn p 0) then Oo k q (pK (inn p 0)) (pV (inn p 0)) else(gz,false)).1.by'=[]
  split<;>rfl
theorem xJ (k:Int) (c:List UInt8):(Zr k c).1.by'=[]:=by
 unfold Zr;split<;>rfl
theorem sM {C:Cx} {o:Oper} {σ:AS} {t:Nat} {x y:Operand} {k:Int} (h:rdF k=none) (ho:o.op= .lookup 152 x y true) (hd:o.dst=some t) (ht:t<C.N) (hx:σ.eval x=some rdA) (hy:σ.eval y=some (iv k)):
 LA Tryz.prog C o ⟨[],some (t,.tup [.d (.v .nilFunc),bv false]),none,none,[],[],[],[]⟩ σ:=by
 have:=G0 ho hd ht hx hy
 unfold fnA at this
 rwa[h] at this
def EY:Nat→FuncId
 |0=>133
 |3=>135
 |4=>136
 |5=>137
 |7=>135
 |8=>138
 |_=>134
theorem xK {n:Nat} (hn:n≤8) (c:List UInt8) (hl:c.length≤800000):Ac Tryz.prog (EY n) [ptA n c] (fun r=>r=gbA (rdP n c))∧(rdP n c).1.by'.length≤100000000:=by
 have l0:([]:List UInt8).length≤100000000:=by simp
 rcases(by omega:n=0∨n=1∨n=2∨n=3∨n=4∨n=5∨n=6∨n=7∨n=8) with rfl|rfl|rfl|rfl|rfl|rfl|rfl|rfl|rfl
 ·exact⟨sK 0 c hl,by have:=xH 0 c;show(Zs 0 _).1.by'.length≤_;omega⟩
 ·exact⟨On 1 c (by omega),l0⟩
 ·exact⟨On 2 c (by omega),l0⟩
 ·exact⟨Sb 3 c (by omega),by show c.length≤_;omega⟩
 ·exact⟨sJ 4 c hl,by show(Zr 4 _).1.by'.length≤_;rw[xJ];exact l0⟩
 ·exact⟨sL 5 c hl,by show(Pp 5 _).1.by'.length≤_;rw[xI];exact l0⟩
 ·exact⟨On 6 c (by omega),l0⟩
 ·exact⟨Sb 7 c (by omega),by show c.length≤_;omega⟩
 ·exact⟨Zq 8 c (by omega),l0⟩
theorem E6 {p:Prop} (h:p:=by first|rfl|(simp only[AV.gives,AV.ren,AV.give,D.un,D.uns,Ai,Am,List.nil_append,List.append_nil,List.cons_append,At,A5,Cm,Bm,A4,Cf,Ck,Cn,Bp];first|done|rfl)):p:=h
theorem sN (b:List UInt8) (hb:b.length≤800000) (x:El) (hx:x.body≤x.stop∧x.stop≤b.length) (hn:x.n≤8) (hO:Ac Tryz.prog 87 [.d (Af false b)] (fun r=>r=erR ⟨x,0,0⟩)):Ac Tryz.prog 68 [.d (Af false b)] (fun r=>r=gnR (Tc b ⟨x,0,0⟩) (Ws ⟨x,0,0⟩)):=by
 obtain⟨c,n,k,p,body,stop⟩:=x
 simp only at hx hn
 have hlc:((b.drop body).take (stop-body)).length≤b.length:=by rw[Al,Aw];omega
 obtain⟨hR,hl⟩:=xK hn ((b.drop body).take (stop-body)) (by omega)
 have gt:Sd ⟨c,n,k,p,body,stop⟩=(c==2&&(true&&(k==Dt n))):=by unfold Sd;rw[decide_eq_true hn]
 obtain⟨con,hcon,hK⟩:∃con:Bool,Dt (n:Int)=con∧Ac Tryz.prog 67 [iv n] (fun r=>r=bv con):=⟨_,rfl,Zt n⟩
 rw[hcon] at gt
 rcases(by omega:n=0∨n=1∨n=2∨n=3∨n=4∨n=5∨n=6∨n=7∨n=8) with rfl|rfl|rfl|rfl|rfl|rfl|rfl|rfl|rfl
 all_goals cases con
 all_goals try(exact absurd hcon (by decide))
 all_goals
  clear hn hcon
  cases hc:(c==2)
  ·have e:=Sf (b:=b) (gt.trans (by rw[hc];rfl))
   rw[e.1,e.2]
   have g1:((c:Int) !=2)=true:=by rw[bne_iff_ne];rw[beq_eq_false_iff_ne] at hc;omega
   refine acQ 70 Tryz.func68 rfl rfl fun _ _ _=> ?_
   (repeat'((conv=>whnf);first|refine Ab ?_|refine Ae ?_|refine Av asP ?_|refine Aa hO E6 ?_|refine Aa Fe rfl ?_|refine NLa.mk ⟨_,G0 rfl rfl (ltN rfl) rfl rfl,?_⟩|refine zF ?_|exact zE))
  have g1:((c:Int) !=2)=false:=by rw[bne_eq_false_iff_eq];rw[beq_iff_eq] at hc;omega
  cases k
  all_goals try
   have hk:=gt.trans (show _=false by rw[hc];rfl)
   have e:=Sf (b:=b) hk
   rw[e.1,e.2]
   refine acQ 70 Tryz.func68 rfl rfl fun _ _ _=> ?_
   (repeat'((conv=>whnf);first|refine Ab ?_|refine Ae ?_|refine Ay asP ?_|refine Aa hO E6 ?_|refine Aa Fe rfl ?_|refine Aa hK rfl ?_|refine NLa.mk ⟨_,G0 rfl rfl (ltN rfl) rfl rfl,?_⟩|refine zF ?_|exact zE))
  have ht:=gt.trans (show _=true by rw[hc];rfl)
  have eN:=gV (b:=b) ht
  have eY:=Zw (b:=b) ht
  simp only at eN eY
  generalize rdP _ ((b.drop body).take (stop-body))=q at hR hl eN eY
  obtain⟨g,ok⟩:=q
  simp only at hl eN eY
  have hT:=Uh g hl
  simp only[gbA] at hR
  cases ok
  ·rw[(eN rfl).1,(eN rfl).2]
   refine acQ 70 Tryz.func68 rfl rfl fun _ _ _=> ?_
   (repeat'((conv=>whnf);first|refine Ab ?_|refine Ae ?_|refine Ay asP ?_|refine Aa hO E6 ?_|refine Aa Fe rfl ?_|refine Aa hK rfl ?_|refine NSl.slice (body) (stop) ?_|refine Aa hR E6 ?_|refine NLa.mk ⟨_,G0 rfl rfl (ltN rfl) rfl rfl,?_⟩|refine zF ?_|exact zE))
  cases hfi:Pq g
  ·rw[hfi] at hT
   have e:=eN (show(true&&Pq g)=false by rw[hfi];rfl)
   rw[e.1,e.2]
   refine acQ 70 Tryz.func68 rfl rfl fun _ _ _=> ?_
   (repeat'((conv=>whnf);first|refine Ab ?_|refine Ae ?_|refine Ay asP ?_|refine Aa hO E6 ?_|refine Aa Fe rfl ?_|refine Aa hK rfl ?_|refine NSl.slice (body) (stop) ?_|refine Aa hR E6 ?_|refine Aa hT E6 ?_|refine NLa.mk ⟨_,G0 rfl rfl (ltN rfl) rfl rfl,?_⟩|refine zF ?_|exact zE))
  ·rw[hfi] at hT
   rw[eY (show(true&&Pq g)=true by rw[hfi];rfl)]
   refine acQ 70 Tryz.func68 rfl rfl fun _ _ _=> ?_
   (repeat'((conv=>whnf);first|refine Ae ?_|refine Ay asP ?_|refine Aa hO E6 ?_|refine Aa Fe rfl ?_|refine Aa hK rfl ?_|refine NSl.slice (body) (stop) ?_|refine Aa hR E6 ?_|refine Aa hT E6 ?_|refine NLa.mk ⟨_,G0 rfl rfl (ltN rfl) rfl rfl,?_⟩|refine zF ?_|exact zE))
theorem eA (b:List UInt8) (hb:b.length≤800000):Ac Tryz.prog 68 [.d (Af false b)] (fun r=>r=gnR (Se b) (Zv b)):=by
 have hO:=Kz b (by omega)
 have hF:=D3 b
 unfold Se Zv
 generalize Bb b=r at hO hF⊢
 obtain⟨x,c,o⟩:=r
 by_cases h1:c=0
 ·subst h1
  obtain⟨f1,f2,f3,f4,f5⟩:=hF.1 rfl
  simp only at f1 f2 f3 f4 f5
  subst f5
  have hx:x.body≤x.stop∧x.stop≤b.length:=by omega
  by_cases hn:x.n≤8
  ·exact sN b hb x hx hn hO
  ·have gt:Sd x=false:=by unfold Sd;rw[decide_eq_false hn];simp
   have e:=Sf (b:=b) gt
   rw[e.1,e.2]
   obtain⟨c,n,k,p,body,stop⟩:=x
   simp only at hn
   have hr:rdF (n:Int)=none:=by
    unfold rdF
    rw[if_neg (by omega),if_neg (by omega),if_neg (by omega),if_neg (by omega),if_neg (by omega),if_neg (by omega)]
   show Ac _ _ _ (fun r=>r= .tup [gnQ gz,erA 3 0])
   refine acQ 70 Tryz.func68 rfl rfl fun _ _ _=> ?_
   (repeat'((conv=>whnf);first|refine Ab ?_|refine Ae ?_|refine Aa hO E6 ?_|refine Aa Fe rfl ?_|refine NLa.mk ⟨_,sM hr rfl rfl (ltN rfl) rfl rfl,?_⟩|refine zF ?_|exact zE))
 ·have gc:((c:Int) !=0)=true:=by rw[bne_iff_ne];omega
  rw[show Tc b ⟨x,c,o⟩=none by unfold Tc;rw[if_pos h1],show Ws ⟨x,c,o⟩=(c,o) by unfold Ws;rw[if_pos h1]]
  show Ac _ _ _ (fun r=>r= .tup [gnQ gz,erA c o])
  refine acQ 70 Tryz.func68 rfl rfl fun _ _ _=> ?_
  (repeat'((conv=>whnf);first|refine Av asP ?_|refine Aa hO E6 ?_|refine zF ?_|exact zE))
def gnE (g:Gn):List UInt8:=Ao 2 g.k.toNat (Dt g.k) ((Gq g).getD [])
def Td (g:Gn):Bool:=Cl g&&(Pq g&&((Gq g).isSome&&(Se (gnE g)).isSome))
def Oq (o:Bool) (b:List UInt8):AV:=if o=true then .tup [Cg 0 5 b,iv 0] else .tup [Bj,iv 8]
theorem Ot {g:Gn} {c:List UInt8} (h:Gq g=some c):∃n:Nat,n≤8∧g.k=n:=by
 unfold Gq at h
 by_cases h0:g.k=0
 ·exact⟨0,by omega,h0⟩
 rw[if_neg h0] at h
 by_cases h1:g.k=1∨g.k=2∨g.k=6
 ·exact⟨g.k.toNat,by omega,by omega⟩
 rw[if_neg h1] at h
 by_cases h2:g.k=3∨g.k=7
 ·exact⟨g.k.toNat,by omega,by omega⟩
 rw[if_neg h2] at h
 by_cases h3:g.k=4
 ·exact⟨4,by omega,h3⟩
 rw[if_neg h3] at h
 by_cases h4:g.k=5
 ·exact⟨5,by omega,h4⟩
 rw[if_neg h4] at h
 by_cases h5:g.k=8
 ·exact⟨8,by omega,h5⟩
 rw[if_neg h5] at h;cases h
theorem C2 {p:Prop} (h:p:=by first|rfl|(simp only[AV.gives,AV.ren,AV.give,D.un,D.uns,Ai,Am,List.nil_append,List.append_nil,List.cons_append,At,A5,Cm,Bm,A4,Cf,Ck,Cn,Bp,C7,Be];first|done|rfl)):p:=h
theorem Sg (g:Gn) (hs:g.sm) (hl:((Gq g).getD []).length≤700000):Ac Tryz.prog 31 [gnA g] (fun r=>r=Oq (Td g) (gnE g)):=by
 have hA:=mO g
 have hF:=Uh g (by have:=hs.b;omega)
 have hC:=Wr g hs
 unfold Td Oq
 cases ha:Cl g
 ·rw[ha] at hA
  show Ac _ _ _ (fun r=>r= .tup [Bj,iv 8])
  refine acQ 48 Tryz.func31 rfl rfl fun _ _ _=> ?_
  (repeat'((conv=>whnf);first|refine Ab ?_|refine Aa hA C2 ?_|exact zE))
 rw[ha] at hA
 cases hf:Pq g
 ·rw[hf] at hF
  show Ac _ _ _ (fun r=>r= .tup [Bj,iv 8])
  refine acQ 48 Tryz.func31 rfl rfl fun _ _ _=> ?_
  (repeat'((conv=>whnf);first|refine Ab ?_|refine Ae ?_|refine Aa hA C2 ?_|refine Aa hF C2 ?_|exact zE))
 rw[hf] at hF
 cases hc:Gq g with
 |none=>
  rw[hc] at hC
  have hC:Ac Tryz.prog 66 [gnA g] (fun r=>r= .tup [.d (Af false []),iv 8]):=hC
  show Ac _ _ _ (fun r=>r= .tup [Bj,iv 8])
  refine acQ 48 Tryz.func31 rfl rfl fun _ _ _=> ?_
  (repeat'((conv=>whnf);first|refine Ab ?_|refine Ae ?_|refine Aa hA C2 ?_|refine Aa hF C2 ?_|refine Aa hC C2 ?_|exact zE))
 |some c=>
  obtain⟨n,hn,hk⟩:=Ot hc
  rw[hc] at hC hl
  have hC:Ac Tryz.prog 66 [gnA g] (fun r=>r= .tup [.d (Af false c),iv 0]):=hC
  have hl:c.length≤700000:=hl
  have hK:=Zt g.k
  have hW:=Dk 2 n (Dt g.k) c (by omega) (by omega) (by omega)
  have hle:=A2 2 n (Dt g.k) c (by omega)
  have hP:=eA (Ao 2 n (Dt g.k) c) (by omega)
  have he:=xG (Ao 2 n (Dt g.k) c)
  have e:gnE g=Ao 2 n (Dt g.k) c:=by unfold gnE;rw[hc,hk];rfl
  rw[e]
  generalize Zv (Ao 2 n (Dt g.k) c)=er at hP he
  obtain⟨ec,eo⟩:=er
  simp only at he
  have gc:((ec:Int) !=0)=true:=by rw[bne_iff_ne];omega
  obtain⟨k,oid,tx,by',nm,ak,av,pk,pv⟩:=g
  simp only at hk
  subst hk
  simp only at hK hW hP hle⊢
  generalize Ao 2 n (Dt (n:Int)) c=b at hW hP⊢
  cases ho:Se b with
  |none=>
   rw[ho] at hP
   have hP:Ac Tryz.prog 68 [.d (Af false b)] (fun r=>r= .tup [gnQ gz,erA ec eo]):=hP
   show Ac _ _ _ (fun r=>r= .tup [Bj,iv 8])
   refine acQ 48 Tryz.func31 rfl rfl fun _ _ _=> ?_
   (repeat'((conv=>whnf);first|refine Ae ?_|refine Av asP ?_|refine Aa hA C2 ?_|refine Aa hF C2 ?_|refine Aa hC C2 ?_|refine Aa hK rfl ?_|refine Aa hW C2 ?_|refine Aa hP C2 ?_|refine zF ?_|exact zE))
  |some v=>
   rw[ho] at hP
   have hP:Ac Tryz.prog 68 [.d (Af false b)] (fun r=>r= .tup [gnQ v,erA 0 0]):=hP
   show Ac _ _ _ (fun r=>r= .tup [Cg 0 5 b,iv 0])
   refine acQ 48 Tryz.func31 rfl rfl fun _ _ _=> ?_
   (repeat'((conv=>whnf);first|refine Ae ?_|refine Aa hA C2 ?_|refine Aa hF C2 ?_|refine Aa hC C2 ?_|refine Aa hK rfl ?_|refine Aa hW C2 ?_|refine Aa hP C2 ?_|refine zF ?_|exact zE))
structure Gn.mid (g:Gn):Prop where
 s:g.sm
 c:((Gq g).getD []).length≤700000
def Wt (l:List Gn):Bool:= !l.isEmpty&&l.all Td
def Zx (l:List Gn):List UInt8:=Ao 0 16 true (l.map gnE).flatten
theorem gW {g:Gn} (h:g.mid):(gnE g).length≤700006:=by
 have:=h.c
 have:=A2 2 g.k.toNat (Dt g.k) ((Gq g).getD []) (by omega)
 unfold gnE;omega
structure gnsM (l:List Gn):Prop where
 n:l.length≤1000000
 m:∀g∈l,g.mid
 e:(l.map gnE).flatten.length≤800000000
theorem Pg (l:List Gn) (hz:gnsM l):Ac Tryz.prog 48 [.d (Ch l)] (fun r=>r=Oq (Wt l) (Zx l)):=by
 obtain⟨hl,hs,hq⟩:=hz
 have hS:=P1 (l.map gnE) (by omega) (by rw[List.length_map];omega)
 refine acQ 35 Tryz.func48 rfl rfl fun _ _ _=> ?_
 (all_goals(conv=>whnf))
 refine Bt [.s 4 1 33] (fun i:Nat=>i≤l.length∧(l.take i).all Td=true) (fun i=>l.length-i) (fun i=>⟨[(4,C7 4 1 33 Jo ((l.take i).map gnE)),(9,.d (Ch l)),(10,iv l.length),(11,iv i)],[],[(4,(((l.take i).map gnE).length,1,33))]⟩) 0 ⟨by omega,rfl⟩ leQ ?_
 rintro i ⟨hi,ha⟩
 have hml:((l.take i).map gnE).length≤1000000:=by rw[List.length_map,Al];omega
 by_cases hik:i<l.length
 ·have gi:decide ((i:Int)<l.length)=true:=decide_eq_true (by omega)
  obtain⟨x,hg⟩:∃p,l[i]?=some p:=⟨_,Ak hik⟩
  have hm:=hs x (Bk hg)
  have hM:=Sg x hm.s hm.c
  unfold Oq at hM
  cases hv:Td x
  ·rw[hv,if_neg (by simp)] at hM
   rw[show Oq (Wt l) (Zx l)= .tup [Bj,iv 8] by unfold Oq Wt;rw[Wm hg hv,Bool.and_false,if_neg (by simp)]]
   (repeat'((conv=>whnf);first|refine Ab ?_|refine Av asP ?_|refine NIdx.tab (fun _=>rfl) hg ?_|refine Aa hM C2 ?_|exact zE))
  ·rw[hv,if_pos rfl] at hM
   have hs':=No gnE hg
   (repeat'((conv=>whnf);first|refine Ae ?_|refine Av asP ?_|refine NIdx.tab (fun _=>rfl) hg ?_|refine Aa hM C2 ?_|refine A8 Jo (gnE x) ?_|(with_reducible refine NInt.i64 ?_)));(all_goals(conv=>whnf))
   refine⟨i+1,⟨by omega,Eo Td hg hv ha⟩,by omega,?_⟩
   rw[hs']
   exact leQ
 ·have gi:decide ((i:Int)<l.length)=false:=decide_eq_false (by omega)
  obtain rfl:i=l.length:=by omega
  rw[List.take_length] at ha⊢
  by_cases h0:l=[]
  ·subst h0
   (repeat'((conv=>whnf);first|refine Ab ?_|refine Ae ?_|exact zE))
  ·have gj:(((l.map gnE).length:Int)==0)=false:=by rw[beq_eq_false_iff_ne,List.length_map];intro h;exact h0 (List.eq_nil_of_length_eq_zero (by omega))
   rw[show Oq (Wt l) (Zx l)= .tup [Cg 0 5 (Zx l),iv 0] by unfold Oq Wt;rw[ha,Bool.and_true,if_pos (by cases l with|nil=>exact absurd rfl h0|cons _ _=>rfl)]]
   (repeat'((conv=>whnf);first|refine Ay asP ?_|refine Aa hS C2 ?_|exact zE))
theorem Zy (l:List Gn) (hz:gnsM l):Ac Tryz.prog 52 [.d (Ch l)] (fun r=>r=bv (Wt l)):=by
 have hM:=Pg l hz
 unfold Oq at hM
 cases hv:Wt l
 all_goals
  rw[hv] at hM
  first|rw[if_pos rfl] at hM|rw[if_neg (by simp)] at hM
  refine acQ 12 Tryz.func52 rfl rfl fun _ _ _=> ?_
  (repeat'((conv=>whnf);refine Aa hM C2 ?_));(all_goals(conv=>whnf))
  all_goals exact zE
theorem Sh {k:Int} {l:List UInt8} (h:An k l=true):I4 k (chS k l)=k∧Fv k (chS k l)=l∧Fx k (chS k l)=0:=by
 have:=uV h
 unfold J0 at this
 rwa[if_pos h] at this
theorem Ui:∀{a b:List (List UInt8)},F6 (a++b)=true→F6 a=true
 |[],_,_=>rfl
 |[_],_,_=>rfl
 |x::y::r,b,h=>by
  have h':(decide (Eb x y<0)&&F6 (y::r++b))=true:=h
  rw[Ap] at h'
  rw[F6,h'.1,Ui h'.2];rfl
theorem BU {a:Att} (_:atV a=true) (hs:a.sm):∃t:Tv,t.ok∧atE a=t.enc:=by
 have k1:=Gm a.oid
 have:=hs.o
 have:=hs.v
 have k2:=A2 0 6 false (Cd a.oid) (by omega)
 exact⟨⟨0,16,true,Ao 0 6 false (Cd a.oid)++a.val⟩,⟨by show(0:Nat)≤3;omega,by show(16:Nat)≤30;omega,by show(_++_:List UInt8).length≤_;rw[Aj];omega⟩,rfl⟩
theorem xL {a:Att} (h:atV a=true) (hs:a.sm):atO (atE a)=some a:=by
 obtain⟨h1,h2⟩:=Wk h
 have k1:=Gm a.oid
 have o1:=hs.o
 have o2:=hs.v
 obtain⟨y,yo,ye⟩:=(sB h2).tv (by omega)
 obtain⟨x,hx⟩:∃x:Tv,x=⟨0,6,false,Cd a.oid⟩:=⟨_,rfl⟩
 have xo:x.ok:=by subst hx;exact⟨by show(0:Nat)≤3;omega,by show(6:Nat)≤30;omega,by show(Cd a.oid).length≤_;omega⟩
 have e:atE a=Ao 0 16 true (Dg [x,y]):=by
  unfold atE
  rw[D1,D1,←ye]
  subst hx
  show _=Ao 0 16 true (Ao 0 6 false (Cd a.oid)++(a.val++[]))
  rw[List.append_nil]
 have hl:(Dg [x,y]).length≤2147483600:=by
  have:=A2 0 6 false (Cd a.oid) (by omega)
  rw[D1,D1,←ye]
  subst hx
  show(Ao 0 6 false (Cd a.oid)++(a.val++[])).length≤_
  simp only[Aj,List.length_nil];omega
 have hp:=sC x y xo yo hl
 obtain⟨e1,e2⟩:=dD h1
 have xv:x.v=Cd a.oid:=by subst hx;rfl
 have xi:(x.el 0).isB 0 6 false=true:=by subst hx;rfl
 rw[xv,if_pos ⟨xi,e2⟩,e1,←ye,←e] at hp
 unfold atO
 rw[hp]
 simp only
 rw[if_pos h2]
def mP:List (List UInt8)→List (List UInt8)→List Att→Option (List Att)
 |[],_,out=>some out
 |p::r,ps,out=>match atO p with
  |none=>none
  |some a=>if F6 (ps++[p])=true then mP r (ps++[p]) (out++[a]) else none
theorem Zz (b:List UInt8):∀(l:List El) (ps:List (List UInt8)) (out:List Att),(Po b l ps out).1=mP (l.map (elO b)) ps out
 |[],_,_=>rfl
 |x::r,ps,out=>by
  rw[Po,List.map_cons,mP]
  cases atO (elO b x) with
  |none=>rfl
  |some a=>
   simp only
   by_cases h:F6 (ps++[elO b x])=true
   ·rw[if_pos h,if_pos h];exact Zz b r _ _
   ·rw[if_neg h,if_neg h]
theorem Z0:∀{r:List Att} {ps:List (List UInt8)} {out:List Att},r.all atV=true→(∀a∈r,a.sm)→F6 (ps++r.map atE)=true→mP (r.map atE) ps out=some (out++r)
 |[],_,_,_,_,_=>by simp[mP]
 |a::r,ps,out,h,hs,ho=>by
  rw[List.all_cons,Ap] at h
  rw[List.map_cons] at ho⊢
  have ho':F6 ((ps++[atE a])++r.map atE)=true:=by rw[List.append_assoc];exact ho
  rw[mP,xL h.1 (hs a (by simp))]
  simp only
  rw[if_pos (Ui ho'),Z0 h.2 (fun k hk=>hs k (by simp[hk])) ho',List.append_assoc];rfl
theorem xM {r:List Att} (h:r.all atV=true) (hs:∀a∈r,a.sm):∃ts:List Tv,(∀t∈ts,t.ok)∧r.map atE=ts.map Tv.enc:=
 P6 fun p hp=>by
  obtain⟨a,ha,rfl⟩:=List.mem_map.1 hp
  exact BU (List.all_eq_true.1 h a ha) (hs a ha)
theorem Nr {r:List Att} (h:Ea r=true) (hz:rdnZ r):(Mc (C8 r)).1=some r:=by
 obtain⟨h0,h1,h2⟩:=Wl h
 obtain⟨hl,hs,hq⟩:=hz
 obtain⟨ts,t1,t2⟩:=xM h1 hs
 have hf:(r.map atE).flatten=Dg ts:=by rw[t2,Np]
 obtain⟨q,e1,e2⟩:=Lc (c:=0) (n:=17) ts (by omega) (by omega) t1 (by rw[←hf];omega)
 unfold Mc C8
 rw[hf,e1,xE,if_neg (by simp)]
 have hne:els q ts≠[]:=by
  intro e
  have:=congrArg List.length e
  rw[gP] at this
  have h3:=congrArg List.length t2
  rw[List.length_map,List.length_map] at h3
  exact h0 (List.eq_nil_of_length_eq_zero (by rw[h3];exact this))
 simp only
 rw[if_neg hne,Zz,e2,←t2]
 exact Z0 h1 hs h2
def nmP:List (List UInt8)→List (List Att)→Option (List (List Att))
 |[],out=>some out
 |p::r,out=>match(Mc p).1 with
  |none=>none
  |some a=>nmP r (out++[a])
theorem gX (b:List UInt8):∀(l:List El) (out:List (List Att)),(nmL b l out).1=nmP (l.map (elO b)) out
 |[],_=>rfl
 |x::r,out=>by
  rw[nmL,List.map_cons,nmP]
  generalize Mc (elO b x)=q
  obtain⟨o,c,p⟩:=q
  cases o with
  |none=>rfl
  |some a=>exact gX b r _
theorem gY:∀{n out:List (List Att)},n.all Ea=true→(∀r∈n,rdnZ r)→nmP (n.map C8) out=some (out++n)
 |[],_,_,_=>by simp[nmP]
 |r::n,out,h,hs=>by
  rw[List.all_cons,Ap] at h
  have h1:=hs r (by simp)
  rw[List.map_cons,nmP,Nr h.1 h1]
  simp only
  rw[gY h.2 (fun k hk=>hs k (by simp[hk])),List.append_assoc];rfl
theorem BW {r:List Att} (hz:rdnZ r):∃t:Tv,t.ok∧C8 r=t.enc:=by
 have hq:=hz.e
 exact⟨⟨0,17,true,(r.map atE).flatten⟩,⟨by show(0:Nat)≤3;omega,by show(17:Nat)≤30;omega,by show(r.map atE).flatten.length≤_;omega⟩,rfl⟩
theorem xN {n:List (List Att)} (h:nmV n=true) (hs:nmZ n):(nmR (nmE n)).1=some n:=by
 obtain⟨ts,t1,t2⟩:=P6 (l:=n.map C8) fun p hp=>by
  obtain⟨r,hr,rfl⟩:=List.mem_map.1 hp
  exact BW (hs.r r hr)
 have hf:(n.map C8).flatten=Dg ts:=by rw[t2,Np]
 have he:=hs.e
 obtain⟨q,e1,e2⟩:=Lc (c:=0) (n:=16) ts (by omega) (by omega) t1 (by rw[←hf];omega)
 unfold nmR nmE
 rw[hf,e1,nmQ,if_neg (by simp)]
 simp only
 rw[gX,e2,←t2]
 exact gY h hs.r
theorem Si {ts:List Tv} (h:∀t∈ts,t.ok):Eu (Dg ts)=ts.map Tv.enc:=by
 have hp:=Lb ts (Dg ts) [] (Dg ts).length h (by rw[List.take_length];rfl) (Nat.le_refl _)
 have he:=P5 ts (Dg ts) [] (Dg ts).length (by rw[List.take_length];rfl) (Nat.le_refl _)
 rw[List.length_nil] at hp he
 unfold Eu
 rw[hp,if_neg (by simp)]
 exact he
theorem Sj {t:Tv} (h:t.ok) (n:Nat):Cy t.enc n=if t.c=2∧t.n=n∧t.k=true then some t.v else none:=by
 unfold Cy
 rw[He h]
 simp only
 have hi:(t.el 0).isB 2 n true=decide (t.c=2∧t.n=n∧t.k=true):=by
  unfold El.isB Tv.el
  rw[Bool.eq_iff_iff]
  simp only[Ap,beq_iff_eq,decide_eq_true_eq]
  exact⟨fun⟨⟨a,b⟩,c⟩=>⟨a,c,b⟩,fun⟨a,c,b⟩=>⟨⟨a,b⟩,c⟩⟩
 have hv:(t.enc.drop (0+t.hd)).take (0+t.enc.length-(0+t.hd))=t.v:=by
  rw[Nat.zero_add,Nat.zero_add,t.body]
  exact List.take_of_length_le (by rw[t.len];omega)
 by_cases hc:t.c=2∧t.n=n∧t.k=true
 ·rw[hi,decide_eq_true hc,if_neg (by simp),if_pos hc]
  show some ((t.enc.drop (0+t.hd)).take (0+t.enc.length-(0+t.hd)))=_
  rw[hv]
 ·rw[hi,decide_eq_false hc,if_pos (by simp),if_neg hc]
theorem Hg {n:Nat} {v:List UInt8} (hn:n≤30) (hv:v.length≤2147483600):Cy (Ao 2 n true v) n=some v:=by
 have:=Sj (t:=⟨2,n,true,v⟩) ⟨by show(2:Nat)≤3;omega,hn,by show v.length≤_;omega⟩ n
 rw[if_pos ⟨rfl,rfl,rfl⟩] at this
 exact this
def fiB (k:Int) (l:List UInt8):Bool:=An k l&&(!(l==[])&& !(k==22||k==26))
theorem BY {k:Int} {l:List UInt8} (h:An k l=true) (hl:l.length≤500000000):∃n:Nat,k=n∧Tv.ok ⟨0,n,false,chS k l⟩∧txE k l=Tv.enc ⟨0,n,false,chS k l⟩:=by
 obtain⟨n,h1,h2,rfl⟩:=Zk h
 have h4:=Ld h
 exact⟨n,rfl,⟨by show(0:Nat)≤3;omega,h2,by show(chS (n:Int) l).length≤_;omega⟩,by unfold txE;rw[Int.toNat_natCast];rfl⟩
theorem gZ {k:Int} {l:List UInt8} (h:An k l=true) (hl:l.length≤500000000):Pn (txE k l)=k∧Wi (txE k l)=l∧dW (txE k l)=true:=by
 obtain⟨n,hk,ho,he⟩:=BY h hl
 have hc:=Sh h
 generalize ht:(⟨0,n,false,chS k l⟩:Tv)=t at ho he
 have h1:=He ho
 have hs:R9 t.enc=true:=by unfold R9;rw[h1];subst ht;rfl
 have hcon:Wh t.enc=chS k l:=by
  unfold Wh
  rw[h1]
  show(t.enc.drop (0+t.hd)).take (0+t.enc.length-(0+t.hd))=_
  rw[Nat.zero_add,Nat.zero_add,t.body,List.take_of_length_le (by rw[t.len];omega)]
  subst ht;rfl
 have hn:(Bb t.enc).x.n=n:=by rw[h1];subst ht;rfl
 rw[he]
 unfold Pn Wi dW
 rw[hs,hcon,hn,←hk]
 exact⟨hc.1,hc.2.1,by rw[hc.2.2];rfl⟩
theorem Wu {k:Int} {l:List UInt8} (h:fiB k l=true) (hl:l.length≤500000000):Gp (txE k l)=true∧pK (txE k l)=k∧pV (txE k l)=l:=by
 have h':=h
 unfold fiB at h
 rw[Ap] at h
 obtain⟨s1,s2,s3⟩:=gZ h.1 hl
 have hd:Gp (txE k l)=true:=by
  unfold Gp
  rw[s1,s2,s3,h.2];rfl
 refine⟨hd,?_,?_⟩
 ·unfold pK;rw[if_pos hd,s1]
 ·unfold pV;rw[if_pos hd,s2]
theorem sO {k:Int} {l:List UInt8} (hv:An k l=true) (h:fiB k l=false) (hl:l.length≤500000000):Gp (txE k l)=false:=by
 cases hd:Gp (txE k l) with
 |false=>rfl
 |true=>
  exfalso
  obtain⟨s1,s2,s3⟩:=gZ hv hl
  unfold Gp at hd
  rw[s1,s2,s3] at hd
  unfold fiB at h
  rw[hv] at h
  rw[h] at hd;cases hd
def Me (g:Gn):Bool:= !(g.k==5)||((zT g.ak g.av||fiB g.ak g.av)&&fiB g.pk g.pv)
def gnW (g:Gn):Bool:=Cl g&&(Pq g&&((Gq g).isSome&&Me g))
theorem eB {k:Int} {l:List UInt8}:zT k l=true↔k=0∧l=[]:=by unfold zT;simp
theorem Z1 {n:Nat} {c:List UInt8} (hn:n≤8) (hl:c.length≤2147483600):Se (Ao 2 n (Dt n) c)=if okP (rdP n c)=true then some (rdP n c).1 else none:=by
 obtain⟨t,ht⟩:∃t:Tv,t=⟨2,n,Dt n,c⟩:=⟨_,rfl⟩
 have hOk:t.ok:=by subst ht;exact⟨by show(2:Nat)≤3;omega,by show n≤30;omega,by show c.length≤_;omega⟩
 have he:Ao 2 n (Dt n) c=t.enc:=by subst ht;rfl
 have hv:t.v=c:=by subst ht;rfl
 have htag:Sd (t.el 0)=true:=by
  unfold Sd;subst ht
  show((2:Nat)==2&&(decide (n≤8)&&(Dt n==Dt n)))=true
  rw[decide_eq_true hn];simp
 have hn':(t.el 0).n=n:=by subst ht;rfl
 have hb:(t.enc.drop (t.el 0).body).take ((t.el 0).stop-(t.el 0).body)=c:=by
  show(t.enc.drop (0+t.hd)).take (0+t.enc.length-(0+t.hd))=_
  rw[Nat.zero_add,Nat.zero_add,t.body,List.take_of_length_le (by rw[t.len];omega),hv]
 rw[he]
 unfold Se
 rw[He hOk]
 cases ho:okP (rdP n c)
 ·rw[if_neg (by simp)]
  exact(gV htag (by rw[hn',hb];exact ho)).1
 ·rw[if_pos rfl]
  have:=Zw (b:=t.enc) htag (by rw[hn',hb];exact ho)
  rw[this,hn',hb]
theorem iA {c d n m:Nat} {j k:Bool} {u v:List UInt8} (hc:c≤3) (hn:n≤30) (hd:d≤3) (hm:m≤30) (hu:u.length≤500000000) (hv:v.length≤500000000):Eu (Ao c n j u++Ao d m k v)=[Ao c n j u,Ao d m k v]:=by
 have:=Si (ts:=[⟨c,n,j,u⟩,⟨d,m,k,v⟩]) (fun t ht=>by
  rcases List.mem_cons.1 ht with rfl|ht
  ·exact⟨hc,hn,by show u.length≤_;omega⟩
  ·rw[List.mem_singleton.1 ht];exact⟨hd,hm,by show v.length≤_;omega⟩)
 rw[D1,D1] at this
 show Eu (Tv.enc ⟨c,n,j,u⟩++Tv.enc ⟨d,m,k,v⟩)=_
 have e:Dg ([]:List Tv)=[]:=rfl
 rw[e,List.append_nil] at this
 exact this
theorem BZ {c n:Nat} {j:Bool} {u:List UInt8} (hc:c≤3) (hn:n≤30) (hu:u.length≤500000000):Eu (Ao c n j u)=[Ao c n j u]:=by
 have:=Si (ts:=[⟨c,n,j,u⟩]) (fun t ht=>by
  rw[List.mem_singleton.1 ht];exact⟨hc,hn,by show u.length≤_;omega⟩)
 rw[D1] at this
 have e:Dg ([]:List Tv)=[]:=rfl
 rw[e,List.append_nil] at this
 exact this
theorem xO {oid by':List UInt8} (h:E0 oid=true) (hl:oid.length≤3000000) (hb:by'.length≤3000000):Zs 0 (Ao 0 6 false (Cd oid)++Ao 2 0 true by')=(⟨0,oid,[],by',[],0,[],0,[]⟩,true):=by
 have k1:=Gm oid
 unfold Zs
 rw[iA (by omega) (by omega) (by omega) (by omega) (by omega) (by omega)]
 show dZ 0 _ _=_
 obtain⟨t,ht⟩:∃t:Tv,t=⟨0,6,false,Cd oid⟩:=⟨_,rfl⟩
 have hOk:t.ok:=by subst ht;exact⟨by show(0:Nat)≤3;omega,by show 6≤30;omega,by show(Cd oid).length≤_;omega⟩
 have he:Ao 0 6 false (Cd oid)=t.enc:=by subst ht;rfl
 have hv:t.v=Cd oid:=by subst ht;rfl
 have hi:(t.el 0).isB 0 6 false=true:=by subst ht;rfl
 have hin:=Hg (n:=0) (v:=by') (by omega) (by omega)
 obtain⟨e1,e2⟩:=dD h
 unfold dZ
 rw[he,He hOk]
 simp only
 rw[hi,if_neg (by simp)]
 have hd:t.enc.drop (t.el 0).body=Cd oid:=by
  show t.enc.drop (0+t.hd)=_
  rw[Nat.zero_add,t.body,hv]
 rw[hd,e1,e2,hin,I1 hin]
 rfl
theorem iB {K:Int} {V:List UInt8} (ak:Int) (av:List UInt8) (hv:An K V=true) (hl:V.length≤3000000):Oo 5 (Ao 2 1 true (txE K V)) ak av=(⟨5,[],[],[],[],ak,av,pK (txE K V),pV (txE K V)⟩,fiB K V):=by
 have h4:=Hw hv hl
 have hin:=Hg (n:=1) (v:=txE K V) (by omega) (by omega)
 unfold Oo
 rw[hin,I1 hin]
 have:Gp (txE K V)=fiB K V:=by
  cases hf:fiB K V
  ·exact sO hv hf (by omega)
  ·exact(Wu hf (by omega)).1
 rw[this];rfl
theorem iC {g:Gn} {c:List UInt8} (hk:g.k=5) (hc:Zu g=some c) (ha:g.av.length≤3000000) (hp:g.pv.length≤3000000):(Pp 5 c).2=((zT g.ak g.av||fiB g.ak g.av)&&fiB g.pk g.pv)∧(((zT g.ak g.av||fiB g.ak g.av)&&fiB g.pk g.pv)=true→Pp 5 c=(⟨5,[],[],[],[],g.ak,g.av,g.pk,g.pv⟩,true)):=by
 obtain⟨k,oid,tx,by',nm,ak,av,pk,pv⟩:=g
 unfold Zu at hc
 simp only at hk hc ha hp⊢
 by_cases hh:((zT ak av||An ak av)&&An pk pv)=true
 ·rw[if_pos hh] at hc
  rw[Ap] at hh
  obtain⟨h1,h2⟩:=hh
  have hl2:=Hw h2 hp
  obtain rfl:=Option.some.inj hc
  have fin:fiB pk pv=true→(⟨5,[],[],[],[],ak,av,pK (txE pk pv),pV (txE pk pv)⟩:Gn)=⟨5,[],[],[],[],ak,av,pk,pv⟩:=fun h=>by
   obtain⟨-,q1,q2⟩:=Wu h (by omega)
   rw[q1,q2]
  cases hz:zT ak av
  ·rw[hz,Bool.false_or] at h1
   have hl1:=Hw h1 ha
   rw[if_neg (by simp),Bool.false_or]
   unfold Pp
   rw[iA (by omega) (by omega) (by omega) (by omega) (by omega) (by omega)]
   have hin:=Hg (n:=0) (v:=txE ak av) (by omega) (by omega)
   show(if(Cy (Ao 2 0 true (txE ak av)) 0).isSome&&Gp (inn (Ao 2 0 true (txE ak av)) 0) then Oo 5 (Ao 2 1 true (txE pk pv)) (pK (inn (Ao 2 0 true (txE ak av)) 0)) (pV (inn (Ao 2 0 true (txE ak av)) 0)) else(gz,false)).2=_∧(_→(if(Cy (Ao 2 0 true (txE ak av)) 0).isSome&&Gp (inn (Ao 2 0 true (txE ak av)) 0) then Oo 5 (Ao 2 1 true (txE pk pv)) (pK (inn (Ao 2 0 true (txE ak av)) 0)) (pV (inn (Ao 2 0 true (txE ak av)) 0)) else(gz,false))=_)
   rw[hin,I1 hin]
   cases hf:fiB ak av
   ·rw[sO h1 hf (by omega),if_neg (by simp)]
    exact⟨rfl,fun h=>by cases h⟩
   ·obtain⟨d1,d2,d3⟩:=Wu hf (by omega)
    rw[d1,d2,d3,if_pos (by rfl),iB _ _ h2 hp]
    exact⟨rfl,fun h=>by
     have h:fiB pk pv=true:=h
     rw[fin h,h]⟩
  ·obtain⟨z1,z2⟩:=eB.1 hz
   subst z1 z2
   rw[if_pos rfl,Bool.true_or,List.nil_append]
   unfold Pp
   rw[BZ (by omega) (by omega) (by omega)]
   show(Oo 5 _ 0 []).2=_∧(_→Oo 5 _ 0 []=_)
   rw[iB _ _ h2 hp]
   exact⟨rfl,fun h=>by
    have h:fiB pk pv=true:=h
    rw[fin h,h]⟩
 ·rw[if_neg hh] at hc;cases hc
theorem Uj (g:Gn):Cl g=true↔(g.k=0∨g.k=8∨g.oid=[])∧(g.k=1∨g.k=2∨g.k=6∨g.tx=[])∧(g.k=0∨g.k=3∨g.k=7∨g.by'=[])∧(g.k=4∨g.nm=[])∧(g.k=5∨(g.ak=0∧g.av=[])∧(g.pk=0∧g.pv=[])):=by
 unfold Cl alB
 simp only[Ap,Bool.or_eq_true,beq_iff_eq,eB]
 have l0:∀{α:Type} (l:List α),((l.length:Int)=0↔l=[]):=fun l=>⟨fun h=>List.eq_nil_of_length_eq_zero (by omega),fun h=>by rw[h];rfl⟩
 rw[l0,l0]
 constructor
 ·rintro⟨h1,h2,h3,h4,h5⟩
  refine⟨?_,?_,?_,h4,h5⟩
  ·rcases h1 with(h|h)|h<;>simp[h]
  ·rcases h2 with(h|h|h)|h<;>simp[h]
  ·rcases h3 with(h|h|h)|h<;>simp[h]
 ·rintro⟨h1,h2,h3,h4,h5⟩
  refine⟨?_,?_,?_,h4,h5⟩
  ·rcases h1 with h|h|h<;>simp[h]
  ·rcases h2 with h|h|h|h<;>simp[h]
  ·rcases h3 with h|h|h|h<;>simp[h]
theorem xP {g:Gn} {n:Nat} {c:List UInt8} (hk:g.k=n) (ha:Cl g=true) (hc:Gq g=some c) (hp:Me g=true) (hs:g.sm):rdP n c=(g,true):=by
 obtain⟨k,oid,tx,by',nm,ak,av,pk,pv⟩:=g
 obtain⟨s1,s2,s3,s4,s5,s6⟩:=hs
 simp only at hk s1 s2 s3 s4 s5 s6
 subst hk
 rw[Uj] at ha
 obtain⟨a1,a2,a3,a4,a5⟩:=ha
 simp only at a1 a2 a3 a4 a5
 unfold Gq at hc
 simp only at hc
 rcases(by
  obtain⟨m,hm,e⟩:=Ot (g:=⟨(n:Int),oid,tx,by',nm,ak,av,pk,pv⟩) (c:=c) hc
  simp only at e
  omega:n=0∨n=1∨n=2∨n=3∨n=4∨n=5∨n=6∨n=7∨n=8) with rfl|rfl|rfl|rfl|rfl|rfl|rfl|rfl|rfl
 ·obtain rfl:tx=[]:=by simpa using a2
  obtain rfl:nm=[]:=by simpa using a4
  obtain⟨⟨rfl,rfl⟩,rfl,rfl⟩:(ak=0∧av=[])∧pk=0∧pv=[]:=by simpa using a5
  rw[if_pos (by rfl)] at hc
  by_cases ho:E0 oid=true
  ·rw[if_pos ho] at hc
   obtain rfl:=Option.some.inj hc
   exact xO ho s1 s3
  ·rw[if_neg ho] at hc;cases hc
 ·obtain rfl:oid=[]:=by simpa using a1
  obtain rfl:by'=[]:=by simpa using a3
  obtain rfl:nm=[]:=by simpa using a4
  obtain⟨⟨rfl,rfl⟩,rfl,rfl⟩:(ak=0∧av=[])∧pk=0∧pv=[]:=by simpa using a5
  rw[if_neg (by decide),if_pos (by decide)] at hc
  by_cases ho:An 22 tx=true
  ·rw[if_pos ho] at hc
   obtain rfl:=Option.some.inj hc
   obtain⟨-,e2,e3⟩:=Sh ho
   show((⟨1,[],Fv 22 (chS 22 tx),[],[],0,[],0,[]⟩:Gn),Fx 22 (chS 22 tx)==0)=_
   rw[e2,e3];rfl
  ·rw[if_neg ho] at hc;cases hc
 ·obtain rfl:oid=[]:=by simpa using a1
  obtain rfl:by'=[]:=by simpa using a3
  obtain rfl:nm=[]:=by simpa using a4
  obtain⟨⟨rfl,rfl⟩,rfl,rfl⟩:(ak=0∧av=[])∧pk=0∧pv=[]:=by simpa using a5
  rw[if_neg (by decide),if_pos (by decide)] at hc
  by_cases ho:An 22 tx=true
  ·rw[if_pos ho] at hc
   obtain rfl:=Option.some.inj hc
   obtain⟨-,e2,e3⟩:=Sh ho
   show((⟨2,[],Fv 22 (chS 22 tx),[],[],0,[],0,[]⟩:Gn),Fx 22 (chS 22 tx)==0)=_
   rw[e2,e3];rfl
  ·rw[if_neg ho] at hc;cases hc
 ·obtain rfl:oid=[]:=by simpa using a1
  obtain rfl:tx=[]:=by simpa using a2
  obtain rfl:nm=[]:=by simpa using a4
  obtain⟨⟨rfl,rfl⟩,rfl,rfl⟩:(ak=0∧av=[])∧pk=0∧pv=[]:=by simpa using a5
  rw[if_neg (by decide),if_neg (by decide),if_pos (by decide)] at hc
  obtain rfl:=Option.some.inj hc
  rfl
 ·obtain rfl:oid=[]:=by simpa using a1
  obtain rfl:tx=[]:=by simpa using a2
  obtain rfl:by'=[]:=by simpa using a3
  obtain⟨⟨rfl,rfl⟩,rfl,rfl⟩:(ak=0∧av=[])∧pk=0∧pv=[]:=by simpa using a5
  rw[if_neg (by decide),if_neg (by decide),if_neg (by decide),if_pos (by rfl)] at hc
  by_cases ho:nmV nm=true
  ·rw[if_pos ho] at hc
   obtain rfl:=Option.some.inj hc
   have:=xN ho s4
   show Zr 4 (nmE nm)=_
   unfold Zr
   generalize nmR (nmE nm)=q at this
   obtain⟨o,cc,p⟩:=q
   simp only at this
   subst this
   rfl
  ·rw[if_neg ho] at hc;cases hc
 ·obtain rfl:oid=[]:=by simpa using a1
  obtain rfl:tx=[]:=by simpa using a2
  obtain rfl:by'=[]:=by simpa using a3
  obtain rfl:nm=[]:=by simpa using a4
  rw[if_neg (by decide),if_neg (by decide),if_neg (by decide),if_neg (by decide),if_pos (by rfl)] at hc
  exact(iC (g:=⟨((5:Nat):Int),[],[],[],[],ak,av,pk,pv⟩) rfl hc s5 s6).2 hp
 ·obtain rfl:oid=[]:=by simpa using a1
  obtain rfl:by'=[]:=by simpa using a3
  obtain rfl:nm=[]:=by simpa using a4
  obtain⟨⟨rfl,rfl⟩,rfl,rfl⟩:(ak=0∧av=[])∧pk=0∧pv=[]:=by simpa using a5
  rw[if_neg (by decide),if_pos (by decide)] at hc
  by_cases ho:An 22 tx=true
  ·rw[if_pos ho] at hc
   obtain rfl:=Option.some.inj hc
   obtain⟨-,e2,e3⟩:=Sh ho
   show((⟨6,[],Fv 22 (chS 22 tx),[],[],0,[],0,[]⟩:Gn),Fx 22 (chS 22 tx)==0)=_
   rw[e2,e3];rfl
  ·rw[if_neg ho] at hc;cases hc
 ·obtain rfl:oid=[]:=by simpa using a1
  obtain rfl:tx=[]:=by simpa using a2
  obtain rfl:nm=[]:=by simpa using a4
  obtain⟨⟨rfl,rfl⟩,rfl,rfl⟩:(ak=0∧av=[])∧pk=0∧pv=[]:=by simpa using a5
  rw[if_neg (by decide),if_neg (by decide),if_pos (by decide)] at hc
  obtain rfl:=Option.some.inj hc
  rfl
 ·obtain rfl:tx=[]:=by simpa using a2
  obtain rfl:by'=[]:=by simpa using a3
  obtain rfl:nm=[]:=by simpa using a4
  obtain⟨⟨rfl,rfl⟩,rfl,rfl⟩:(ak=0∧av=[])∧pk=0∧pv=[]:=by simpa using a5
  rw[if_neg (by decide),if_neg (by decide),if_neg (by decide),if_neg (by decide),if_neg (by decide),if_pos (by rfl)] at hc
  by_cases ho:E0 oid=true
  ·rw[if_pos ho] at hc
   obtain rfl:=Option.some.inj hc
   obtain⟨e1,e2⟩:=dD ho
   show((⟨8,odT (Cd oid),[],[],[],0,[],0,[]⟩:Gn),(odC (Cd oid):Int)==0)=_
   rw[e1,e2];rfl
  ·rw[if_neg ho] at hc;cases hc
theorem P9 (g:Gn):gnW g=true↔Cl g=true∧Pq g=true∧(∃c,Gq g=some c)∧Me g=true:=by
 unfold gnW
 simp only[Ap,Option.isSome_iff_exists]
theorem Ns {g:Gn} (h:gnW g=true) (hs:g.mid):Se (gnE g)=some g:=by
 obtain⟨h1,h2,⟨c,h3⟩,h4⟩:=(P9 g).1 h
 obtain⟨n,hn,hk⟩:=Ot h3
 have hl:=hs.c
 rw[h3] at hl
 have hl:c.length≤700000:=hl
 have e:gnE g=Ao 2 n (Dt n) c:=by unfold gnE;rw[h3,hk];rfl
 have hr:=xP hk h1 h3 h4 hs.s
 rw[e,Z1 hn (by omega),hr]
 have:okP (g,true)=true:=by unfold okP;rw[h2];rfl
 rw[if_pos this]
theorem sP {g:Gn} (hs:g.mid):Td g=gnW g:=by
 cases hw:gnW g
 ·cases hv:Td g with
  |false=>rfl
  |true=>
   exfalso
   unfold Td at hv
   simp only[Ap] at hv
   obtain⟨v1,v2,v3,v4⟩:=hv
   obtain⟨c,h3⟩:=Option.isSome_iff_exists.1 v3
   obtain⟨n,hn,hk⟩:=Ot h3
   have hp:Me g=false:=by
    unfold gnW at hw;rw[v1,v2,v3] at hw;exact hw
   have h5:g.k=5:=by
    unfold Me at hp
    simp only[Bool.or_eq_false_iff,Bool.not_eq_false',beq_iff_eq] at hp
    exact hp.1
   have hl:=hs.c
   rw[h3] at hl
   have hl:c.length≤700000:=hl
   have e:gnE g=Ao 2 5 (Dt (5:Nat)) c:=by unfold gnE;rw[h3,h5];rfl
   have hc:Zu g=some c:=by
    unfold Gq at h3
    rw[h5,if_neg (by decide),if_neg (by decide),if_neg (by decide),if_neg (by decide),if_pos rfl] at h3
    exact h3
   have hq:=(iC h5 hc hs.s.a hs.s.p).1
   have:((zT g.ak g.av||fiB g.ak g.av)&&fiB g.pk g.pv)=false:=by
    unfold Me at hp;rw[h5] at hp;exact hp
   rw[this] at hq
   rw[e,Z1 (by omega) (by omega)] at v4
   have ho:okP (rdP 5 c)=false:=by
    show((Pp 5 c).2&&Pq (Pp 5 c).1)=false
    rw[hq];rfl
   rw[ho] at v4;cases v4
 ·obtain⟨h1,h2,⟨c,h3⟩,h4⟩:=(P9 g).1 hw
  unfold Td
  rw[Ns hw hs,h1,h2,h3];rfl
end Go.Proofs.YtaoahmplnckhpaaGreatDoor
