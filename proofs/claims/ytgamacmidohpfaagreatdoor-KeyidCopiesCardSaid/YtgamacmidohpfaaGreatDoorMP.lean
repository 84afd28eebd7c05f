/- MP: the texts GenM GenR DnP GenL GenX GenY, one behind the other. No condition but what each lemma says. -/
import Derived.Test.YtgamacmidohpfaaGreatDoorMO
import Derived.Test.YtgamacmidohpfaaGreatDoorGEncPlain
set_option maxRecDepth 100000
set_option maxHeartbeats 16000000
namespace Go.Proofs.YtgamacmidohpfaaGreatDoor
open Go.RowKit
def rdP (n:Nat) (c:List UInt8):Gn×Bool:=match n with
 |0=>Na 0 c
 |1=>(⟨1,[],Cm 22 c,[],[],0,[],0,[]⟩,Dl 22 c==0)
 |2=>(⟨2,[],Cm 22 c,[],[],0,[],0,[]⟩,Dl 22 c==0)
 |3=>(⟨3,[],[],c,[],0,[],0,[]⟩,true)
 |4=>Ph 4 c
 |5=>Ka 5 c
 |6=>(⟨6,[],Cm 22 c,[],[],0,[],0,[]⟩,Dl 22 c==0)
 |7=>(⟨7,[],[],c,[],0,[],0,[]⟩,true)
 |8=>(⟨8,odT c,[],[],[],0,[],0,[]⟩,(odC c:Int)==0)
 |_=>(gz,false)
def Pj (x:El):Bool:=x.c==2&&(decide (x.n≤8)&&(x.k==Dy x.n))
def okP (p:Gn×Bool):Bool:=p.2&&Ri p.1
def Uj (b:List UInt8) (r:ElR):Option Gn:=if r.code≠0 then none else if Pj r.x=false then none else if okP (rdP r.x.n ((b.drop r.x.body).take (r.x.stop-r.x.body)))=true then some (rdP r.x.n ((b.drop r.x.body).take (r.x.stop-r.x.body))).1 else none
def K5 (b:List UInt8):Option Gn:=Uj b (Bh b)
def Yq (r:ElR):Nat×Nat:=if r.code≠0 then(r.code,r.off) else if Pj r.x=false then(3,0) else(6,r.x.body)
def Uk (b:List UInt8):Nat×Nat:=Yq (Bh b)
theorem Ul {b:List UInt8} {x:El} (h:Pj x=false):Uj b ⟨x,0,0⟩=none∧Yq ⟨x,0,0⟩=(3,0):=by
 refine⟨?_,?_⟩
 ·unfold Uj;rw[if_neg (by simp),if_pos h]
 ·unfold Yq;rw[if_neg (by simp),if_pos h]
theorem jD {b:List UInt8} {x:El} (h:Pj x=true) (h2:okP (rdP x.n ((b.drop x.body).take (x.stop-x.body)))=false):Uj b ⟨x,0,0⟩=none∧Yq ⟨x,0,0⟩=(6,x.body):=by
 refine⟨?_,?_⟩
 ·unfold Uj;simp only;rw[if_neg (by simp),if_neg (by rw[h];simp),if_neg (by rw[h2];simp)]
 ·unfold Yq;rw[if_neg (by simp),if_neg (by rw[h];simp)]
theorem bS {b:List UInt8} {x:El} (h:Pj x=true) (h2:okP (rdP x.n ((b.drop x.body).take (x.stop-x.body)))=true):Uj b ⟨x,0,0⟩=some (rdP x.n ((b.drop x.body).take (x.stop-x.body))).1:=by
 unfold Uj;simp only;rw[if_neg (by simp),if_neg (by rw[h];simp),if_pos h2]
def gnR (o:Option Gn) (e:Nat×Nat):AV:=match o with
 |some g=> .tup [gnQ g,erA 0 0]
 |none=> .tup [gnQ gz,erA e.1 e.2]
theorem Yr (b:List UInt8):(Uk b).1≠0∧(Uk b).2≤b.length:=by
 have hF:=D7 b
 unfold Uk Yq
 by_cases h1:(Bh b).code≠0
 ·rw[if_pos h1];exact⟨h1,hF.2.2.1⟩
 rw[if_neg h1]
 split
 ·exact⟨by simp,Nat.zero_le _⟩
 ·have:=hF.1 (Decidable.not_not.1 h1)
  exact⟨by simp,by show(Bh b).x.body≤_;omega⟩
theorem yW (k:Int) (c:List UInt8):(Na k c).1.by'.length≤c.length:=by
 have hm:=fun p=>N8 (c:=c) (p:=p)
 unfold Na
 generalize Dm c=l at hm
 match l with
 |[]=>exact Nat.zero_le _
 |[x]=>exact Nat.zero_le _
 |x::y::z::r=>exact Nat.zero_le _
 |[p,q]=>
  show(Vf k p q).1.by'.length≤_
  unfold Vf
  split
  ·exact Nat.zero_le _
  ·have:=hm q (by simp)
   have:=Pi q 0
   show(inn q 0).length≤_
   omega
theorem yX (k:Int) (c:List UInt8):(Ka k c).1.by'=[]:=by
 unfold Ka
 match Dm c with
 |[]=>rfl
 |[q]=>rfl
 |x::y::z::r=>rfl
 |[p,q]=>
  show(if(Cr p 0).isSome&&F1 (inn p 0) then Ks k q (pK (inn p 0)) (pV (inn p 0)) else(gz,false)).1.by'=[]
  split<;>rfl
theorem yY (k:Int) (c:List UInt8):(Ph k c).1.by'=[]:=by
 unfold Ph;split<;>rfl
theorem tS {C:Cx} {o:Oper} {σ:AS} {t:Nat} {x y:Operand} {k:Int} (h:rdF k=none) (ho:o.op= .lookup 118 x y true) (hd:o.dst=some t) (ht:t<C.N) (hx:σ.eval x=some rdA) (hy:σ.eval y=some (iv k)):
 LA Tryz.prog C o ⟨[],some (t,.tup [.d (.v .nilFunc),bv false]),none,none,[],[],[],[]⟩ σ:=by
 have:=G2 ho hd ht hx hy
 unfold fnA at this
 rwa[h] at this
def GK:Nat→FuncId
 |0=>102
 |3=>104
 |4=>105
 |5=>106
 |7=>104
 |8=>107
 |_=>103
theorem yZ {n:Nat} (hn:n≤8) (c:List UInt8) (hl:c.length≤800000):Ab Tryz.prog (GK n) [ptA n c] (fun r=>r=gbA (rdP n c))∧(rdP n c).1.by'.length≤100000000:=by
 have l0:([]:List UInt8).length≤100000000:=by simp
 rcases(by omega:n=0∨n=1∨n=2∨n=3∨n=4∨n=5∨n=6∨n=7∨n=8) with rfl|rfl|rfl|rfl|rfl|rfl|rfl|rfl|rfl
 ·exact⟨tQ 0 c hl,by have:=yW 0 c;show(Na 0 _).1.by'.length≤_;omega⟩
 ·exact⟨Qj 1 c (by omega),l0⟩
 ·exact⟨Qj 2 c (by omega),l0⟩
 ·exact⟨Uh 3 c (by omega),by show c.length≤_;omega⟩
 ·exact⟨tP 4 c hl,by show(Ph 4 _).1.by'.length≤_;rw[yY];exact l0⟩
 ·exact⟨tR 5 c hl,by show(Ka 5 _).1.by'.length≤_;rw[yX];exact l0⟩
 ·exact⟨Qj 6 c (by omega),l0⟩
 ·exact⟨Uh 7 c (by omega),by show c.length≤_;omega⟩
 ·exact⟨bQ 8 c (by omega),l0⟩
theorem Fy {p:Prop} (h:p:=by first|rfl|(simp only[AV.gives,AV.ren,AV.give,D.un,D.uns,Al,Ak,List.nil_append,List.append_nil,List.cons_append,As,A0,Bb,A5,A2,Ba,Bi,Dn,Cq];first|done|rfl)):p:=h
theorem tT (b:List UInt8) (hb:b.length≤800000) (x:El) (hx:x.body≤x.stop∧x.stop≤b.length) (hn:x.n≤8) (hO:Ab Tryz.prog 30 [.d (Ag false b)] (fun r=>r=erR ⟨x,0,0⟩)):Ab Tryz.prog 55 [.d (Ag false b)] (fun r=>r=gnR (Uj b ⟨x,0,0⟩) (Yq ⟨x,0,0⟩)):=by
 obtain⟨c,n,k,p,body,stop⟩:=x
 simp only at hx hn
 have hlc:((b.drop body).take (stop-body)).length≤b.length:=by rw[Am,Az];omega
 obtain⟨hR,hl⟩:=yZ hn ((b.drop body).take (stop-body)) (by omega)
 have gt:Pj ⟨c,n,k,p,body,stop⟩=(c==2&&(true&&(k==Dy n))):=by unfold Pj;rw[decide_eq_true hn]
 obtain⟨con,hcon,hK⟩:∃con:Bool,Dy (n:Int)=con∧Ab Tryz.prog 71 [iv n] (fun r=>r=bv con):=⟨_,rfl,bR n⟩
 rw[hcon] at gt
 rcases(by omega:n=0∨n=1∨n=2∨n=3∨n=4∨n=5∨n=6∨n=7∨n=8) with rfl|rfl|rfl|rfl|rfl|rfl|rfl|rfl|rfl
 all_goals cases con
 all_goals try(exact absurd hcon (by decide))
 all_goals
  clear hn hcon
  cases hc:(c==2)
  ·have e:=Ul (b:=b) (gt.trans (by rw[hc];rfl))
   rw[e.1,e.2]
   have g1:((c:Int) !=2)=true:=by rw[bne_iff_ne];rw[beq_eq_false_iff_ne] at hc;omega
   refine acQ 70 Tryz.func55 rfl rfl fun _ _ _=> ?_
   (repeat'((conv=>whnf);first|refine Ac ?_|refine Af ?_|refine Av asP ?_|refine Aa hO Fy ?_|refine Aa Fc rfl ?_|refine NLa.mk ⟨_,G2 rfl rfl (ltN rfl) rfl rfl,?_⟩|refine zF ?_|exact zE))
  have g1:((c:Int) !=2)=false:=by rw[bne_eq_false_iff_eq];rw[beq_iff_eq] at hc;omega
  cases k
  all_goals try
   have hk:=gt.trans (show _=false by rw[hc];rfl)
   have e:=Ul (b:=b) hk
   rw[e.1,e.2]
   refine acQ 70 Tryz.func55 rfl rfl fun _ _ _=> ?_
   (repeat'((conv=>whnf);first|refine Ac ?_|refine Af ?_|refine Ax asP ?_|refine Aa hO Fy ?_|refine Aa Fc rfl ?_|refine Aa hK rfl ?_|refine NLa.mk ⟨_,G2 rfl rfl (ltN rfl) rfl rfl,?_⟩|refine zF ?_|exact zE))
  have ht:=gt.trans (show _=true by rw[hc];rfl)
  have eN:=jD (b:=b) ht
  have eY:=bS (b:=b) ht
  simp only at eN eY
  generalize rdP _ ((b.drop body).take (stop-body))=q at hR hl eN eY
  obtain⟨g,ok⟩:=q
  simp only at hl eN eY
  have hT:=Wq g hl
  simp only[gbA] at hR
  cases ok
  ·rw[(eN rfl).1,(eN rfl).2]
   refine acQ 70 Tryz.func55 rfl rfl fun _ _ _=> ?_
   (repeat'((conv=>whnf);first|refine Ac ?_|refine Af ?_|refine Ax asP ?_|refine Aa hO Fy ?_|refine Aa Fc rfl ?_|refine Aa hK rfl ?_|refine NSl.slice (body) (stop) ?_|refine Aa hR Fy ?_|refine NLa.mk ⟨_,G2 rfl rfl (ltN rfl) rfl rfl,?_⟩|refine zF ?_|exact zE))
  cases hfi:Ri g
  ·rw[hfi] at hT
   have e:=eN (show(true&&Ri g)=false by rw[hfi];rfl)
   rw[e.1,e.2]
   refine acQ 70 Tryz.func55 rfl rfl fun _ _ _=> ?_
   (repeat'((conv=>whnf);first|refine Ac ?_|refine Af ?_|refine Ax asP ?_|refine Aa hO Fy ?_|refine Aa Fc rfl ?_|refine Aa hK rfl ?_|refine NSl.slice (body) (stop) ?_|refine Aa hR Fy ?_|refine Aa hT Fy ?_|refine NLa.mk ⟨_,G2 rfl rfl (ltN rfl) rfl rfl,?_⟩|refine zF ?_|exact zE))
  ·rw[hfi] at hT
   rw[eY (show(true&&Ri g)=true by rw[hfi];rfl)]
   refine acQ 70 Tryz.func55 rfl rfl fun _ _ _=> ?_
   (repeat'((conv=>whnf);first|refine Af ?_|refine Ax asP ?_|refine Aa hO Fy ?_|refine Aa Fc rfl ?_|refine Aa hK rfl ?_|refine NSl.slice (body) (stop) ?_|refine Aa hR Fy ?_|refine Aa hT Fy ?_|refine NLa.mk ⟨_,G2 rfl rfl (ltN rfl) rfl rfl,?_⟩|refine zF ?_|exact zE))
theorem Um (b:List UInt8) (hb:b.length≤800000):Ab Tryz.prog 55 [.d (Ag false b)] (fun r=>r=gnR (K5 b) (Uk b)):=by
 have hO:=Kn b (by omega)
 have hF:=D7 b
 unfold K5 Uk
 generalize Bh b=r at hO hF⊢
 obtain⟨x,c,o⟩:=r
 by_cases h1:c=0
 ·subst h1
  obtain⟨f1,f2,f3,f4,f5⟩:=hF.1 rfl
  simp only at f1 f2 f3 f4 f5
  subst f5
  have hx:x.body≤x.stop∧x.stop≤b.length:=by omega
  by_cases hn:x.n≤8
  ·exact tT b hb x hx hn hO
  ·have gt:Pj x=false:=by unfold Pj;rw[decide_eq_false hn];simp
   have e:=Ul (b:=b) gt
   rw[e.1,e.2]
   obtain⟨c,n,k,p,body,stop⟩:=x
   simp only at hn
   have hr:rdF (n:Int)=none:=by
    unfold rdF
    rw[if_neg (by omega),if_neg (by omega),if_neg (by omega),if_neg (by omega),if_neg (by omega),if_neg (by omega)]
   show Ab _ _ _ (fun r=>r= .tup [gnQ gz,erA 3 0])
   refine acQ 70 Tryz.func55 rfl rfl fun _ _ _=> ?_
   (repeat'((conv=>whnf);first|refine Ac ?_|refine Af ?_|refine Aa hO Fy ?_|refine Aa Fc rfl ?_|refine NLa.mk ⟨_,tS hr rfl rfl (ltN rfl) rfl rfl,?_⟩|refine zF ?_|exact zE))
 ·have gc:((c:Int) !=0)=true:=by rw[bne_iff_ne];omega
  rw[show Uj b ⟨x,c,o⟩=none by unfold Uj;rw[if_pos h1],show Yq ⟨x,c,o⟩=(c,o) by unfold Yq;rw[if_pos h1]]
  show Ab _ _ _ (fun r=>r= .tup [gnQ gz,erA c o])
  refine acQ 70 Tryz.func55 rfl rfl fun _ _ _=> ?_
  (repeat'((conv=>whnf);first|refine Av asP ?_|refine Aa hO Fy ?_|refine zF ?_|exact zE))
def gnE (g:Gn):List UInt8:=Ai 2 g.k.toNat (Dy g.k) ((Ec g).getD [])
def Vg (g:Gn):Bool:=Cn g&&(Ri g&&((Ec g).isSome&&(K5 (gnE g)).isSome))
def Qk (o:Bool) (b:List UInt8):AV:=if o=true then .tup [Be 0 5 b,iv 0] else .tup [Bc,iv 8]
theorem N9 {g:Gn} {c:List UInt8} (h:Ec g=some c):∃n:Nat,n≤8∧g.k=n:=by
 unfold Ec at h
 by_cases h0:g.k=0
 ·exact⟨0,by omega,h0⟩
 rw[if_neg h0] at h
 by_cases h1:g.k=1∨g.k=2∨g.k=6
 ·exact⟨g.k.toNat,by omega,by omega⟩
 rw[if_neg h1] at h
 by_cases h2:g.k=3∨g.k=7
 ·exact⟨g.k.toNat,by omega,by omega⟩
 rw[if_neg h2] at h
 by_cases h3:g.k=4
 ·exact⟨4,by omega,h3⟩
 rw[if_neg h3] at h
 by_cases h4:g.k=5
 ·exact⟨5,by omega,h4⟩
 rw[if_neg h4] at h
 by_cases h5:g.k=8
 ·exact⟨8,by omega,h5⟩
 rw[if_neg h5] at h;cases h
theorem Dg {p:Prop} (h:p:=by first|rfl|(simp only[AV.gives,AV.ren,AV.give,D.un,D.uns,Al,Ak,List.nil_append,List.append_nil,List.cons_append,As,A0,Bb,A5,A2,Ba,Bi,Dn,Cq,C9,Cl];first|done|rfl)):p:=h
theorem gA (g:Gn) (hs:g.sm) (hl:((Ec g).getD []).length≤700000):Ab Tryz.prog 49 [gnA g] (fun r=>r=Qk (Vg g) (gnE g)):=by
 have hA:=nS g
 have hF:=Wq g (by have:=hs.b;omega)
 have hC:=Yp g hs
 unfold Vg Qk
 cases ha:Cn g
 ·rw[ha] at hA
  show Ab _ _ _ (fun r=>r= .tup [Bc,iv 8])
  refine acQ 48 Tryz.func49 rfl rfl fun _ _ _=> ?_
  (repeat'((conv=>whnf);first|refine Ac ?_|refine Aa hA Dg ?_|exact zE))
 rw[ha] at hA
 cases hf:Ri g
 ·rw[hf] at hF
  show Ab _ _ _ (fun r=>r= .tup [Bc,iv 8])
  refine acQ 48 Tryz.func49 rfl rfl fun _ _ _=> ?_
  (repeat'((conv=>whnf);first|refine Ac ?_|refine Af ?_|refine Aa hA Dg ?_|refine Aa hF Dg ?_|exact zE))
 rw[hf] at hF
 cases hc:Ec g with
 |none=>
  rw[hc] at hC
  have hC:Ab Tryz.prog 70 [gnA g] (fun r=>r= .tup [.d (Ag false []),iv 8]):=hC
  show Ab _ _ _ (fun r=>r= .tup [Bc,iv 8])
  refine acQ 48 Tryz.func49 rfl rfl fun _ _ _=> ?_
  (repeat'((conv=>whnf);first|refine Ac ?_|refine Af ?_|refine Aa hA Dg ?_|refine Aa hF Dg ?_|refine Aa hC Dg ?_|exact zE))
 |some c=>
  obtain⟨n,hn,hk⟩:=N9 hc
  rw[hc] at hC hl
  have hC:Ab Tryz.prog 70 [gnA g] (fun r=>r= .tup [.d (Ag false c),iv 0]):=hC
  have hl:c.length≤700000:=hl
  have hK:=bR g.k
  have hW:=Fl 2 n (Dy g.k) c (by omega) (by omega) (by omega)
  have hle:=At 2 n (Dy g.k) c (by omega)
  have hP:=Um (Ai 2 n (Dy g.k) c) (by omega)
  have he:=Yr (Ai 2 n (Dy g.k) c)
  have e:gnE g=Ai 2 n (Dy g.k) c:=by unfold gnE;rw[hc,hk];rfl
  rw[e]
  generalize Uk (Ai 2 n (Dy g.k) c)=er at hP he
  obtain⟨ec,eo⟩:=er
  simp only at he
  have gc:((ec:Int) !=0)=true:=by rw[bne_iff_ne];omega
  obtain⟨k,oid,tx,by',nm,ak,av,pk,pv⟩:=g
  simp only at hk
  subst hk
  simp only at hK hW hP hle⊢
  generalize Ai 2 n (Dy (n:Int)) c=b at hW hP⊢
  cases ho:K5 b with
  |none=>
   rw[ho] at hP
   have hP:Ab Tryz.prog 55 [.d (Ag false b)] (fun r=>r= .tup [gnQ gz,erA ec eo]):=hP
   show Ab _ _ _ (fun r=>r= .tup [Bc,iv 8])
   refine acQ 48 Tryz.func49 rfl rfl fun _ _ _=> ?_
   (repeat'((conv=>whnf);first|refine Af ?_|refine Av asP ?_|refine Aa hA Dg ?_|refine Aa hF Dg ?_|refine Aa hC Dg ?_|refine Aa hK rfl ?_|refine Aa hW Dg ?_|refine Aa hP Dg ?_|refine zF ?_|exact zE))
  |some v=>
   rw[ho] at hP
   have hP:Ab Tryz.prog 55 [.d (Ag false b)] (fun r=>r= .tup [gnQ v,erA 0 0]):=hP
   show Ab _ _ _ (fun r=>r= .tup [Be 0 5 b,iv 0])
   refine acQ 48 Tryz.func49 rfl rfl fun _ _ _=> ?_
   (repeat'((conv=>whnf);first|refine Af ?_|refine Aa hA Dg ?_|refine Aa hF Dg ?_|refine Aa hC Dg ?_|refine Aa hK rfl ?_|refine Aa hW Dg ?_|refine Aa hP Dg ?_|refine zF ?_|exact zE))
structure Gn.mid (g:Gn):Prop where
 s:g.sm
 c:((Ec g).getD []).length≤700000
def Ys (l:List Gn):Bool:= !l.isEmpty&&l.all Vg
def Rj (l:List Gn):List UInt8:=Ai 0 16 true (l.map gnE).flatten
theorem zA {g:Gn} (h:g.mid):(gnE g).length≤700006:=by
 have:=h.c
 have:=At 2 g.k.toNat (Dy g.k) ((Ec g).getD []) (by omega)
 unfold gnE;omega
structure gnsM (l:List Gn):Prop where
 n:l.length≤1000000
 m:∀g∈l,g.mid
 e:(l.map gnE).flatten.length≤800000000
theorem Rc (l:List Gn) (hz:gnsM l):Ab Tryz.prog 29 [.d (Hl l)] (fun r=>r=Qk (Ys l) (Rj l)):=by
 obtain⟨hl,hs,hq⟩:=hz
 have hS:=I0 (l.map gnE) (by omega) (by rw[List.length_map];omega)
 refine acQ 35 Tryz.func29 rfl rfl fun _ _ _=> ?_
 (all_goals(conv=>whnf))
 refine Bg [.s 4 1 22] (fun i:Nat=>i≤l.length∧(l.take i).all Vg=true) (fun i=>l.length-i) (fun i=>⟨[(4,C9 4 1 22 Fe ((l.take i).map gnE)),(9,.d (Hl l)),(10,iv l.length),(11,iv i)],[],[(4,(((l.take i).map gnE).length,1,22))]⟩) 0 ⟨by omega,rfl⟩ leQ ?_
 rintro i ⟨hi,ha⟩
 have hml:((l.take i).map gnE).length≤1000000:=by rw[List.length_map,Am];omega
 by_cases hik:i<l.length
 ·have gi:decide ((i:Int)<l.length)=true:=decide_eq_true (by omega)
  obtain⟨x,hg⟩:∃p,l[i]?=some p:=⟨_,Ar hik⟩
  have hm:=hs x (Bl hg)
  have hM:=gA x hm.s hm.c
  unfold Qk at hM
  cases hv:Vg x
  ·rw[hv,if_neg (by simp)] at hM
   rw[show Qk (Ys l) (Rj l)= .tup [Bc,iv 8] by unfold Qk Ys;rw[Yl hg hv,Bool.and_false,if_neg (by simp)]]
   (repeat'((conv=>whnf);first|refine Ac ?_|refine Av asP ?_|refine NIdx.tab (fun _=>rfl) hg ?_|refine Aa hM Dg ?_|exact zE))
  ·rw[hv,if_pos rfl] at hM
   have hs':=Gm gnE hg
   (repeat'((conv=>whnf);first|refine Af ?_|refine Av asP ?_|refine NIdx.tab (fun _=>rfl) hg ?_|refine Aa hM Dg ?_|refine A9 Fe (gnE x) ?_|(with_reducible refine NInt.i64 ?_)));(all_goals(conv=>whnf))
   refine⟨i+1,⟨by omega,H2 Vg hg hv ha⟩,by omega,?_⟩
   rw[hs']
   exact leQ
 ·have gi:decide ((i:Int)<l.length)=false:=decide_eq_false (by omega)
  obtain rfl:i=l.length:=by omega
  rw[List.take_length] at ha⊢
  by_cases h0:l=[]
  ·subst h0
   (repeat'((conv=>whnf);first|refine Ac ?_|refine Af ?_|exact zE))
  ·have gj:(((l.map gnE).length:Int)==0)=false:=by rw[beq_eq_false_iff_ne,List.length_map];intro h;exact h0 (List.eq_nil_of_length_eq_zero (by omega))
   rw[show Qk (Ys l) (Rj l)= .tup [Be 0 5 (Rj l),iv 0] by unfold Qk Ys;rw[ha,Bool.and_true,if_pos (by cases l with|nil=>exact absurd rfl h0|cons _ _=>rfl)]]
   (repeat'((conv=>whnf);first|refine Ax asP ?_|refine Aa hS Dg ?_|exact zE))
theorem bT (l:List Gn) (hz:gnsM l):Ab Tryz.prog 35 [.d (Hl l)] (fun r=>r=bv (Ys l)):=by
 have hM:=Rc l hz
 unfold Qk at hM
 cases hv:Ys l
 all_goals
  rw[hv] at hM
  first|rw[if_pos rfl] at hM|rw[if_neg (by simp)] at hM
  refine acQ 12 Tryz.func35 rfl rfl fun _ _ _=> ?_
  (repeat'((conv=>whnf);refine Aa hM Dg ?_));(all_goals(conv=>whnf))
  all_goals exact zE
theorem Ql {k:Int} {l:List UInt8} (h:Ao k l=true):E2 k (chS k l)=k∧Cm k (chS k l)=l∧Dl k (chS k l)=0:=by
 have:=wJ h
 unfold Eb at this
 rwa[if_pos h] at this
theorem Yt {k:Int} {c:List UInt8} (h:Dl k c=0):E2 k c=k∧Ao k (Cm k c)=true∧chS k (Cm k c)=c:=by
 unfold Dl at h
 unfold E2 Cm
 split at h
 ·cases h
 ·rename_i hk
  split at h
  ·rename_i ho
   rw[if_neg hk,if_neg hk,if_pos ho,if_pos ho]
   unfold okD at ho
   simp only[Aw,beq_iff_eq] at ho
   exact⟨rfl,ho.1,ho.2⟩
  ·cases h
theorem Wr:∀{a b:List (List UInt8)},Gi (a++b)=true→Gi a=true
 |[],_,_=>rfl
 |[_],_,_=>rfl
 |x::y::r,b,h=>by
  have h':(decide (E0 x y<0)&&Gi (y::r++b))=true:=h
  rw[Aw] at h'
  rw[Gi,h'.1,Wr h'.2];rfl
theorem DD {a:Att} (_:atV a=true) (hs:a.sm):∃t:Tv,t.ok∧atE a=t.enc:=by
 have k1:=Ex a.oid
 have:=hs.o
 have:=hs.v
 have k2:=At 0 6 false (Bm a.oid) (by omega)
 exact⟨⟨0,16,true,Ai 0 6 false (Bm a.oid)++a.val⟩,⟨by show(0:Nat)≤3;omega,by show(16:Nat)≤30;omega,by show(_++_:List UInt8).length≤_;rw[Ap];omega⟩,rfl⟩
theorem zC {a:Att} (h:atV a=true) (hs:a.sm):atO (atE a)=some a:=by
 obtain⟨h1,h2⟩:=R4 h
 have k1:=Ex a.oid
 have o1:=hs.o
 have o2:=hs.v
 obtain⟨y,yo,ye⟩:=(L4 h2).tv (by omega)
 obtain⟨x,hx⟩:∃x:Tv,x=⟨0,6,false,Bm a.oid⟩:=⟨_,rfl⟩
 have xo:x.ok:=by subst hx;exact⟨by show(0:Nat)≤3;omega,by show(6:Nat)≤30;omega,by show(Bm a.oid).length≤_;omega⟩
 have e:atE a=Ai 0 16 true (C0 [x,y]):=by
  unfold atE
  rw[Ck,Ck,←ye]
  subst hx
  show _=Ai 0 16 true (Ai 0 6 false (Bm a.oid)++(a.val++[]))
  rw[List.append_nil]
 have hl:(C0 [x,y]).length≤2147483600:=by
  have:=At 0 6 false (Bm a.oid) (by omega)
  rw[Ck,Ck,←ye]
  subst hx
  show(Ai 0 6 false (Bm a.oid)++(a.val++[])).length≤_
  simp only[Ap,List.length_nil];omega
 have hp:=bI x y xo yo hl
 obtain⟨e1,e2⟩:=Tl h1
 have xv:x.v=Bm a.oid:=by subst hx;rfl
 have xi:(x.el 0).isB 0 6 false=true:=by subst hx;rfl
 rw[xv,if_pos ⟨xi,e2⟩,e1,←ye,←e] at hp
 unfold atO
 rw[hp]
 simp only
 rw[if_pos h2]
theorem nT {p id s:List UInt8} (h:bG p=some (id,s)) (hl:p.length≤2147483600):Es id=true∧p=Ai 0 16 true (Ai 0 6 false (Bm id)++s)∧∃y:Tv,y.ok∧s=y.enc:=by
 obtain⟨c0,l2⟩:=fV h
 obtain⟨ts,t1,t2,-,-,t5⟩:=J7 c0
 have hlt:(C0 ts).length≤2147483600:=by
  have:=congrArg List.length t2
  unfold Ai at this
  rw[Ew] at this;omega
 obtain⟨q,e1,-⟩:=F8 (c:=0) (n:=16) ts (by omega) (by omega) t1 hlt
 rw[←t2] at e1
 rw[e1] at l2
 have l2':ts.length=2:=by rw[←Yi q ts];exact l2
 obtain⟨x,y,rfl⟩:∃x y,ts=[x,y]:=by
  match ts,l2' with
  |[x,y],_=>exact⟨x,y,rfl⟩
 have hpp:=bI x y (t1 x (by simp)) (t1 y (by simp)) hlt
 rw[←t2,h] at hpp
 by_cases hc:(x.el 0).isB 0 6 false=true∧odC x.v=0
 ·rw[if_pos hc] at hpp
  simp only[Option.some.injEq,Prod.mk.injEq] at hpp
  obtain⟨rfl,rfl⟩:=hpp
  have hd:=fF hc.2
  have hb:=hc.1
  unfold El.isB Tv.el at hb
  simp only[Aw,beq_iff_eq] at hb
  obtain⟨⟨b1,b2⟩,b3⟩:=hb
  have hxe:x.enc=Ai 0 6 false x.v:=by rw[Tv.enc,b1,b2,b3]
  refine⟨hd.1,?_,y,t1 y (by simp),rfl⟩
  rw[hd.2,←hxe,t2,Ck,Ck]
  show Ai 0 16 true (x.enc++(y.enc++[]))=_
  rw[List.append_nil]
 ·rw[if_neg hc] at hpp;cases hpp
theorem zD {p:List UInt8} {a:Att} (h:atO p=some a) (hl:p.length≤2147483600):atV a=true∧p=atE a:=by
 unfold atO at h
 cases hp:bG p with
 |none=>rw[hp] at h;cases h
 |some w=>
  obtain⟨id,s⟩:=w
  rw[hp] at h
  simp only at h
  by_cases ho:Ea s=true
  ·rw[if_pos ho] at h
   obtain rfl:=Option.some.inj h
   obtain⟨h1,h2,-⟩:=nT hp hl
   exact⟨by unfold atV;rw[h1,ho];rfl,h2⟩
  ·rw[if_neg ho] at h;cases h
def Yu:List (List UInt8)→List (List UInt8)→List Att→Option (List Att)
 |[],_,out=>some out
 |p::r,ps,out=>match atO p with
  |none=>none
  |some a=>if Gi (ps++[p])=true then Yu r (ps++[p]) (out++[a]) else none
theorem Un (b:List UInt8):∀(l:List El) (ps:List (List UInt8)) (out:List Att),(Rh b l ps out).1=Yu (l.map (elO b)) ps out
 |[],_,_=>rfl
 |x::r,ps,out=>by
  rw[Rh,List.map_cons,Yu]
  cases atO (elO b x) with
  |none=>rfl
  |some a=>
   simp only
   by_cases h:Gi (ps++[elO b x])=true
   ·rw[if_pos h,if_pos h];exact Un b r _ _
   ·rw[if_neg h,if_neg h]
theorem bU:∀{r:List Att} {ps:List (List UInt8)} {out:List Att},r.all atV=true→(∀a∈r,a.sm)→Gi (ps++r.map atE)=true→Yu (r.map atE) ps out=some (out++r)
 |[],_,_,_,_,_=>by simp[Yu]
 |a::r,ps,out,h,hs,ho=>by
  rw[List.all_cons,Aw] at h
  rw[List.map_cons] at ho⊢
  have ho':Gi ((ps++[atE a])++r.map atE)=true:=by rw[List.append_assoc];exact ho
  rw[Yu,zC h.1 (hs a (by simp))]
  simp only
  rw[if_pos (Wr ho'),bU h.2 (fun k hk=>hs k (by simp[hk])) ho',List.append_assoc];rfl
theorem bV:∀{qs ps:List (List UInt8)} {out z:List Att},(∀p∈qs,p.length≤2147483600)→Yu qs ps out=some z→∃r:List Att,z=out++r∧r.all atV=true∧qs=r.map atE∧(qs≠[]→Gi (ps++qs)=true)
 |[],_,out,z,_,h=>by
  rw[Yu] at h
  obtain rfl:=Option.some.inj h
  exact⟨[],by simp,rfl,rfl,fun h=>absurd rfl h⟩
 |p::qs,ps,out,z,hl,h=>by
  rw[Yu] at h
  cases ha:atO p with
  |none=>rw[ha] at h;cases h
  |some a=>
   rw[ha] at h
   simp only at h
   by_cases ho:Gi (ps++[p])=true
   ·rw[if_pos ho] at h
    obtain⟨r,e1,e2,e3,e4⟩:=bV (fun q hq=>hl q (by simp[hq])) h
    obtain⟨k1,k2⟩:=zD ha (hl p (by simp))
    refine⟨a::r,by rw[e1,List.append_assoc];rfl,by rw[List.all_cons,k1,e2];rfl,by rw[List.map_cons,←k2,←e3],fun _=> ?_⟩
    by_cases hq:qs=[]
    ·subst hq;exact ho
    ·have:=e4 hq
     rwa[List.append_assoc] at this
   ·rw[if_neg ho] at h;cases h
theorem zH {r:List Att} (h:r.all atV=true) (hs:∀a∈r,a.sm):∃ts:List Tv,(∀t∈ts,t.ok)∧r.map atE=ts.map Tv.enc:=
 R2 fun p hp=>by
  obtain⟨a,ha,rfl⟩:=List.mem_map.1 hp
  exact DD (List.all_eq_true.1 h a ha) (hs a ha)
theorem tU {r:List Att} (h:Fp r=true) (hz:rdnZ r):(M9 (Cu r)).1=some r:=by
 obtain⟨h0,h1,h2⟩:=R5 h
 obtain⟨hl,hs,hq⟩:=hz
 obtain⟨ts,t1,t2⟩:=zH h1 hs
 have hf:(r.map atE).flatten=C0 ts:=by rw[t2,Ff]
 obtain⟨q,e1,e2⟩:=F8 (c:=0) (n:=17) ts (by omega) (by omega) t1 (by rw[←hf];omega)
 unfold M9 Cu
 rw[hf,e1,tM,if_neg (by simp)]
 have hne:els q ts≠[]:=by
  intro e
  have:=congrArg List.length e
  rw[Yi] at this
  have h3:=congrArg List.length t2
  rw[List.length_map,List.length_map] at h3
  exact h0 (List.eq_nil_of_length_eq_zero (by rw[h3];exact this))
 simp only
 rw[if_neg hne,Un,e2,←t2]
 exact bU h1 hs h2
theorem tV {b:List UInt8} {r:List Att} (h:(M9 b).1=some r) (hl:b.length≤2147483600):Fp r=true∧b=Cu r:=by
 unfold M9 tM at h
 by_cases h1:(Bd b 0 17).code≠0
 ·rw[if_pos h1] at h;cases h
 rw[if_neg h1] at h
 obtain⟨ts,t1,t2,-,-,-⟩:=J7 (Decidable.not_not.1 h1)
 have hlt:(C0 ts).length≤b.length:=by
  have:=congrArg List.length t2
  unfold Ai at this
  rw[Ew] at this;omega
 obtain⟨q,e1,e2⟩:=F8 (c:=0) (n:=17) ts (by omega) (by omega) t1 (by omega)
 rw[←t2] at e1 e2
 rw[e1] at h
 simp only at h
 by_cases hn:els q ts=[]
 ·rw[if_pos hn] at h;cases h
 rw[if_neg hn,Un,e2] at h
 obtain⟨r',e3,e4,e5,e6⟩:=bV (fun p hp=>by
  have:=Hg hp
  rw[←Ff] at this;omega) h
 rw[List.nil_append] at e3
 subst e3
 have hne:ts.map Tv.enc≠[]:=by
  intro e
  have h5:ts=[]:=by simpa using e
  subst h5;exact hn rfl
 have ho:=e6 hne
 rw[List.nil_append,e5] at ho
 refine⟨?_,?_⟩
 ·unfold Fp
  rw[e4,ho]
  cases r with
  |nil=>exact absurd e5 hne
  |cons _ _=>rfl
 ·rw[t2]
  unfold Cu
  rw[Ff,e5]
def nmP:List (List UInt8)→List (List Att)→Option (List (List Att))
 |[],out=>some out
 |p::r,out=>match(M9 p).1 with
  |none=>none
  |some a=>nmP r (out++[a])
theorem Yv (b:List UInt8):∀(l:List El) (out:List (List Att)),(nmL b l out).1=nmP (l.map (elO b)) out
 |[],_=>rfl
 |x::r,out=>by
  rw[nmL,List.map_cons,nmP]
  generalize M9 (elO b x)=q
  obtain⟨o,c,p⟩:=q
  cases o with
  |none=>rfl
  |some a=>exact Yv b r _
theorem jE:∀{n out:List (List Att)},n.all Fp=true→(∀r∈n,rdnZ r)→nmP (n.map Cu) out=some (out++n)
 |[],_,_,_=>by simp[nmP]
 |r::n,out,h,hs=>by
  rw[List.all_cons,Aw] at h
  have h1:=hs r (by simp)
  rw[List.map_cons,nmP,tU h.1 h1]
  simp only
  rw[jE h.2 (fun k hk=>hs k (by simp[hk])),List.append_assoc];rfl
theorem jF:∀{qs:List (List UInt8)} {out z:List (List Att)},(∀p∈qs,p.length≤2147483600)→nmP qs out=some z→∃n:List (List Att),z=out++n∧n.all Fp=true∧qs=n.map Cu
 |[],out,z,_,h=>by
  rw[nmP] at h
  obtain rfl:=Option.some.inj h
  exact⟨[],by simp,rfl,rfl⟩
 |p::qs,out,z,hl,h=>by
  rw[nmP] at h
  cases ha:(M9 p).1 with
  |none=>rw[ha] at h;cases h
  |some a=>
   rw[ha] at h
   obtain⟨n,e1,e2,e3⟩:=jF (fun q hq=>hl q (by simp[hq])) h
   obtain⟨k1,k2⟩:=tV ha (hl p (by simp))
   exact⟨a::n,by rw[e1,List.append_assoc];rfl,by rw[List.all_cons,k1,e2];rfl,by rw[List.map_cons,←k2,←e3]⟩
theorem DE {r:List Att} (hz:rdnZ r):∃t:Tv,t.ok∧Cu r=t.enc:=by
 have hq:=hz.e
 exact⟨⟨0,17,true,(r.map atE).flatten⟩,⟨by show(0:Nat)≤3;omega,by show(17:Nat)≤30;omega,by show(r.map atE).flatten.length≤_;omega⟩,rfl⟩
theorem zI {n:List (List Att)} (h:nmV n=true) (hs:nmZ n):(nmR (nmE n)).1=some n:=by
 obtain⟨ts,t1,t2⟩:=R2 (l:=n.map Cu) fun p hp=>by
  obtain⟨r,hr,rfl⟩:=List.mem_map.1 hp
  exact DE (hs.r r hr)
 have hf:(n.map Cu).flatten=C0 ts:=by rw[t2,Ff]
 have he:=hs.e
 obtain⟨q,e1,e2⟩:=F8 (c:=0) (n:=16) ts (by omega) (by omega) t1 (by rw[←hf];omega)
 unfold nmR nmE
 rw[hf,e1,nmQ,if_neg (by simp)]
 simp only
 rw[Yv,e2,←t2]
 exact jE h hs.r
theorem zJ {b:List UInt8} {n:List (List Att)} (h:(nmR b).1=some n) (hl:b.length≤2147483600):nmV n=true∧b=nmE n:=by
 unfold nmR nmQ at h
 by_cases h1:(Bd b 0 16).code≠0
 ·rw[if_pos h1] at h;cases h
 rw[if_neg h1] at h
 obtain⟨ts,t1,t2,-,-,-⟩:=J7 (Decidable.not_not.1 h1)
 have hlt:(C0 ts).length≤b.length:=by
  have:=congrArg List.length t2
  unfold Ai at this
  rw[Ew] at this;omega
 obtain⟨q,e1,e2⟩:=F8 (c:=0) (n:=16) ts (by omega) (by omega) t1 (by omega)
 rw[←t2] at e1 e2
 rw[e1] at h
 simp only at h
 rw[Yv,e2] at h
 obtain⟨n',e3,e4,e5⟩:=jF (fun p hp=>by
  have:=Hg hp
  rw[←Ff] at this;omega) h
 rw[List.nil_append] at e3
 subst e3
 refine⟨e4,?_⟩
 rw[t2]
 unfold nmE
 rw[Ff,e5]
theorem Oa {ts:List Tv} (h:∀t∈ts,t.ok):Dm (C0 ts)=ts.map Tv.enc:=by
 have hp:=M1 ts (C0 ts) [] (C0 ts).length h (by rw[List.take_length];rfl) (Nat.le_refl _)
 have he:=R1 ts (C0 ts) [] (C0 ts).length (by rw[List.take_length];rfl) (Nat.le_refl _)
 rw[List.length_nil] at hp he
 unfold Dm
 rw[hp,if_neg (by simp)]
 exact he
theorem Uo {c:List UInt8} (h:Dm c≠[]):∃ts:List Tv,(∀t∈ts,t.ok)∧c=C0 ts∧Dm c=ts.map Tv.enc:=by
 by_cases h1:(Cp c 0 c.length).code≠0
 ·unfold Dm at h;rw[if_pos h1] at h;exact absurd rfl h
 ·obtain⟨ts,e1,e2,e3⟩:=Qg _ c 0 c.length (Nat.le_refl _) (by omega) (by omega) (Decidable.not_not.1 h1)
  rw[List.drop_zero,Nat.sub_zero,List.take_length] at e3
  exact⟨ts,e1,e3,by rw[e3];exact Oa e1⟩
theorem Up {t:Tv} (h:t.ok) (n:Nat):Cr t.enc n=if t.c=2∧t.n=n∧t.k=true then some t.v else none:=by
 unfold Cr
 rw[Hf h]
 simp only
 have hi:(t.el 0).isB 2 n true=decide (t.c=2∧t.n=n∧t.k=true):=by
  unfold El.isB Tv.el
  rw[Bool.eq_iff_iff]
  simp only[Aw,beq_iff_eq,decide_eq_true_eq]
  exact⟨fun⟨⟨a,b⟩,c⟩=>⟨a,c,b⟩,fun⟨a,c,b⟩=>⟨⟨a,b⟩,c⟩⟩
 have hv:(t.enc.drop (0+t.hd)).take (0+t.enc.length-(0+t.hd))=t.v:=by
  rw[Nat.zero_add,Nat.zero_add,t.body]
  exact List.take_of_length_le (by rw[t.len];omega)
 by_cases hc:t.c=2∧t.n=n∧t.k=true
 ·rw[hi,decide_eq_true hc,if_neg (by simp),if_pos hc]
  show some ((t.enc.drop (0+t.hd)).take (0+t.enc.length-(0+t.hd)))=_
  rw[hv]
 ·rw[hi,decide_eq_false hc,if_pos (by simp),if_neg hc]
theorem Ob {n:Nat} {v:List UInt8} (hn:n≤30) (hv:v.length≤2147483600):Cr (Ai 2 n true v) n=some v:=by
 have:=Up (t:=⟨2,n,true,v⟩) ⟨by show(2:Nat)≤3;omega,hn,by show v.length≤_;omega⟩ n
 rw[if_pos ⟨rfl,rfl,rfl⟩] at this
 exact this
theorem Oc {b v:List UInt8} {n:Nat} (h:Cr b n=some v):b=Ai 2 n true v:=by
 unfold Cr at h
 split at h
 ·cases h
 ·rename_i hh
  rw[not_or] at hh
  obtain⟨t,t1,t2,t3⟩:=Pe (Decidable.not_not.1 hh.1)
  have:=Up t1 n
  rw[←t3] at this
  have hc:t.c=2∧t.n=n∧t.k=true:=by
   have hb:=hh.2
   rw[t2] at hb
   have hb:(t.el 0).isB 2 n true=true:=by simpa using hb
   unfold El.isB Tv.el at hb
   simp only[Aw,beq_iff_eq] at hb
   exact⟨hb.1.1,hb.2,hb.1.2⟩
  rw[if_pos hc] at this
  have h':Cr b n=some v:=by unfold Cr;rw[if_neg (by rw[not_or];exact hh)];exact h
  rw[this] at h'
  obtain rfl:=Option.some.inj h'
  rw[t3,Tv.enc,hc.1,hc.2.1,hc.2.2]
def fiB (k:Int) (l:List UInt8):Bool:=Ao k l&&(!(l==[])&& !(k==22||k==26))
theorem DF {k:Int} {l:List UInt8} (h:Ao k l=true) (hl:l.length≤500000000):∃n:Nat,k=n∧Tv.ok ⟨0,n,false,chS k l⟩∧txE k l=Tv.enc ⟨0,n,false,chS k l⟩:=by
 obtain⟨n,h1,h2,rfl⟩:=Pg h
 have h4:=F9 h
 exact⟨n,rfl,⟨by show(0:Nat)≤3;omega,h2,by show(chS (n:Int) l).length≤_;omega⟩,by unfold txE;rw[Int.toNat_natCast];rfl⟩
theorem jG {k:Int} {l:List UInt8} (h:Ao k l=true) (hl:l.length≤500000000):M8 (txE k l)=k∧Qi (txE k l)=l∧Yj (txE k l)=true:=by
 obtain⟨n,hk,ho,he⟩:=DF h hl
 have hc:=Ql h
 generalize ht:(⟨0,n,false,chS k l⟩:Tv)=t at ho he
 have h1:=Hf ho
 have hs:Ra t.enc=true:=by unfold Ra;rw[h1];subst ht;rfl
 have hcon:Ue t.enc=chS k l:=by
  unfold Ue
  rw[h1]
  show(t.enc.drop (0+t.hd)).take (0+t.enc.length-(0+t.hd))=_
  rw[Nat.zero_add,Nat.zero_add,t.body,List.take_of_length_le (by rw[t.len];omega)]
  subst ht;rfl
 have hn:(Bh t.enc).x.n=n:=by rw[h1];subst ht;rfl
 rw[he]
 unfold M8 Qi Yj
 rw[hs,hcon,hn,←hk]
 exact⟨hc.1,hc.2.1,by rw[hc.2.2];rfl⟩
theorem zK {b:List UInt8} (h:Yj b=true):Ao (M8 b) (Qi b)=true∧b=txE (M8 b) (Qi b):=by
 unfold Yj at h
 rw[Aw] at h
 obtain⟨hs,hd⟩:=h
 have hs':=hs
 unfold Ra at hs'
 simp only[Aw,beq_iff_eq] at hs'
 obtain⟨t,t1,t2,t3⟩:=Pe hs'.1
 have hcon:Ue b=t.v:=by
  unfold Ue
  rw[t2,t3]
  show(t.enc.drop (0+t.hd)).take (0+t.enc.length-(0+t.hd))=_
  rw[Nat.zero_add,Nat.zero_add,t.body,List.take_of_length_le (by rw[t.len];omega)]
 have hn:(Bh b).x.n=t.n:=by rw[t2];rfl
 have htc:t.c=0:=by have:=hs'.2.1;rw[t2] at this;exact this
 have htk:t.k=false:=by have:=hs'.2.2;rw[t2] at this;simpa[Tv.el] using this
 rw[hn,hcon] at hd
 have hd:Dl (t.n:Int) t.v=0:=by simpa using hd
 obtain⟨i1,i2,i3⟩:=Yt hd
 have hK:M8 b=(t.n:Int):=by unfold M8;rw[if_pos hs,hn,hcon];exact i1
 have hV:Qi b=Cm (t.n:Int) t.v:=by unfold Qi;rw[if_pos hs,hn,hcon]
 rw[hK,hV]
 refine⟨i2,?_⟩
 unfold txE
 rw[i3,Int.toNat_natCast,t3,Tv.enc,htc,htk]
theorem Yw {k:Int} {l:List UInt8} (h:fiB k l=true) (hl:l.length≤500000000):F1 (txE k l)=true∧pK (txE k l)=k∧pV (txE k l)=l:=by
 have h':=h
 unfold fiB at h
 rw[Aw] at h
 obtain⟨s1,s2,s3⟩:=jG h.1 hl
 have hd:F1 (txE k l)=true:=by
  unfold F1
  rw[s1,s2,s3,h.2];rfl
 refine⟨hd,?_,?_⟩
 ·unfold pK;rw[if_pos hd,s1]
 ·unfold pV;rw[if_pos hd,s2]
theorem jH {b:List UInt8} (h:F1 b=true):fiB (pK b) (pV b)=true∧b=txE (pK b) (pV b):=by
 have h':=h
 unfold F1 at h'
 rw[Aw] at h'
 obtain⟨s1,s2⟩:=zK h'.1
 unfold pK pV
 rw[if_pos h,if_pos h]
 refine⟨?_,s2⟩
 unfold fiB
 rw[s1,h'.2];rfl
theorem tW {k:Int} {l:List UInt8} (hv:Ao k l=true) (h:fiB k l=false) (hl:l.length≤500000000):F1 (txE k l)=false:=by
 cases hd:F1 (txE k l) with
 |false=>rfl
 |true=>
  exfalso
  obtain⟨s1,s2,s3⟩:=jG hv hl
  unfold F1 at hd
  rw[s1,s2,s3] at hd
  unfold fiB at h
  rw[hv] at h
  rw[h] at hd;cases hd
def G6 (g:Gn):Bool:= !(g.k==5)||((zT g.ak g.av||fiB g.ak g.av)&&fiB g.pk g.pv)
def gnW (g:Gn):Bool:=Cn g&&(Ri g&&((Ec g).isSome&&G6 g))
theorem Qm {k:Int} {l:List UInt8}:zT k l=true↔k=0∧l=[]:=by unfold zT;simp
theorem bW {n:Nat} {c:List UInt8} (hn:n≤8) (hl:c.length≤2147483600):K5 (Ai 2 n (Dy n) c)=if okP (rdP n c)=true then some (rdP n c).1 else none:=by
 obtain⟨t,ht⟩:∃t:Tv,t=⟨2,n,Dy n,c⟩:=⟨_,rfl⟩
 have hOk:t.ok:=by subst ht;exact⟨by show(2:Nat)≤3;omega,by show n≤30;omega,by show c.length≤_;omega⟩
 have he:Ai 2 n (Dy n) c=t.enc:=by subst ht;rfl
 have hv:t.v=c:=by subst ht;rfl
 have htag:Pj (t.el 0)=true:=by
  unfold Pj;subst ht
  show((2:Nat)==2&&(decide (n≤8)&&(Dy n==Dy n)))=true
  rw[decide_eq_true hn];simp
 have hn':(t.el 0).n=n:=by subst ht;rfl
 have hb:(t.enc.drop (t.el 0).body).take ((t.el 0).stop-(t.el 0).body)=c:=by
  show(t.enc.drop (0+t.hd)).take (0+t.enc.length-(0+t.hd))=_
  rw[Nat.zero_add,Nat.zero_add,t.body,List.take_of_length_le (by rw[t.len];omega),hv]
 rw[he]
 unfold K5
 rw[Hf hOk]
 cases ho:okP (rdP n c)
 ·rw[if_neg (by simp)]
  exact(jD htag (by rw[hn',hb];exact ho)).1
 ·rw[if_pos rfl]
  have:=bS (b:=t.enc) htag (by rw[hn',hb];exact ho)
  rw[this,hn',hb]
theorem tX {b:List UInt8} {g:Gn} (h:K5 b=some g):∃n:Nat,∃c:List UInt8,n≤8∧c.length≤b.length∧b=Ai 2 n (Dy n) c∧okP (rdP n c)=true∧g=(rdP n c).1:=by
 unfold K5 Uj at h
 by_cases h1:(Bh b).code≠0
 ·rw[if_pos h1] at h;cases h
 rw[if_neg h1] at h
 by_cases h2:Pj (Bh b).x=false
 ·rw[if_pos h2] at h;cases h
 rw[if_neg h2] at h
 obtain⟨t,t1,t2,t3⟩:=Pe (Decidable.not_not.1 h1)
 have hb:(b.drop (Bh b).x.body).take ((Bh b).x.stop-(Bh b).x.body)=t.v:=by
  rw[t2,t3]
  show(t.enc.drop (0+t.hd)).take (0+t.enc.length-(0+t.hd))=_
  rw[Nat.zero_add,Nat.zero_add,t.body,List.take_of_length_le (by rw[t.len];omega)]
 have hn:(Bh b).x.n=t.n:=by rw[t2];rfl
 rw[hb,hn] at h
 have htag:Pj (Bh b).x=true:=by simpa using h2
 rw[t2] at htag
 unfold Pj at htag
 simp only[Aw,beq_iff_eq,decide_eq_true_eq] at htag
 obtain⟨a1,a2,a3⟩:=htag
 have a1:t.c=2:=a1
 have a2:t.n≤8:=a2
 have a3:t.k=Dy t.n:=a3
 by_cases h3:okP (rdP t.n t.v)=true
 ·rw[if_pos h3] at h
  refine⟨t.n,t.v,a2,by rw[t3,t.len];omega,?_,h3,(Option.some.inj h).symm⟩
  rw[t3,Tv.enc,a1,a3]
 ·rw[if_neg h3] at h;cases h
theorem jI {c d n m:Nat} {j k:Bool} {u v:List UInt8} (hc:c≤3) (hn:n≤30) (hd:d≤3) (hm:m≤30) (hu:u.length≤500000000) (hv:v.length≤500000000):Dm (Ai c n j u++Ai d m k v)=[Ai c n j u,Ai d m k v]:=by
 have:=Oa (ts:=[⟨c,n,j,u⟩,⟨d,m,k,v⟩]) (fun t ht=>by
  rcases List.mem_cons.1 ht with rfl|ht
  ·exact⟨hc,hn,by show u.length≤_;omega⟩
  ·rw[List.mem_singleton.1 ht];exact⟨hd,hm,by show v.length≤_;omega⟩)
 rw[Ck,Ck] at this
 show Dm (Tv.enc ⟨c,n,j,u⟩++Tv.enc ⟨d,m,k,v⟩)=_
 have e:C0 ([]:List Tv)=[]:=rfl
 rw[e,List.append_nil] at this
 exact this
theorem DG {c n:Nat} {j:Bool} {u:List UInt8} (hc:c≤3) (hn:n≤30) (hu:u.length≤500000000):Dm (Ai c n j u)=[Ai c n j u]:=by
 have:=Oa (ts:=[⟨c,n,j,u⟩]) (fun t ht=>by
  rw[List.mem_singleton.1 ht];exact⟨hc,hn,by show u.length≤_;omega⟩)
 rw[Ck] at this
 have e:C0 ([]:List Tv)=[]:=rfl
 rw[e,List.append_nil] at this
 exact this
theorem zL {oid by':List UInt8} (h:Es oid=true) (hl:oid.length≤3000000) (hb:by'.length≤3000000):Na 0 (Ai 0 6 false (Bm oid)++Ai 2 0 true by')=(⟨0,oid,[],by',[],0,[],0,[]⟩,true):=by
 have k1:=Ex oid
 unfold Na
 rw[jI (by omega) (by omega) (by omega) (by omega) (by omega) (by omega)]
 show Vf 0 _ _=_
 obtain⟨t,ht⟩:∃t:Tv,t=⟨0,6,false,Bm oid⟩:=⟨_,rfl⟩
 have hOk:t.ok:=by subst ht;exact⟨by show(0:Nat)≤3;omega,by show 6≤30;omega,by show(Bm oid).length≤_;omega⟩
 have he:Ai 0 6 false (Bm oid)=t.enc:=by subst ht;rfl
 have hv:t.v=Bm oid:=by subst ht;rfl
 have hi:(t.el 0).isB 0 6 false=true:=by subst ht;rfl
 have hin:=Ob (n:=0) (v:=by') (by omega) (by omega)
 obtain⟨e1,e2⟩:=Tl h
 unfold Vf
 rw[he,Hf hOk]
 simp only
 rw[hi,if_neg (by simp)]
 have hd:t.enc.drop (t.el 0).body=Bm oid:=by
  show t.enc.drop (0+t.hd)=_
  rw[Nat.zero_add,t.body,hv]
 rw[hd,e1,e2,hin,Fv hin]
 rfl
theorem jJ {c:List UInt8} (_:c.length≤800000) (h:(Na 0 c).2=true):∃oid by':List UInt8,Na 0 c=(⟨0,oid,[],by',[],0,[],0,[]⟩,true)∧Es oid=true∧c=Ai 0 6 false (Bm oid)++Ai 2 0 true by':=by
 unfold Na at h⊢
 by_cases hn:Dm c=[]
 ·rw[hn] at h;cases h
 obtain⟨ts,t1,t2,t3⟩:=Uo hn
 match hs:Dm c with
 |[]=>exact absurd hs hn
 |[x]=>rw[hs] at h;cases h
 |x::y::z::r=>rw[hs] at h;cases h
 |[p,q]=>
  rw[hs] at h t3
  have h:(Vf 0 p q).2=true:=h
  show∃oid by',Vf 0 p q=_∧_
  obtain⟨x,y,rfl⟩:∃x y,ts=[x,y]:=by
   match ts,congrArg List.length t3 with
   |[x,y],_=>exact⟨x,y,rfl⟩
  simp only[List.map_cons,List.map_nil,List.cons.injEq,and_true] at t3
  obtain⟨rfl,rfl⟩:=t3
  have x1:=t1 x (by simp)
  have y1:=t1 y (by simp)
  unfold Vf at h⊢
  rw[Hf x1] at h⊢
  simp only at h⊢
  by_cases hc:(0:Nat)≠0∨(x.el 0).isB 0 6 false=false
  ·rw[if_pos hc] at h;cases h
  rw[if_neg hc] at h⊢
  have hd:x.enc.drop (x.el 0).body=x.v:=by
   show x.enc.drop (0+x.hd)=_
   rw[Nat.zero_add,x.body]
  rw[hd] at h⊢
  simp only[Aw,beq_iff_eq] at h
  obtain⟨h1,h2⟩:=h
  obtain⟨v,hv⟩:=Option.isSome_iff_exists.1 h1
  have hod:odC x.v=0:=by omega
  obtain⟨o1,o2⟩:=fF hod
  have hb:(x.el 0).isB 0 6 false=true:=by
   rw[not_or] at hc;simpa using hc.2
  unfold El.isB Tv.el at hb
  simp only[Aw,beq_iff_eq] at hb
  refine⟨odT x.v,v,?_,o1,?_⟩
  ·rw[hv,Fv hv,hod];rfl
  ·rw[o2,←Oc hv,t2,Ck,Ck]
   have e:x.enc=Ai 0 6 false x.v:=by rw[Tv.enc,hb.1.1,hb.2,hb.1.2]
   rw[←e]
   show x.enc++(y.enc++[])=_
   rw[List.append_nil]
theorem jK {K:Int} {V:List UInt8} (ak:Int) (av:List UInt8) (hv:Ao K V=true) (hl:V.length≤3000000):Ks 5 (Ai 2 1 true (txE K V)) ak av=(⟨5,[],[],[],[],ak,av,pK (txE K V),pV (txE K V)⟩,fiB K V):=by
 have h4:=Fx hv hl
 have hin:=Ob (n:=1) (v:=txE K V) (by omega) (by omega)
 unfold Ks
 rw[hin,Fv hin]
 have:F1 (txE K V)=fiB K V:=by
  cases hf:fiB K V
  ·exact tW hv hf (by omega)
  ·exact(Yw hf (by omega)).1
 rw[this];rfl
theorem Kb {k:Int} {l:List UInt8} (h:fiB k l=true):Ao k l=true:=by
 unfold fiB at h;rw[Aw] at h;exact h.1
theorem jL {g:Gn} {c:List UInt8} (hk:g.k=5) (hc:L9 g=some c) (ha:g.av.length≤3000000) (hp:g.pv.length≤3000000):(Ka 5 c).2=((zT g.ak g.av||fiB g.ak g.av)&&fiB g.pk g.pv)∧(((zT g.ak g.av||fiB g.ak g.av)&&fiB g.pk g.pv)=true→Ka 5 c=(⟨5,[],[],[],[],g.ak,g.av,g.pk,g.pv⟩,true)):=by
 obtain⟨k,oid,tx,by',nm,ak,av,pk,pv⟩:=g
 unfold L9 at hc
 simp only at hk hc ha hp⊢
 by_cases hh:((zT ak av||Ao ak av)&&Ao pk pv)=true
 ·rw[if_pos hh] at hc
  rw[Aw] at hh
  obtain⟨h1,h2⟩:=hh
  have hl2:=Fx h2 hp
  obtain rfl:=Option.some.inj hc
  have fin:fiB pk pv=true→(⟨5,[],[],[],[],ak,av,pK (txE pk pv),pV (txE pk pv)⟩:Gn)=⟨5,[],[],[],[],ak,av,pk,pv⟩:=fun h=>by
   obtain⟨-,q1,q2⟩:=Yw h (by omega)
   rw[q1,q2]
  cases hz:zT ak av
  ·rw[hz,Bool.false_or] at h1
   have hl1:=Fx h1 ha
   rw[if_neg (by simp),Bool.false_or]
   unfold Ka
   rw[jI (by omega) (by omega) (by omega) (by omega) (by omega) (by omega)]
   have hin:=Ob (n:=0) (v:=txE ak av) (by omega) (by omega)
   show(if(Cr (Ai 2 0 true (txE ak av)) 0).isSome&&F1 (inn (Ai 2 0 true (txE ak av)) 0) then Ks 5 (Ai 2 1 true (txE pk pv)) (pK (inn (Ai 2 0 true (txE ak av)) 0)) (pV (inn (Ai 2 0 true (txE ak av)) 0)) else(gz,false)).2=_∧(_→(if(Cr (Ai 2 0 true (txE ak av)) 0).isSome&&F1 (inn (Ai 2 0 true (txE ak av)) 0) then Ks 5 (Ai 2 1 true (txE pk pv)) (pK (inn (Ai 2 0 true (txE ak av)) 0)) (pV (inn (Ai 2 0 true (txE ak av)) 0)) else(gz,false))=_)
   rw[hin,Fv hin]
   cases hf:fiB ak av
   ·rw[tW h1 hf (by omega),if_neg (by simp)]
    exact⟨rfl,fun h=>by cases h⟩
   ·obtain⟨d1,d2,d3⟩:=Yw hf (by omega)
    rw[d1,d2,d3,if_pos (by rfl),jK _ _ h2 hp]
    exact⟨rfl,fun h=>by
     have h:fiB pk pv=true:=h
     rw[fin h,h]⟩
  ·obtain⟨z1,z2⟩:=Qm.1 hz
   subst z1 z2
   rw[if_pos rfl,Bool.true_or,List.nil_append]
   unfold Ka
   rw[DG (by omega) (by omega) (by omega)]
   show(Ks 5 _ 0 []).2=_∧(_→Ks 5 _ 0 []=_)
   rw[jK _ _ h2 hp]
   exact⟨rfl,fun h=>by
    have h:fiB pk pv=true:=h
    rw[fin h,h]⟩
 ·rw[if_neg hh] at hc;cases hc
theorem bX {q:List UInt8} {ak:Int} {av:List UInt8} (h:(Ks 5 q ak av).2=true):∃(K:Int) (V:List UInt8),Ks 5 q ak av=(⟨5,[],[],[],[],ak,av,K,V⟩,true)∧fiB K V=true∧q=Ai 2 1 true (txE K V):=by
 unfold Ks at h⊢
 simp only[Aw] at h
 obtain⟨v,hv⟩:=Option.isSome_iff_exists.1 h.1
 have hd:=h.2
 rw[Fv hv] at hd
 obtain⟨d1,d2⟩:=jH hd
 refine⟨pK v,pV v,?_,d1,by rw[←d2];exact Oc hv⟩
 rw[hv,Fv hv,hd];rfl
theorem zM {c:List UInt8} (h:(Ka 5 c).2=true):∃g:Gn,Ka 5 c=(g,true)∧g=⟨5,[],[],[],[],g.ak,g.av,g.pk,g.pv⟩∧L9 g=some c∧((zT g.ak g.av||fiB g.ak g.av)&&fiB g.pk g.pv)=true:=by
 unfold Ka at h⊢
 by_cases hn:Dm c=[]
 ·rw[hn] at h;cases h
 obtain⟨ts,t1,t2,t3⟩:=Uo hn
 have hfl:c=(Dm c).flatten:=by rw[t3,←Ff];exact t2
 match hs:Dm c with
 |[]=>exact absurd hs hn
 |x::y::z::r=>rw[hs] at h;cases h
 |[q]=>
  rw[hs] at h hfl
  have h:(Ks 5 q 0 []).2=true:=h
  obtain⟨K,V,e1,e2,e3⟩:=bX h
  refine⟨⟨5,[],[],[],[],0,[],K,V⟩,e1,rfl,?_,by rw[e2];rfl⟩
  unfold L9
  have e4:=Kb e2
  rw[show((zT 0 []||Ao 0 [])&&Ao K V)=true by rw[e4];rfl,if_pos rfl]
  have e5:zT 0 []=true:=rfl
  simp only
  rw[e5,if_pos rfl,List.nil_append,←e3,hfl];simp
 |[p,q]=>
  rw[hs] at h hfl
  have h:(if(Cr p 0).isSome&&F1 (inn p 0) then Ks 5 q (pK (inn p 0)) (pV (inn p 0)) else(gz,false)).2=true:=h
  show∃g:Gn,(if(Cr p 0).isSome&&F1 (inn p 0) then Ks 5 q (pK (inn p 0)) (pV (inn p 0)) else(gz,false))=(g,true)∧_
  by_cases hc:((Cr p 0).isSome&&F1 (inn p 0))=true
  ·rw[if_pos hc] at h⊢
   rw[Aw] at hc
   obtain⟨v,hv⟩:=Option.isSome_iff_exists.1 hc.1
   have hd:=hc.2
   rw[Fv hv] at hd h⊢
   obtain⟨d1,d2⟩:=jH hd
   obtain⟨K,V,e1,e2,e3⟩:=bX h
   refine⟨⟨5,[],[],[],[],pK v,pV v,K,V⟩,e1,rfl,?_,by rw[e2,d1];simp⟩
   have e4:=Kb e2
   have e5:=Kb d1
   have e6:zT (pK v) (pV v)=false:=by
    cases hz:zT (pK v) (pV v) with
    |false=>rfl
    |true=>
     obtain⟨z1,z2⟩:=Qm.1 hz
     rw[z1] at e5
     obtain⟨m,m1,m2,m3⟩:=Pg e5
     omega
   unfold L9
   simp only
   rw[e4,e5,e6]
   show some (Ai 2 0 true (txE (pK v) (pV v))++Ai 2 1 true (txE K V))=some c
   rw[←d2,←Oc hv,←e3,hfl];simp
  ·rw[if_neg hc] at h;cases h
theorem Dw (g:Gn):Cn g=true↔(g.k=0∨g.k=8∨g.oid=[])∧(g.k=1∨g.k=2∨g.k=6∨g.tx=[])∧(g.k=0∨g.k=3∨g.k=7∨g.by'=[])∧(g.k=4∨g.nm=[])∧(g.k=5∨(g.ak=0∧g.av=[])∧(g.pk=0∧g.pv=[])):=by
 unfold Cn alB
 simp only[Aw,Bool.or_eq_true,beq_iff_eq,Qm]
 have l0:∀{α:Type} (l:List α),((l.length:Int)=0↔l=[]):=fun l=>⟨fun h=>List.eq_nil_of_length_eq_zero (by omega),fun h=>by rw[h];rfl⟩
 rw[l0,l0]
 constructor
 ·rintro⟨h1,h2,h3,h4,h5⟩
  refine⟨?_,?_,?_,h4,h5⟩
  ·rcases h1 with(h|h)|h<;>simp[h]
  ·rcases h2 with(h|h|h)|h<;>simp[h]
  ·rcases h3 with(h|h|h)|h<;>simp[h]
 ·rintro⟨h1,h2,h3,h4,h5⟩
  refine⟨?_,?_,?_,h4,h5⟩
  ·rcases h1 with h|h|h<;>simp[h]
  ·rcases h2 with h|h|h|h<;>simp[h]
  ·rcases h3 with h|h|h|h<;>simp[h]
theorem jM {g:Gn} {n:Nat} {c:List UInt8} (hk:g.k=n) (ha:Cn g=true) (hc:Ec g=some c) (hp:G6 g=true) (hs:g.sm):rdP n c=(g,true):=by
 obtain⟨k,oid,tx,by',nm,ak,av,pk,pv⟩:=g
 obtain⟨s1,s2,s3,s4,s5,s6⟩:=hs
 simp only at hk s1 s2 s3 s4 s5 s6
 subst hk
 rw[Dw] at ha
 obtain⟨a1,a2,a3,a4,a5⟩:=ha
 simp only at a1 a2 a3 a4 a5
 unfold Ec at hc
 simp only at hc
 rcases(by
  obtain⟨m,hm,e⟩:=N9 (g:=⟨(n:Int),oid,tx,by',nm,ak,av,pk,pv⟩) (c:=c) hc
  simp only at e
  omega:n=0∨n=1∨n=2∨n=3∨n=4∨n=5∨n=6∨n=7∨n=8) with rfl|rfl|rfl|rfl|rfl|rfl|rfl|rfl|rfl
 ·obtain rfl:tx=[]:=by simpa using a2
  obtain rfl:nm=[]:=by simpa using a4
  obtain⟨⟨rfl,rfl⟩,rfl,rfl⟩:(ak=0∧av=[])∧pk=0∧pv=[]:=by simpa using a5
  rw[if_pos (by rfl)] at hc
  by_cases ho:Es oid=true
  ·rw[if_pos ho] at hc
   obtain rfl:=Option.some.inj hc
   exact zL ho s1 s3
  ·rw[if_neg ho] at hc;cases hc
 ·obtain rfl:oid=[]:=by simpa using a1
  obtain rfl:by'=[]:=by simpa using a3
  obtain rfl:nm=[]:=by simpa using a4
  obtain⟨⟨rfl,rfl⟩,rfl,rfl⟩:(ak=0∧av=[])∧pk=0∧pv=[]:=by simpa using a5
  rw[if_neg (by decide),if_pos (by decide)] at hc
  by_cases ho:Ao 22 tx=true
  ·rw[if_pos ho] at hc
   obtain rfl:=Option.some.inj hc
   obtain⟨-,e2,e3⟩:=Ql ho
   show((⟨1,[],Cm 22 (chS 22 tx),[],[],0,[],0,[]⟩:Gn),Dl 22 (chS 22 tx)==0)=_
   rw[e2,e3];rfl
  ·rw[if_neg ho] at hc;cases hc
 ·obtain rfl:oid=[]:=by simpa using a1
  obtain rfl:by'=[]:=by simpa using a3
  obtain rfl:nm=[]:=by simpa using a4
  obtain⟨⟨rfl,rfl⟩,rfl,rfl⟩:(ak=0∧av=[])∧pk=0∧pv=[]:=by simpa using a5
  rw[if_neg (by decide),if_pos (by decide)] at hc
  by_cases ho:Ao 22 tx=true
  ·rw[if_pos ho] at hc
   obtain rfl:=Option.some.inj hc
   obtain⟨-,e2,e3⟩:=Ql ho
   show((⟨2,[],Cm 22 (chS 22 tx),[],[],0,[],0,[]⟩:Gn),Dl 22 (chS 22 tx)==0)=_
   rw[e2,e3];rfl
  ·rw[if_neg ho] at hc;cases hc
 ·obtain rfl:oid=[]:=by simpa using a1
  obtain rfl:tx=[]:=by simpa using a2
  obtain rfl:nm=[]:=by simpa using a4
  obtain⟨⟨rfl,rfl⟩,rfl,rfl⟩:(ak=0∧av=[])∧pk=0∧pv=[]:=by simpa using a5
  rw[if_neg (by decide),if_neg (by decide),if_pos (by decide)] at hc
  obtain rfl:=Option.some.inj hc
  rfl
 ·obtain rfl:oid=[]:=by simpa using a1
  obtain rfl:tx=[]:=by simpa using a2
  obtain rfl:by'=[]:=by simpa using a3
  obtain⟨⟨rfl,rfl⟩,rfl,rfl⟩:(ak=0∧av=[])∧pk=0∧pv=[]:=by simpa using a5
  rw[if_neg (by decide),if_neg (by decide),if_neg (by decide),if_pos (by rfl)] at hc
  by_cases ho:nmV nm=true
  ·rw[if_pos ho] at hc
   obtain rfl:=Option.some.inj hc
   have:=zI ho s4
   show Ph 4 (nmE nm)=_
   unfold Ph
   generalize nmR (nmE nm)=q at this
   obtain⟨o,cc,p⟩:=q
   simp only at this
   subst this
   rfl
  ·rw[if_neg ho] at hc;cases hc
 ·obtain rfl:oid=[]:=by simpa using a1
  obtain rfl:tx=[]:=by simpa using a2
  obtain rfl:by'=[]:=by simpa using a3
  obtain rfl:nm=[]:=by simpa using a4
  rw[if_neg (by decide),if_neg (by decide),if_neg (by decide),if_neg (by decide),if_pos (by rfl)] at hc
  exact(jL (g:=⟨((5:Nat):Int),[],[],[],[],ak,av,pk,pv⟩) rfl hc s5 s6).2 hp
 ·obtain rfl:oid=[]:=by simpa using a1
  obtain rfl:by'=[]:=by simpa using a3
  obtain rfl:nm=[]:=by simpa using a4
  obtain⟨⟨rfl,rfl⟩,rfl,rfl⟩:(ak=0∧av=[])∧pk=0∧pv=[]:=by simpa using a5
  rw[if_neg (by decide),if_pos (by decide)] at hc
  by_cases ho:Ao 22 tx=true
  ·rw[if_pos ho] at hc
   obtain rfl:=Option.some.inj hc
   obtain⟨-,e2,e3⟩:=Ql ho
   show((⟨6,[],Cm 22 (chS 22 tx),[],[],0,[],0,[]⟩:Gn),Dl 22 (chS 22 tx)==0)=_
   rw[e2,e3];rfl
  ·rw[if_neg ho] at hc;cases hc
 ·obtain rfl:oid=[]:=by simpa using a1
  obtain rfl:tx=[]:=by simpa using a2
  obtain rfl:nm=[]:=by simpa using a4
  obtain⟨⟨rfl,rfl⟩,rfl,rfl⟩:(ak=0∧av=[])∧pk=0∧pv=[]:=by simpa using a5
  rw[if_neg (by decide),if_neg (by decide),if_pos (by decide)] at hc
  obtain rfl:=Option.some.inj hc
  rfl
 ·obtain rfl:tx=[]:=by simpa using a2
  obtain rfl:by'=[]:=by simpa using a3
  obtain rfl:nm=[]:=by simpa using a4
  obtain⟨⟨rfl,rfl⟩,rfl,rfl⟩:(ak=0∧av=[])∧pk=0∧pv=[]:=by simpa using a5
  rw[if_neg (by decide),if_neg (by decide),if_neg (by decide),if_neg (by decide),if_neg (by decide),if_pos (by rfl)] at hc
  by_cases ho:Es oid=true
  ·rw[if_pos ho] at hc
   obtain rfl:=Option.some.inj hc
   obtain⟨e1,e2⟩:=Tl ho
   show((⟨8,odT (Bm oid),[],[],[],0,[],0,[]⟩:Gn),(odC (Bm oid):Int)==0)=_
   rw[e1,e2];rfl
  ·rw[if_neg ho] at hc;cases hc
theorem zO {n:Nat} {c:List UInt8} (hn:n≤8) (hl:c.length≤800000) (h:(rdP n c).2=true):(rdP n c).1.k=n∧Cn (rdP n c).1=true∧Ec (rdP n c).1=some c∧G6 (rdP n c).1=true:=by
 rcases(by omega:n=0∨n=1∨n=2∨n=3∨n=4∨n=5∨n=6∨n=7∨n=8) with rfl|rfl|rfl|rfl|rfl|rfl|rfl|rfl|rfl
 ·obtain⟨oid,by',e1,e2,e3⟩:=jJ hl (show(Na 0 c).2=true from h)
  show(Na 0 c).1.k=_∧Cn (Na 0 c).1=true∧Ec (Na 0 c).1=some c∧G6 (Na 0 c).1=true
  rw[e1]
  refine⟨rfl,by rw[Dw];simp,?_,rfl⟩
  unfold Ec
  rw[if_pos rfl]
  simp only
  rw[if_pos e2,e3]
 ·have hd:Dl 22 c=0:=by simpa[rdP] using h
  obtain⟨-,i2,i3⟩:=Yt hd
  refine⟨rfl,by rw[Dw];simp[rdP],?_,rfl⟩
  show(if Ao 22 (Cm 22 c)=true then some (chS 22 (Cm 22 c)) else none)=_
  rw[if_pos i2,i3]
 ·have hd:Dl 22 c=0:=by simpa[rdP] using h
  obtain⟨-,i2,i3⟩:=Yt hd
  refine⟨rfl,by rw[Dw];simp[rdP],?_,rfl⟩
  show(if Ao 22 (Cm 22 c)=true then some (chS 22 (Cm 22 c)) else none)=_
  rw[if_pos i2,i3]
 ·exact⟨rfl,by rw[Dw];simp[rdP],rfl,rfl⟩
 ·have h':(Ph 4 c).2=true:=h
  have hi:=fun n hh=>zJ (b:=c) (n:=n) hh (by omega)
  show(Ph 4 c).1.k=_∧Cn (Ph 4 c).1=true∧Ec (Ph 4 c).1=some c∧G6 (Ph 4 c).1=true
  unfold Ph at h'⊢
  generalize nmR c=q at h' hi⊢
  obtain⟨o,cc,p⟩:=q
  cases o with
  |none=>cases h'
  |some nm=>
   obtain⟨i1,i2⟩:=hi nm rfl
   refine⟨rfl,by rw[Dw];simp,?_,rfl⟩
   show(if nmV nm=true then some (nmE nm) else none)=_
   rw[if_pos i1,←i2]
 ·obtain⟨g,e1,e2,e3,e4⟩:=zM (show(Ka 5 c).2=true from h)
  show(Ka 5 c).1.k=_∧Cn (Ka 5 c).1=true∧Ec (Ka 5 c).1=some c∧G6 (Ka 5 c).1=true
  rw[e1]
  have hk:g.k=5:=by rw[e2]
  refine⟨hk,by rw[Dw,e2];simp,?_,?_⟩
  ·show Ec g=some c
   unfold Ec
   rw[hk,if_neg (by decide),if_neg (by decide),if_neg (by decide),if_neg (by decide),if_pos rfl]
   exact e3
  ·show G6 g=true
   unfold G6;rw[e4];simp
 ·have hd:Dl 22 c=0:=by simpa[rdP] using h
  obtain⟨-,i2,i3⟩:=Yt hd
  refine⟨rfl,by rw[Dw];simp[rdP],?_,rfl⟩
  show(if Ao 22 (Cm 22 c)=true then some (chS 22 (Cm 22 c)) else none)=_
  rw[if_pos i2,i3]
 ·exact⟨rfl,by rw[Dw];simp[rdP],rfl,rfl⟩
 ·have hd:odC c=0:=by
   have h:((odC c:Int)==0)=true:=h
   rw[beq_iff_eq] at h;omega
  obtain⟨o1,o2⟩:=fF hd
  refine⟨rfl,by rw[Dw];simp[rdP],?_,rfl⟩
  show(if Es (odT c)=true then some (Bm (odT c)) else none)=_
  rw[if_pos o1,o2]
theorem M3 (g:Gn):gnW g=true↔Cn g=true∧Ri g=true∧(∃c,Ec g=some c)∧G6 g=true:=by
 unfold gnW
 simp only[Aw,Option.isSome_iff_exists]
theorem bY {g:Gn} (h:gnW g=true) (hs:g.mid):K5 (gnE g)=some g:=by
 obtain⟨h1,h2,⟨c,h3⟩,h4⟩:=(M3 g).1 h
 obtain⟨n,hn,hk⟩:=N9 h3
 have hl:=hs.c
 rw[h3] at hl
 have hl:c.length≤700000:=hl
 have e:gnE g=Ai 2 n (Dy n) c:=by unfold gnE;rw[h3,hk];rfl
 have hr:=jM hk h1 h3 h4 hs.s
 rw[e,bW hn (by omega),hr]
 have:okP (g,true)=true:=by unfold okP;rw[h2];rfl
 rw[if_pos this]
theorem tY {b:List UInt8} {g:Gn} (h:K5 b=some g) (hl:b.length≤800000):gnW g=true∧b=gnE g:=by
 obtain⟨n,c,hn,hc,hb,ho,rfl⟩:=tX h
 unfold okP at ho
 rw[Aw] at ho
 obtain⟨i1,i2,i3,i4⟩:=zO hn (by omega) ho.1
 refine⟨(M3 _).2 ⟨i2,ho.2,⟨c,i3⟩,i4⟩,?_⟩
 unfold gnE
 rw[i1,i3];exact hb
theorem DH {g:Gn} (hs:g.mid):Vg g=gnW g:=by
 cases hw:gnW g
 ·cases hv:Vg g with
  |false=>rfl
  |true=>
   exfalso
   unfold Vg at hv
   simp only[Aw] at hv
   obtain⟨v1,v2,v3,v4⟩:=hv
   obtain⟨c,h3⟩:=Option.isSome_iff_exists.1 v3
   obtain⟨n,hn,hk⟩:=N9 h3
   have hp:G6 g=false:=by
    unfold gnW at hw;rw[v1,v2,v3] at hw;exact hw
   have h5:g.k=5:=by
    unfold G6 at hp
    simp only[Bool.or_eq_false_iff,Bool.not_eq_false',beq_iff_eq] at hp
    exact hp.1
   have hl:=hs.c
   rw[h3] at hl
   have hl:c.length≤700000:=hl
   have e:gnE g=Ai 2 5 (Dy (5:Nat)) c:=by unfold gnE;rw[h3,h5];rfl
   have hc:L9 g=some c:=by
    unfold Ec at h3
    rw[h5,if_neg (by decide),if_neg (by decide),if_neg (by decide),if_neg (by decide),if_pos rfl] at h3
    exact h3
   have hq:=(jL h5 hc hs.s.a hs.s.p).1
   have:((zT g.ak g.av||fiB g.ak g.av)&&fiB g.pk g.pv)=false:=by
    unfold G6 at hp;rw[h5] at hp;exact hp
   rw[this] at hq
   rw[e,bW (by omega) (by omega)] at v4
   have ho:okP (rdP 5 c)=false:=by
    show((Ka 5 c).2&&Ri (Ka 5 c).1)=false
    rw[hq];rfl
   rw[ho] at v4;cases v4
 ·obtain⟨h1,h2,⟨c,h3⟩,h4⟩:=(M3 g).1 hw
  unfold Vg
  rw[bY hw hs,h1,h2,h3];rfl
end Go.Proofs.YtgamacmidohpfaaGreatDoor
