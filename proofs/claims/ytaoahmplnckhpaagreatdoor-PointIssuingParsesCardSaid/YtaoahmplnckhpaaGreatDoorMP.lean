/- MP: the texts GenM GenR DnP GenL GenX GenY, one behind the other. No condition but what each lemma says. -/
import Derived.Test.YtaoahmplnckhpaaGreatDoorMO
import Derived.Test.YtaoahmplnckhpaaGreatDoorGEncPlain
set_option maxRecDepth 100000
set_option maxHeartbeats 16000000
namespace Go.Proofs.YtaoahmplnckhpaaGreatDoor
open Go.RowKit
def rdP (n:Nat) (c:List UInt8):Gn×Bool:=match n with
 |0=>Ny 0 c
 |1=>(⟨1,[],Cw 22 c,[],[],0,[],0,[]⟩,D4 22 c==0)
 |2=>(⟨2,[],Cw 22 c,[],[],0,[],0,[]⟩,D4 22 c==0)
 |3=>(⟨3,[],[],c,[],0,[],0,[]⟩,true)
 |4=>Qm 4 c
 |5=>K3 5 c
 |6=>(⟨6,[],Cw 22 c,[],[],0,[],0,[]⟩,D4 22 c==0)
 |7=>(⟨7,[],[],c,[],0,[],0,[]⟩,true)
 |8=>(⟨8,odT c,[],[],[],0,[],0,[]⟩,(odC c:Int)==0)
 |_=>(gz,false)
def Qo (x:El):Bool:=x.c==2&&(decide (x.n≤8)&&(x.k==D0 x.n))
def okP (p:Gn×Bool):Bool:=p.2&&S3 p.1
def Wa (b:List UInt8) (r:ElR):Option Gn:=if r.code≠0 then none else if Qo r.x=false then none else if okP (rdP r.x.n ((b.drop r.x.body).take (r.x.stop-r.x.body)))=true then some (rdP r.x.n ((b.drop r.x.body).take (r.x.stop-r.x.body))).1 else none
def L1 (b:List UInt8):Option Gn:=Wa b (Bh b)
def bA (r:ElR):Nat×Nat:=if r.code≠0 then(r.code,r.off) else if Qo r.x=false then(3,0) else(6,r.x.body)
def Wb (b:List UInt8):Nat×Nat:=bA (Bh b)
theorem Wc {b:List UInt8} {x:El} (h:Qo x=false):Wa b ⟨x,0,0⟩=none∧bA ⟨x,0,0⟩=(3,0):=by
 refine⟨?_,?_⟩
 ·unfold Wa;rw[if_neg (by simp),if_pos h]
 ·unfold bA;rw[if_neg (by simp),if_pos h]
theorem nY {b:List UInt8} {x:El} (h:Qo x=true) (h2:okP (rdP x.n ((b.drop x.body).take (x.stop-x.body)))=false):Wa b ⟨x,0,0⟩=none∧bA ⟨x,0,0⟩=(6,x.body):=by
 refine⟨?_,?_⟩
 ·unfold Wa;simp only;rw[if_neg (by simp),if_neg (by rw[h];simp),if_neg (by rw[h2];simp)]
 ·unfold bA;rw[if_neg (by simp),if_neg (by rw[h];simp)]
theorem fS {b:List UInt8} {x:El} (h:Qo x=true) (h2:okP (rdP x.n ((b.drop x.body).take (x.stop-x.body)))=true):Wa b ⟨x,0,0⟩=some (rdP x.n ((b.drop x.body).take (x.stop-x.body))).1:=by
 unfold Wa;simp only;rw[if_neg (by simp),if_neg (by rw[h];simp),if_pos h2]
def gnR (o:Option Gn) (e:Nat×Nat):AV:=match o with
 |some g=> .tup [gnQ g,erA 0 0]
 |none=> .tup [gnQ gz,erA e.1 e.2]
theorem bB (b:List UInt8):(Wb b).1≠0∧(Wb b).2≤b.length:=by
 have hF:=D6 b
 unfold Wb bA
 by_cases h1:(Bh b).code≠0
 ·rw[if_pos h1];exact⟨h1,hF.2.2.1⟩
 rw[if_neg h1]
 split
 ·exact⟨by simp,Nat.zero_le _⟩
 ·have:=hF.1 (Decidable.not_not.1 h1)
  exact⟨by simp,by show(Bh b).x.body≤_;omega⟩
theorem EU (k:Int) (c:List UInt8):(Ny k c).1.by'.length≤c.length:=by
 have hm:=fun p=>O7 (c:=c) (p:=p)
 unfold Ny
 generalize Dv c=l at hm
 match l with
 |[]=>exact Nat.zero_le _
 |[x]=>exact Nat.zero_le _
 |x::y::z::r=>exact Nat.zero_le _
 |[p,q]=>
  show(Xk k p q).1.by'.length≤_
  unfold Xk
  split
  ·exact Nat.zero_le _
  ·have:=hm q (by simp)
   have:=Qn q 0
   show(inn q 0).length≤_
   omega
theorem EV (k:Int) (c:List UInt8):(K3 k c).1.by'=[]:=by
 unfold K3
 match Dv c with
 |[]=>rfl
 |[q]=>rfl
 |x::y::z::r=>rfl
 |[p,q]=>
  show(if(Bv p 0).isSome&&Gj (inn p 0) then Lj k q (pK (inn p 0)) (pV (inn p 0)) else(gz,false)).1.by'=[]
  split<;>rfl
theorem EW (k:Int) (c:List UInt8):(Qm k c).1.by'=[]:=by
 unfold Qm;split<;>rfl
theorem yO {C:Cx} {o:Oper} {σ:AS} {t:Nat} {x y:Operand} {k:Int} (h:rdF k=none) (ho:o.op= .lookup 152 x y true) (hd:o.dst=some t) (ht:t<C.N) (hx:σ.eval x=some rdA) (hy:σ.eval y=some (iv k)):
 LA Tryz.prog C o ⟨[],some (t,.tup [.d (.v .nilFunc),bv false]),none,none,[],[],[],[]⟩ σ:=by
 have:=Iq ho hd ht hx hy
 unfold fnA at this
 rwa[h] at this
def OJ:Nat→FuncId
 |0=>133
 |3=>135
 |4=>136
 |5=>137
 |7=>135
 |8=>138
 |_=>134
theorem EX {n:Nat} (hn:n≤8) (c:List UInt8) (hl:c.length≤800000):Ab Tryz.prog (OJ n) [ptA n c] (fun r=>r=gbA (rdP n c))∧(rdP n c).1.by'.length≤100000000:=by
 have l0:([]:List UInt8).length≤100000000:=by simp
 rcases(by omega:n=0∨n=1∨n=2∨n=3∨n=4∨n=5∨n=6∨n=7∨n=8) with rfl|rfl|rfl|rfl|rfl|rfl|rfl|rfl|rfl
 ·exact⟨yM 0 c hl,by have:=EU 0 c;show(Ny 0 _).1.by'.length≤_;omega⟩
 ·exact⟨Rx 1 c (by omega),l0⟩
 ·exact⟨Rx 2 c (by omega),l0⟩
 ·exact⟨V8 3 c (by omega),by show c.length≤_;omega⟩
 ·exact⟨yL 4 c hl,by show(Qm 4 _).1.by'.length≤_;rw[EW];exact l0⟩
 ·exact⟨yN 5 c hl,by show(K3 5 _).1.by'.length≤_;rw[EV];exact l0⟩
 ·exact⟨Rx 6 c (by omega),l0⟩
 ·exact⟨V8 7 c (by omega),by show c.length≤_;omega⟩
 ·exact⟨fQ 8 c (by omega),l0⟩
theorem Gi {p:Prop} (h:p:=by first|rfl|(simp only[AV.gives,AV.ren,AV.give,D.un,D.uns,Aj,Am,List.nil_append,List.append_nil,List.cons_append,Av,A6,Cc,Bn,A8,B5,Cj,B6,Bk];first|done|rfl)):p:=h
theorem yP (b:List UInt8) (hb:b.length≤800000) (x:El) (hx:x.body≤x.stop∧x.stop≤b.length) (hn:x.n≤8) (hO:Ab Tryz.prog 87 [.d (Af false b)] (fun r=>r=erR ⟨x,0,0⟩)):Ab Tryz.prog 68 [.d (Af false b)] (fun r=>r=gnR (Wa b ⟨x,0,0⟩) (bA ⟨x,0,0⟩)):=by
 obtain⟨c,n,k,p,body,stop⟩:=x
 simp only at hx hn
 have hlc:((b.drop body).take (stop-body)).length≤b.length:=by rw[Ao,Ax];omega
 obtain⟨hR,hl⟩:=EX hn ((b.drop body).take (stop-body)) (by omega)
 have gt:Qo ⟨c,n,k,p,body,stop⟩=(c==2&&(true&&(k==D0 n))):=by unfold Qo;rw[decide_eq_true hn]
 obtain⟨con,hcon,hK⟩:∃con:Bool,D0 (n:Int)=con∧Ab Tryz.prog 67 [iv n] (fun r=>r=bv con):=⟨_,rfl,fR n⟩
 rw[hcon] at gt
 rcases(by omega:n=0∨n=1∨n=2∨n=3∨n=4∨n=5∨n=6∨n=7∨n=8) with rfl|rfl|rfl|rfl|rfl|rfl|rfl|rfl|rfl
 all_goals cases con
 all_goals try(exact absurd hcon (by decide))
 all_goals
  clear hn hcon
  cases hc:(c==2)
  ·have e:=Wc (b:=b) (gt.trans (by rw[hc];rfl))
   rw[e.1,e.2]
   have g1:((c:Int) !=2)=true:=by rw[bne_iff_ne];rw[beq_eq_false_iff_ne] at hc;omega
   refine acQ 70 Tryz.func68 rfl rfl fun _ _ _=> ?_
   (repeat'((conv=>whnf);first|refine Ac ?_|refine Ae ?_|refine Aw asP ?_|refine Aa hO Gi ?_|refine Aa Gr rfl ?_|refine NLa.mk ⟨_,Iq rfl rfl (ltN rfl) rfl rfl,?_⟩|refine zF ?_|exact zE))
  have g1:((c:Int) !=2)=false:=by rw[bne_eq_false_iff_eq];rw[beq_iff_eq] at hc;omega
  cases k
  all_goals try
   have hk:=gt.trans (show _=false by rw[hc];rfl)
   have e:=Wc (b:=b) hk
   rw[e.1,e.2]
   refine acQ 70 Tryz.func68 rfl rfl fun _ _ _=> ?_
   (repeat'((conv=>whnf);first|refine Ac ?_|refine Ae ?_|refine Ay asP ?_|refine Aa hO Gi ?_|refine Aa Gr rfl ?_|refine Aa hK rfl ?_|refine NLa.mk ⟨_,Iq rfl rfl (ltN rfl) rfl rfl,?_⟩|refine zF ?_|exact zE))
  have ht:=gt.trans (show _=true by rw[hc];rfl)
  have eN:=nY (b:=b) ht
  have eY:=fS (b:=b) ht
  simp only at eN eY
  generalize rdP _ ((b.drop body).take (stop-body))=q at hR hl eN eY
  obtain⟨g,ok⟩:=q
  simp only at hl eN eY
  have hT:=Ys g hl
  simp only[gbA] at hR
  cases ok
  ·rw[(eN rfl).1,(eN rfl).2]
   refine acQ 70 Tryz.func68 rfl rfl fun _ _ _=> ?_
   (repeat'((conv=>whnf);first|refine Ac ?_|refine Ae ?_|refine Ay asP ?_|refine Aa hO Gi ?_|refine Aa Gr rfl ?_|refine Aa hK rfl ?_|refine NSl.slice (body) (stop) ?_|refine Aa hR Gi ?_|refine NLa.mk ⟨_,Iq rfl rfl (ltN rfl) rfl rfl,?_⟩|refine zF ?_|exact zE))
  cases hfi:S3 g
  ·rw[hfi] at hT
   have e:=eN (show(true&&S3 g)=false by rw[hfi];rfl)
   rw[e.1,e.2]
   refine acQ 70 Tryz.func68 rfl rfl fun _ _ _=> ?_
   (repeat'((conv=>whnf);first|refine Ac ?_|refine Ae ?_|refine Ay asP ?_|refine Aa hO Gi ?_|refine Aa Gr rfl ?_|refine Aa hK rfl ?_|refine NSl.slice (body) (stop) ?_|refine Aa hR Gi ?_|refine Aa hT Gi ?_|refine NLa.mk ⟨_,Iq rfl rfl (ltN rfl) rfl rfl,?_⟩|refine zF ?_|exact zE))
  ·rw[hfi] at hT
   rw[eY (show(true&&S3 g)=true by rw[hfi];rfl)]
   refine acQ 70 Tryz.func68 rfl rfl fun _ _ _=> ?_
   (repeat'((conv=>whnf);first|refine Ae ?_|refine Ay asP ?_|refine Aa hO Gi ?_|refine Aa Gr rfl ?_|refine Aa hK rfl ?_|refine NSl.slice (body) (stop) ?_|refine Aa hR Gi ?_|refine Aa hT Gi ?_|refine NLa.mk ⟨_,Iq rfl rfl (ltN rfl) rfl rfl,?_⟩|refine zF ?_|exact zE))
theorem We (b:List UInt8) (hb:b.length≤800000):Ab Tryz.prog 68 [.d (Af false b)] (fun r=>r=gnR (L1 b) (Wb b)):=by
 have hO:=Ld b (by omega)
 have hF:=D6 b
 unfold L1 Wb
 generalize Bh b=r at hO hF⊢
 obtain⟨x,c,o⟩:=r
 by_cases h1:c=0
 ·subst h1
  obtain⟨f1,f2,f3,f4,f5⟩:=hF.1 rfl
  simp only at f1 f2 f3 f4 f5
  subst f5
  have hx:x.body≤x.stop∧x.stop≤b.length:=by omega
  by_cases hn:x.n≤8
  ·exact yP b hb x hx hn hO
  ·have gt:Qo x=false:=by unfold Qo;rw[decide_eq_false hn];simp
   have e:=Wc (b:=b) gt
   rw[e.1,e.2]
   obtain⟨c,n,k,p,body,stop⟩:=x
   simp only at hn
   have hr:rdF (n:Int)=none:=by
    unfold rdF
    rw[if_neg (by omega),if_neg (by omega),if_neg (by omega),if_neg (by omega),if_neg (by omega),if_neg (by omega)]
   show Ab _ _ _ (fun r=>r= .tup [gnQ gz,erA 3 0])
   refine acQ 70 Tryz.func68 rfl rfl fun _ _ _=> ?_
   (repeat'((conv=>whnf);first|refine Ac ?_|refine Ae ?_|refine Aa hO Gi ?_|refine Aa Gr rfl ?_|refine NLa.mk ⟨_,yO hr rfl rfl (ltN rfl) rfl rfl,?_⟩|refine zF ?_|exact zE))
 ·have gc:((c:Int) !=0)=true:=by rw[bne_iff_ne];omega
  rw[show Wa b ⟨x,c,o⟩=none by unfold Wa;rw[if_pos h1],show bA ⟨x,c,o⟩=(c,o) by unfold bA;rw[if_pos h1]]
  show Ab _ _ _ (fun r=>r= .tup [gnQ gz,erA c o])
  refine acQ 70 Tryz.func68 rfl rfl fun _ _ _=> ?_
  (repeat'((conv=>whnf);first|refine Aw asP ?_|refine Aa hO Gi ?_|refine zF ?_|exact zE))
def gnE (g:Gn):List UInt8:=Ah 2 g.k.toNat (D0 g.k) ((Eg g).getD [])
def Xl (g:Gn):Bool:=Ct g&&(S3 g&&((Eg g).isSome&&(L1 (gnE g)).isSome))
def O8 (o:Bool) (b:List UInt8):AV:=if o=true then .tup [A7 0 5 b,iv 0] else .tup [A3,iv 8]
theorem O9 {g:Gn} {c:List UInt8} (h:Eg g=some c):∃n:Nat,n≤8∧g.k=n:=by
 unfold Eg at h
 by_cases h0:g.k=0
 ·exact⟨0,by omega,h0⟩
 rw[if_neg h0] at h
 by_cases h1:g.k=1∨g.k=2∨g.k=6
 ·exact⟨g.k.toNat,by omega,by omega⟩
 rw[if_neg h1] at h
 by_cases h2:g.k=3∨g.k=7
 ·exact⟨g.k.toNat,by omega,by omega⟩
 rw[if_neg h2] at h
 by_cases h3:g.k=4
 ·exact⟨4,by omega,h3⟩
 rw[if_neg h3] at h
 by_cases h4:g.k=5
 ·exact⟨5,by omega,h4⟩
 rw[if_neg h4] at h
 by_cases h5:g.k=8
 ·exact⟨8,by omega,h5⟩
 rw[if_neg h5] at h;cases h
theorem Dp {p:Prop} (h:p:=by first|rfl|(simp only[AV.gives,AV.ren,AV.give,D.un,D.uns,Aj,Am,List.nil_append,List.append_nil,List.cons_append,Av,A6,Cc,Bn,A8,B5,Cj,B6,Bk,Bw,Bd];first|done|rfl)):p:=h
theorem lL (g:Gn) (hs:g.sm) (hl:((Eg g).getD []).length≤700000):Ab Tryz.prog 31 [gnA g] (fun r=>r=O8 (Xl g) (gnE g)):=by
 have hA:=sW g
 have hF:=Ys g (by have:=hs.b;omega)
 have hC:=aZ g hs
 unfold Xl O8
 cases ha:Ct g
 ·rw[ha] at hA
  show Ab _ _ _ (fun r=>r= .tup [A3,iv 8])
  refine acQ 48 Tryz.func31 rfl rfl fun _ _ _=> ?_
  (repeat'((conv=>whnf);first|refine Ac ?_|refine Aa hA Dp ?_|exact zE))
 rw[ha] at hA
 cases hf:S3 g
 ·rw[hf] at hF
  show Ab _ _ _ (fun r=>r= .tup [A3,iv 8])
  refine acQ 48 Tryz.func31 rfl rfl fun _ _ _=> ?_
  (repeat'((conv=>whnf);first|refine Ac ?_|refine Ae ?_|refine Aa hA Dp ?_|refine Aa hF Dp ?_|exact zE))
 rw[hf] at hF
 cases hc:Eg g with
 |none=>
  rw[hc] at hC
  have hC:Ab Tryz.prog 66 [gnA g] (fun r=>r= .tup [.d (Af false []),iv 8]):=hC
  show Ab _ _ _ (fun r=>r= .tup [A3,iv 8])
  refine acQ 48 Tryz.func31 rfl rfl fun _ _ _=> ?_
  (repeat'((conv=>whnf);first|refine Ac ?_|refine Ae ?_|refine Aa hA Dp ?_|refine Aa hF Dp ?_|refine Aa hC Dp ?_|exact zE))
 |some c=>
  obtain⟨n,hn,hk⟩:=O9 hc
  rw[hc] at hC hl
  have hC:Ab Tryz.prog 66 [gnA g] (fun r=>r= .tup [.d (Af false c),iv 0]):=hC
  have hl:c.length≤700000:=hl
  have hK:=fR g.k
  have hW:=D2 2 n (D0 g.k) c (by omega) (by omega) (by omega)
  have hle:=Ar 2 n (D0 g.k) c (by omega)
  have hP:=We (Ah 2 n (D0 g.k) c) (by omega)
  have he:=bB (Ah 2 n (D0 g.k) c)
  have e:gnE g=Ah 2 n (D0 g.k) c:=by unfold gnE;rw[hc,hk];rfl
  rw[e]
  generalize Wb (Ah 2 n (D0 g.k) c)=er at hP he
  obtain⟨ec,eo⟩:=er
  simp only at he
  have gc:((ec:Int) !=0)=true:=by rw[bne_iff_ne];omega
  obtain⟨k,oid,tx,by',nm,ak,av,pk,pv⟩:=g
  simp only at hk
  subst hk
  simp only at hK hW hP hle⊢
  generalize Ah 2 n (D0 (n:Int)) c=b at hW hP⊢
  cases ho:L1 b with
  |none=>
   rw[ho] at hP
   have hP:Ab Tryz.prog 68 [.d (Af false b)] (fun r=>r= .tup [gnQ gz,erA ec eo]):=hP
   show Ab _ _ _ (fun r=>r= .tup [A3,iv 8])
   refine acQ 48 Tryz.func31 rfl rfl fun _ _ _=> ?_
   (repeat'((conv=>whnf);first|refine Ae ?_|refine Aw asP ?_|refine Aa hA Dp ?_|refine Aa hF Dp ?_|refine Aa hC Dp ?_|refine Aa hK rfl ?_|refine Aa hW Dp ?_|refine Aa hP Dp ?_|refine zF ?_|exact zE))
  |some v=>
   rw[ho] at hP
   have hP:Ab Tryz.prog 68 [.d (Af false b)] (fun r=>r= .tup [gnQ v,erA 0 0]):=hP
   show Ab _ _ _ (fun r=>r= .tup [A7 0 5 b,iv 0])
   refine acQ 48 Tryz.func31 rfl rfl fun _ _ _=> ?_
   (repeat'((conv=>whnf);first|refine Ae ?_|refine Aa hA Dp ?_|refine Aa hF Dp ?_|refine Aa hC Dp ?_|refine Aa hK rfl ?_|refine Aa hW Dp ?_|refine Aa hP Dp ?_|refine zF ?_|exact zE))
structure Gn.mid (g:Gn):Prop where
 s:g.sm
 c:((Eg g).getD []).length≤700000
def bC (l:List Gn):Bool:= !l.isEmpty&&l.all Xl
def S4 (l:List Gn):List UInt8:=Ah 0 16 true (l.map gnE).flatten
theorem EY {g:Gn} (h:g.mid):(gnE g).length≤700006:=by
 have:=h.c
 have:=Ar 2 g.k.toNat (D0 g.k) ((Eg g).getD []) (by omega)
 unfold gnE;omega
structure gnsM (l:List Gn):Prop where
 n:l.length≤1000000
 m:∀g∈l,g.mid
 e:(l.map gnE).flatten.length≤800000000
theorem Sw (l:List Gn) (hz:gnsM l):Ab Tryz.prog 48 [.d (G3 l)] (fun r=>r=O8 (bC l) (S4 l)):=by
 obtain⟨hl,hs,hq⟩:=hz
 have hS:=P3 (l.map gnE) (by omega) (by rw[List.length_map];omega)
 refine acQ 35 Tryz.func48 rfl rfl fun _ _ _=> ?_
 (all_goals(conv=>whnf))
 refine Bb [.s 4 1 33] (fun i:Nat=>i≤l.length∧(l.take i).all Xl=true) (fun i=>l.length-i) (fun i=>⟨[(4,Bw 4 1 33 Du ((l.take i).map gnE)),(9,.d (G3 l)),(10,iv l.length),(11,iv i)],[],[(4,(((l.take i).map gnE).length,1,33))]⟩) 0 ⟨by omega,rfl⟩ leQ ?_
 rintro i ⟨hi,ha⟩
 have hml:((l.take i).map gnE).length≤1000000:=by rw[List.length_map,Ao];omega
 by_cases hik:i<l.length
 ·have gi:decide ((i:Int)<l.length)=true:=decide_eq_true (by omega)
  obtain⟨x,hg⟩:∃p,l[i]?=some p:=⟨_,An hik⟩
  have hm:=hs x (Bi hg)
  have hM:=lL x hm.s hm.c
  unfold O8 at hM
  cases hv:Xl x
  ·rw[hv,if_neg (by simp)] at hM
   rw[show O8 (bC l) (S4 l)= .tup [A3,iv 8] by unfold O8 bC;rw[aV hg hv,Bool.and_false,if_neg (by simp)]]
   (repeat'((conv=>whnf);first|refine Ac ?_|refine Aw asP ?_|refine NIdx.tab (fun _=>rfl) hg ?_|refine Aa hM Dp ?_|exact zE))
  ·rw[hv,if_pos rfl] at hM
   have hs':=G7 gnE hg
   (repeat'((conv=>whnf);first|refine Ae ?_|refine Aw asP ?_|refine NIdx.tab (fun _=>rfl) hg ?_|refine Aa hM Dp ?_|refine A4 Du (gnE x) ?_|(with_reducible refine NInt.i64 ?_)));(all_goals(conv=>whnf))
   refine⟨i+1,⟨by omega,Is Xl hg hv ha⟩,by omega,?_⟩
   rw[hs']
   exact leQ
 ·have gi:decide ((i:Int)<l.length)=false:=decide_eq_false (by omega)
  obtain rfl:i=l.length:=by omega
  rw[List.take_length] at ha⊢
  by_cases h0:l=[]
  ·subst h0
   (repeat'((conv=>whnf);first|refine Ac ?_|refine Ae ?_|exact zE))
  ·have gj:(((l.map gnE).length:Int)==0)=false:=by rw[beq_eq_false_iff_ne,List.length_map];intro h;exact h0 (List.eq_nil_of_length_eq_zero (by omega))
   rw[show O8 (bC l) (S4 l)= .tup [A7 0 5 (S4 l),iv 0] by unfold O8 bC;rw[ha,Bool.and_true,if_pos (by cases l with|nil=>exact absurd rfl h0|cons _ _=>rfl)]]
   (repeat'((conv=>whnf);first|refine Ay asP ?_|refine Aa hS Dp ?_|exact zE))
theorem fT (l:List Gn) (hz:gnsM l):Ab Tryz.prog 52 [.d (G3 l)] (fun r=>r=bv (bC l)):=by
 have hM:=Sw l hz
 unfold O8 at hM
 cases hv:bC l
 all_goals
  rw[hv] at hM
  first|rw[if_pos rfl] at hM|rw[if_neg (by simp)] at hM
  refine acQ 12 Tryz.func52 rfl rfl fun _ _ _=> ?_
  (repeat'((conv=>whnf);refine Aa hM Dp ?_));(all_goals(conv=>whnf))
  all_goals exact zE
theorem Ry {k:Int} {l:List UInt8} (h:Al k l=true):Fg k (chS k l)=k∧Cw k (chS k l)=l∧D4 k (chS k l)=0:=by
 have:=CM h
 unfold Fc at this
 rwa[if_pos h] at this
theorem bD {k:Int} {c:List UInt8} (h:D4 k c=0):Fg k c=k∧Al k (Cw k c)=true∧chS k (Cw k c)=c:=by
 unfold D4 at h
 unfold Fg Cw
 split at h
 ·cases h
 ·rename_i hk
  split at h
  ·rename_i ho
   rw[if_neg hk,if_neg hk,if_pos ho,if_pos ho]
   unfold okD at ho
   simp only[At,beq_iff_eq] at ho
   exact⟨rfl,ho.1,ho.2⟩
  ·cases h
theorem Yt:∀{a b:List (List UInt8)},G2 (a++b)=true→G2 a=true
 |[],_,_=>rfl
 |[_],_,_=>rfl
 |x::y::r,b,h=>by
  have h':(decide (Fd x y<0)&&G2 (y::r++b))=true:=h
  rw[At] at h'
  rw[G2,h'.1,Yt h'.2];rfl
theorem KF {a:Att} (_:atV a=true) (hs:a.sm):∃t:Tv,t.ok∧atE a=t.enc:=by
 have k1:=Fa a.oid
 have:=hs.o
 have:=hs.v
 have k2:=Ar 0 6 false (Bo a.oid) (by omega)
 exact⟨⟨0,16,true,Ah 0 6 false (Bo a.oid)++a.val⟩,⟨by show(0:Nat)≤3;omega,by show(16:Nat)≤30;omega,by show(_++_:List UInt8).length≤_;rw[Ak];omega⟩,rfl⟩
theorem EZ {a:Att} (h:atV a=true) (hs:a.sm):atO (atE a)=some a:=by
 obtain⟨h1,h2⟩:=Tq h
 have k1:=Fa a.oid
 have o1:=hs.o
 have o2:=hs.v
 obtain⟨y,yo,ye⟩:=(Mv h2).tv (by omega)
 obtain⟨x,hx⟩:∃x:Tv,x=⟨0,6,false,Bo a.oid⟩:=⟨_,rfl⟩
 have xo:x.ok:=by subst hx;exact⟨by show(0:Nat)≤3;omega,by show(6:Nat)≤30;omega,by show(Bo a.oid).length≤_;omega⟩
 have e:atE a=Ah 0 16 true (Di [x,y]):=by
  unfold atE
  rw[Dg,Dg,←ye]
  subst hx
  show _=Ah 0 16 true (Ah 0 6 false (Bo a.oid)++(a.val++[]))
  rw[List.append_nil]
 have hl:(Di [x,y]).length≤2147483600:=by
  have:=Ar 0 6 false (Bo a.oid) (by omega)
  rw[Dg,Dg,←ye]
  subst hx
  show(Ah 0 6 false (Bo a.oid)++(a.val++[])).length≤_
  simp only[Ak,List.length_nil];omega
 have hp:=fI x y xo yo hl
 obtain⟨e1,e2⟩:=U9 h1
 have xv:x.v=Bo a.oid:=by subst hx;rfl
 have xi:(x.el 0).isB 0 6 false=true:=by subst hx;rfl
 rw[xv,if_pos ⟨xi,e2⟩,e1,←ye,←e] at hp
 unfold atO
 rw[hp]
 simp only
 rw[if_pos h2]
theorem sX {p id s:List UInt8} (h:fG p=some (id,s)) (hl:p.length≤2147483600):E4 id=true∧p=Ah 0 16 true (Ah 0 6 false (Bo id)++s)∧∃y:Tv,y.ok∧s=y.enc:=by
 obtain⟨c0,l2⟩:=lI h
 obtain⟨ts,t1,t2,-,-,t5⟩:=Ky c0
 have hlt:(Di ts).length≤2147483600:=by
  have:=congrArg List.length t2
  unfold Ah at this
  rw[E8] at this;omega
 obtain⟨q,e1,-⟩:=Gt (c:=0) (n:=16) ts (by omega) (by omega) t1 hlt
 rw[←t2] at e1
 rw[e1] at l2
 have l2':ts.length=2:=by rw[←aS q ts];exact l2
 obtain⟨x,y,rfl⟩:∃x y,ts=[x,y]:=by
  match ts,l2' with
  |[x,y],_=>exact⟨x,y,rfl⟩
 have hpp:=fI x y (t1 x (by simp)) (t1 y (by simp)) hlt
 rw[←t2,h] at hpp
 by_cases hc:(x.el 0).isB 0 6 false=true∧odC x.v=0
 ·rw[if_pos hc] at hpp
  simp only[Option.some.injEq,Prod.mk.injEq] at hpp
  obtain⟨rfl,rfl⟩:=hpp
  have hd:=kQ hc.2
  have hb:=hc.1
  unfold El.isB Tv.el at hb
  simp only[At,beq_iff_eq] at hb
  obtain⟨⟨b1,b2⟩,b3⟩:=hb
  have hxe:x.enc=Ah 0 6 false x.v:=by rw[Tv.enc,b1,b2,b3]
  refine⟨hd.1,?_,y,t1 y (by simp),rfl⟩
  rw[hd.2,←hxe,t2,Dg,Dg]
  show Ah 0 16 true (x.enc++(y.enc++[]))=_
  rw[List.append_nil]
 ·rw[if_neg hc] at hpp;cases hpp
theorem FA {p:List UInt8} {a:Att} (h:atO p=some a) (hl:p.length≤2147483600):atV a=true∧p=atE a:=by
 unfold atO at h
 cases hp:fG p with
 |none=>rw[hp] at h;cases h
 |some w=>
  obtain⟨id,s⟩:=w
  rw[hp] at h
  simp only at h
  by_cases ho:Ek s=true
  ·rw[if_pos ho] at h
   obtain rfl:=Option.some.inj h
   obtain⟨h1,h2,-⟩:=sX hp hl
   exact⟨by unfold atV;rw[h1,ho];rfl,h2⟩
  ·rw[if_neg ho] at h;cases h
def bE:List (List UInt8)→List (List UInt8)→List Att→Option (List Att)
 |[],_,out=>some out
 |p::r,ps,out=>match atO p with
  |none=>none
  |some a=>if G2 (ps++[p])=true then bE r (ps++[p]) (out++[a]) else none
theorem Wg (b:List UInt8):∀(l:List El) (ps:List (List UInt8)) (out:List Att),(S2 b l ps out).1=bE (l.map (elO b)) ps out
 |[],_,_=>rfl
 |x::r,ps,out=>by
  rw[S2,List.map_cons,bE]
  cases atO (elO b x) with
  |none=>rfl
  |some a=>
   simp only
   by_cases h:G2 (ps++[elO b x])=true
   ·rw[if_pos h,if_pos h];exact Wg b r _ _
   ·rw[if_neg h,if_neg h]
theorem fU:∀{r:List Att} {ps:List (List UInt8)} {out:List Att},r.all atV=true→(∀a∈r,a.sm)→G2 (ps++r.map atE)=true→bE (r.map atE) ps out=some (out++r)
 |[],_,_,_,_,_=>by simp[bE]
 |a::r,ps,out,h,hs,ho=>by
  rw[List.all_cons,At] at h
  rw[List.map_cons] at ho⊢
  have ho':G2 ((ps++[atE a])++r.map atE)=true:=by rw[List.append_assoc];exact ho
  rw[bE,EZ h.1 (hs a (by simp))]
  simp only
  rw[if_pos (Yt ho'),fU h.2 (fun k hk=>hs k (by simp[hk])) ho',List.append_assoc];rfl
theorem fV:∀{qs ps:List (List UInt8)} {out z:List Att},(∀p∈qs,p.length≤2147483600)→bE qs ps out=some z→∃r:List Att,z=out++r∧r.all atV=true∧qs=r.map atE∧(qs≠[]→G2 (ps++qs)=true)
 |[],_,out,z,_,h=>by
  rw[bE] at h
  obtain rfl:=Option.some.inj h
  exact⟨[],by simp,rfl,rfl,fun h=>absurd rfl h⟩
 |p::qs,ps,out,z,hl,h=>by
  rw[bE] at h
  cases ha:atO p with
  |none=>rw[ha] at h;cases h
  |some a=>
   rw[ha] at h
   simp only at h
   by_cases ho:G2 (ps++[p])=true
   ·rw[if_pos ho] at h
    obtain⟨r,e1,e2,e3,e4⟩:=fV (fun q hq=>hl q (by simp[hq])) h
    obtain⟨k1,k2⟩:=FA ha (hl p (by simp))
    refine⟨a::r,by rw[e1,List.append_assoc];rfl,by rw[List.all_cons,k1,e2];rfl,by rw[List.map_cons,←k2,←e3],fun _=> ?_⟩
    by_cases hq:qs=[]
    ·subst hq;exact ho
    ·have:=e4 hq
     rwa[List.append_assoc] at this
   ·rw[if_neg ho] at h;cases h
theorem FB {r:List Att} (h:r.all atV=true) (hs:∀a∈r,a.sm):∃ts:List Tv,(∀t∈ts,t.ok)∧r.map atE=ts.map Tv.enc:=
 To fun p hp=>by
  obtain⟨a,ha,rfl⟩:=List.mem_map.1 hp
  exact KF (List.all_eq_true.1 h a ha) (hs a ha)
theorem fW {r:List Att} (h:Ed r=true) (hz:rdnZ r):(I8 (Cv r)).1=some r:=by
 obtain⟨h0,h1,h2⟩:=Nq h
 obtain⟨hl,hs,hq⟩:=hz
 obtain⟨ts,t1,t2⟩:=FB h1 hs
 have hf:(r.map atE).flatten=Di ts:=by rw[t2,Fq]
 obtain⟨q,e1,e2⟩:=Gt (c:=0) (n:=17) ts (by omega) (by omega) t1 (by rw[←hf];omega)
 unfold I8 Cv
 rw[hf,e1,yJ,if_neg (by simp)]
 have hne:els q ts≠[]:=by
  intro e
  have:=congrArg List.length e
  rw[aS] at this
  have h3:=congrArg List.length t2
  rw[List.length_map,List.length_map] at h3
  exact h0 (List.eq_nil_of_length_eq_zero (by rw[h3];exact this))
 simp only
 rw[if_neg hne,Wg,e2,←t2]
 exact fU h1 hs h2
theorem fX {b:List UInt8} {r:List Att} (h:(I8 b).1=some r) (hl:b.length≤2147483600):Ed r=true∧b=Cv r:=by
 unfold I8 yJ at h
 by_cases h1:(Bc b 0 17).code≠0
 ·rw[if_pos h1] at h;cases h
 rw[if_neg h1] at h
 obtain⟨ts,t1,t2,-,-,-⟩:=Ky (Decidable.not_not.1 h1)
 have hlt:(Di ts).length≤b.length:=by
  have:=congrArg List.length t2
  unfold Ah at this
  rw[E8] at this;omega
 obtain⟨q,e1,e2⟩:=Gt (c:=0) (n:=17) ts (by omega) (by omega) t1 (by omega)
 rw[←t2] at e1 e2
 rw[e1] at h
 simp only at h
 by_cases hn:els q ts=[]
 ·rw[if_pos hn] at h;cases h
 rw[if_neg hn,Wg,e2] at h
 obtain⟨r',e3,e4,e5,e6⟩:=fV (fun p hp=>by
  have:=H3 hp
  rw[←Fq] at this;omega) h
 rw[List.nil_append] at e3
 subst e3
 have hne:ts.map Tv.enc≠[]:=by
  intro e
  have h5:ts=[]:=by simpa using e
  subst h5;exact hn rfl
 have ho:=e6 hne
 rw[List.nil_append,e5] at ho
 refine⟨?_,?_⟩
 ·unfold Ed
  rw[e4,ho]
  cases r with
  |nil=>exact absurd e5 hne
  |cons _ _=>rfl
 ·rw[t2]
  unfold Cv
  rw[Fq,e5]
def nmP:List (List UInt8)→List (List Att)→Option (List (List Att))
 |[],out=>some out
 |p::r,out=>match(I8 p).1 with
  |none=>none
  |some a=>nmP r (out++[a])
theorem bF (b:List UInt8):∀(l:List El) (out:List (List Att)),(nmL b l out).1=nmP (l.map (elO b)) out
 |[],_=>rfl
 |x::r,out=>by
  rw[nmL,List.map_cons,nmP]
  generalize I8 (elO b x)=q
  obtain⟨o,c,p⟩:=q
  cases o with
  |none=>rfl
  |some a=>exact bF b r _
theorem nZ:∀{n out:List (List Att)},n.all Ed=true→(∀r∈n,rdnZ r)→nmP (n.map Cv) out=some (out++n)
 |[],_,_,_=>by simp[nmP]
 |r::n,out,h,hs=>by
  rw[List.all_cons,At] at h
  have h1:=hs r (by simp)
  rw[List.map_cons,nmP,fW h.1 h1]
  simp only
  rw[nZ h.2 (fun k hk=>hs k (by simp[hk])),List.append_assoc];rfl
theorem oA:∀{qs:List (List UInt8)} {out z:List (List Att)},(∀p∈qs,p.length≤2147483600)→nmP qs out=some z→∃n:List (List Att),z=out++n∧n.all Ed=true∧qs=n.map Cv
 |[],out,z,_,h=>by
  rw[nmP] at h
  obtain rfl:=Option.some.inj h
  exact⟨[],by simp,rfl,rfl⟩
 |p::qs,out,z,hl,h=>by
  rw[nmP] at h
  cases ha:(I8 p).1 with
  |none=>rw[ha] at h;cases h
  |some a=>
   rw[ha] at h
   obtain⟨n,e1,e2,e3⟩:=oA (fun q hq=>hl q (by simp[hq])) h
   obtain⟨k1,k2⟩:=fX ha (hl p (by simp))
   exact⟨a::n,by rw[e1,List.append_assoc];rfl,by rw[List.all_cons,k1,e2];rfl,by rw[List.map_cons,←k2,←e3]⟩
theorem KG {r:List Att} (hz:rdnZ r):∃t:Tv,t.ok∧Cv r=t.enc:=by
 have hq:=hz.e
 exact⟨⟨0,17,true,(r.map atE).flatten⟩,⟨by show(0:Nat)≤3;omega,by show(17:Nat)≤30;omega,by show(r.map atE).flatten.length≤_;omega⟩,rfl⟩
theorem FC {n:List (List Att)} (h:nmV n=true) (hs:nmZ n):(nmR (nmE n)).1=some n:=by
 obtain⟨ts,t1,t2⟩:=To (l:=n.map Cv) fun p hp=>by
  obtain⟨r,hr,rfl⟩:=List.mem_map.1 hp
  exact KG (hs.r r hr)
 have hf:(n.map Cv).flatten=Di ts:=by rw[t2,Fq]
 have he:=hs.e
 obtain⟨q,e1,e2⟩:=Gt (c:=0) (n:=16) ts (by omega) (by omega) t1 (by rw[←hf];omega)
 unfold nmR nmE
 rw[hf,e1,nmQ,if_neg (by simp)]
 simp only
 rw[bF,e2,←t2]
 exact nZ h hs.r
theorem FD {b:List UInt8} {n:List (List Att)} (h:(nmR b).1=some n) (hl:b.length≤2147483600):nmV n=true∧b=nmE n:=by
 unfold nmR nmQ at h
 by_cases h1:(Bc b 0 16).code≠0
 ·rw[if_pos h1] at h;cases h
 rw[if_neg h1] at h
 obtain⟨ts,t1,t2,-,-,-⟩:=Ky (Decidable.not_not.1 h1)
 have hlt:(Di ts).length≤b.length:=by
  have:=congrArg List.length t2
  unfold Ah at this
  rw[E8] at this;omega
 obtain⟨q,e1,e2⟩:=Gt (c:=0) (n:=16) ts (by omega) (by omega) t1 (by omega)
 rw[←t2] at e1 e2
 rw[e1] at h
 simp only at h
 rw[bF,e2] at h
 obtain⟨n',e3,e4,e5⟩:=oA (fun p hp=>by
  have:=H3 hp
  rw[←Fq] at this;omega) h
 rw[List.nil_append] at e3
 subst e3
 refine⟨e4,?_⟩
 rw[t2]
 unfold nmE
 rw[Fq,e5]
theorem Pa {ts:List Tv} (h:∀t∈ts,t.ok):Dv (Di ts)=ts.map Tv.enc:=by
 have hp:=Np ts (Di ts) [] (Di ts).length h (by rw[List.take_length];rfl) (Nat.le_refl _)
 have he:=Tn ts (Di ts) [] (Di ts).length (by rw[List.take_length];rfl) (Nat.le_refl _)
 rw[List.length_nil] at hp he
 unfold Dv
 rw[hp,if_neg (by simp)]
 exact he
theorem Wh {c:List UInt8} (h:Dv c≠[]):∃ts:List Tv,(∀t∈ts,t.ok)∧c=Di ts∧Dv c=ts.map Tv.enc:=by
 by_cases h1:(Cy c 0 c.length).code≠0
 ·unfold Dv at h;rw[if_pos h1] at h;exact absurd rfl h
 ·obtain⟨ts,e1,e2,e3⟩:=Ru _ c 0 c.length (Nat.le_refl _) (by omega) (by omega) (Decidable.not_not.1 h1)
  rw[List.drop_zero,Nat.sub_zero,List.take_length] at e3
  exact⟨ts,e1,e3,by rw[e3];exact Pa e1⟩
theorem Pb {t:Tv} (h:t.ok) (n:Nat):Bv t.enc n=if t.c=2∧t.n=n∧t.k=true then some t.v else none:=by
 unfold Bv
 rw[H2 h]
 simp only
 have hi:(t.el 0).isB 2 n true=decide (t.c=2∧t.n=n∧t.k=true):=by
  unfold El.isB Tv.el
  rw[Bool.eq_iff_iff]
  simp only[At,beq_iff_eq,decide_eq_true_eq]
  exact⟨fun⟨⟨a,b⟩,c⟩=>⟨a,c,b⟩,fun⟨a,c,b⟩=>⟨⟨a,b⟩,c⟩⟩
 have hv:(t.enc.drop (0+t.hd)).take (0+t.enc.length-(0+t.hd))=t.v:=by
  rw[Nat.zero_add,Nat.zero_add,t.body]
  exact List.take_of_length_le (by rw[t.len];omega)
 by_cases hc:t.c=2∧t.n=n∧t.k=true
 ·rw[hi,decide_eq_true hc,if_neg (by simp),if_pos hc]
  show some ((t.enc.drop (0+t.hd)).take (0+t.enc.length-(0+t.hd)))=_
  rw[hv]
 ·rw[hi,decide_eq_false hc,if_pos (by simp),if_neg hc]
theorem I9 {n:Nat} {v:List UInt8} (hn:n≤30) (hv:v.length≤2147483600):Bv (Ah 2 n true v) n=some v:=by
 have:=Pb (t:=⟨2,n,true,v⟩) ⟨by show(2:Nat)≤3;omega,hn,by show v.length≤_;omega⟩ n
 rw[if_pos ⟨rfl,rfl,rfl⟩] at this
 exact this
theorem Hu {b v:List UInt8} {n:Nat} (h:Bv b n=some v):b=Ah 2 n true v:=by
 unfold Bv at h
 split at h
 ·cases h
 ·rename_i hh
  rw[not_or] at hh
  obtain⟨t,t1,t2,t3⟩:=Qj (Decidable.not_not.1 hh.1)
  have:=Pb t1 n
  rw[←t3] at this
  have hc:t.c=2∧t.n=n∧t.k=true:=by
   have hb:=hh.2
   rw[t2] at hb
   have hb:(t.el 0).isB 2 n true=true:=by simpa using hb
   unfold El.isB Tv.el at hb
   simp only[At,beq_iff_eq] at hb
   exact⟨hb.1.1,hb.2,hb.1.2⟩
  rw[if_pos hc] at this
  have h':Bv b n=some v:=by unfold Bv;rw[if_neg (by rw[not_or];exact hh)];exact h
  rw[this] at h'
  obtain rfl:=Option.some.inj h'
  rw[t3,Tv.enc,hc.1,hc.2.1,hc.2.2]
def fiB (k:Int) (l:List UInt8):Bool:=Al k l&&(!(l==[])&& !(k==22||k==26))
theorem KH {k:Int} {l:List UInt8} (h:Al k l=true) (hl:l.length≤500000000):∃n:Nat,k=n∧Tv.ok ⟨0,n,false,chS k l⟩∧txE k l=Tv.enc ⟨0,n,false,chS k l⟩:=by
 obtain⟨n,h1,h2,rfl⟩:=Ql h
 have h4:=Gu h
 exact⟨n,rfl,⟨by show(0:Nat)≤3;omega,h2,by show(chS (n:Int) l).length≤_;omega⟩,by unfold txE;rw[Int.toNat_natCast];rfl⟩
theorem oB {k:Int} {l:List UInt8} (h:Al k l=true) (hl:l.length≤500000000):Nx (txE k l)=k∧Rw (txE k l)=l∧aT (txE k l)=true:=by
 obtain⟨n,hk,ho,he⟩:=KH h hl
 have hc:=Ry h
 generalize ht:(⟨0,n,false,chS k l⟩:Tv)=t at ho he
 have h1:=H2 ho
 have hs:St t.enc=true:=by unfold St;rw[h1];subst ht;rfl
 have hcon:V4 t.enc=chS k l:=by
  unfold V4
  rw[h1]
  show(t.enc.drop (0+t.hd)).take (0+t.enc.length-(0+t.hd))=_
  rw[Nat.zero_add,Nat.zero_add,t.body,List.take_of_length_le (by rw[t.len];omega)]
  subst ht;rfl
 have hn:(Bh t.enc).x.n=n:=by rw[h1];subst ht;rfl
 rw[he]
 unfold Nx Rw aT
 rw[hs,hcon,hn,←hk]
 exact⟨hc.1,hc.2.1,by rw[hc.2.2];rfl⟩
theorem FE {b:List UInt8} (h:aT b=true):Al (Nx b) (Rw b)=true∧b=txE (Nx b) (Rw b):=by
 unfold aT at h
 rw[At] at h
 obtain⟨hs,hd⟩:=h
 have hs':=hs
 unfold St at hs'
 simp only[At,beq_iff_eq] at hs'
 obtain⟨t,t1,t2,t3⟩:=Qj hs'.1
 have hcon:V4 b=t.v:=by
  unfold V4
  rw[t2,t3]
  show(t.enc.drop (0+t.hd)).take (0+t.enc.length-(0+t.hd))=_
  rw[Nat.zero_add,Nat.zero_add,t.body,List.take_of_length_le (by rw[t.len];omega)]
 have hn:(Bh b).x.n=t.n:=by rw[t2];rfl
 have htc:t.c=0:=by have:=hs'.2.1;rw[t2] at this;exact this
 have htk:t.k=false:=by have:=hs'.2.2;rw[t2] at this;simpa[Tv.el] using this
 rw[hn,hcon] at hd
 have hd:D4 (t.n:Int) t.v=0:=by simpa using hd
 obtain⟨i1,i2,i3⟩:=bD hd
 have hK:Nx b=(t.n:Int):=by unfold Nx;rw[if_pos hs,hn,hcon];exact i1
 have hV:Rw b=Cw (t.n:Int) t.v:=by unfold Rw;rw[if_pos hs,hn,hcon]
 rw[hK,hV]
 refine⟨i2,?_⟩
 unfold txE
 rw[i3,Int.toNat_natCast,t3,Tv.enc,htc,htk]
theorem bG {k:Int} {l:List UInt8} (h:fiB k l=true) (hl:l.length≤500000000):Gj (txE k l)=true∧pK (txE k l)=k∧pV (txE k l)=l:=by
 have h':=h
 unfold fiB at h
 rw[At] at h
 obtain⟨s1,s2,s3⟩:=oB h.1 hl
 have hd:Gj (txE k l)=true:=by
  unfold Gj
  rw[s1,s2,s3,h.2];rfl
 refine⟨hd,?_,?_⟩
 ·unfold pK;rw[if_pos hd,s1]
 ·unfold pV;rw[if_pos hd,s2]
theorem oC {b:List UInt8} (h:Gj b=true):fiB (pK b) (pV b)=true∧b=txE (pK b) (pV b):=by
 have h':=h
 unfold Gj at h'
 rw[At] at h'
 obtain⟨s1,s2⟩:=FE h'.1
 unfold pK pV
 rw[if_pos h,if_pos h]
 refine⟨?_,s2⟩
 unfold fiB
 rw[s1,h'.2];rfl
theorem yQ {k:Int} {l:List UInt8} (hv:Al k l=true) (h:fiB k l=false) (hl:l.length≤500000000):Gj (txE k l)=false:=by
 cases hd:Gj (txE k l) with
 |false=>rfl
 |true=>
  exfalso
  obtain⟨s1,s2,s3⟩:=oB hv hl
  unfold Gj at hd
  rw[s1,s2,s3] at hd
  unfold fiB at h
  rw[hv] at h
  rw[h] at hd;cases hd
def Hv (g:Gn):Bool:= !(g.k==5)||((zT g.ak g.av||fiB g.ak g.av)&&fiB g.pk g.pv)
def gnW (g:Gn):Bool:=Ct g&&(S3 g&&((Eg g).isSome&&Hv g))
theorem Rz {k:Int} {l:List UInt8}:zT k l=true↔k=0∧l=[]:=by unfold zT;simp
theorem fY {n:Nat} {c:List UInt8} (hn:n≤8) (hl:c.length≤2147483600):L1 (Ah 2 n (D0 n) c)=if okP (rdP n c)=true then some (rdP n c).1 else none:=by
 obtain⟨t,ht⟩:∃t:Tv,t=⟨2,n,D0 n,c⟩:=⟨_,rfl⟩
 have hOk:t.ok:=by subst ht;exact⟨by show(2:Nat)≤3;omega,by show n≤30;omega,by show c.length≤_;omega⟩
 have he:Ah 2 n (D0 n) c=t.enc:=by subst ht;rfl
 have hv:t.v=c:=by subst ht;rfl
 have htag:Qo (t.el 0)=true:=by
  unfold Qo;subst ht
  show((2:Nat)==2&&(decide (n≤8)&&(D0 n==D0 n)))=true
  rw[decide_eq_true hn];simp
 have hn':(t.el 0).n=n:=by subst ht;rfl
 have hb:(t.enc.drop (t.el 0).body).take ((t.el 0).stop-(t.el 0).body)=c:=by
  show(t.enc.drop (0+t.hd)).take (0+t.enc.length-(0+t.hd))=_
  rw[Nat.zero_add,Nat.zero_add,t.body,List.take_of_length_le (by rw[t.len];omega),hv]
 rw[he]
 unfold L1
 rw[H2 hOk]
 cases ho:okP (rdP n c)
 ·rw[if_neg (by simp)]
  exact(nY htag (by rw[hn',hb];exact ho)).1
 ·rw[if_pos rfl]
  have:=fS (b:=t.enc) htag (by rw[hn',hb];exact ho)
  rw[this,hn',hb]
theorem yR {b:List UInt8} {g:Gn} (h:L1 b=some g):∃n:Nat,∃c:List UInt8,n≤8∧c.length≤b.length∧b=Ah 2 n (D0 n) c∧okP (rdP n c)=true∧g=(rdP n c).1:=by
 unfold L1 Wa at h
 by_cases h1:(Bh b).code≠0
 ·rw[if_pos h1] at h;cases h
 rw[if_neg h1] at h
 by_cases h2:Qo (Bh b).x=false
 ·rw[if_pos h2] at h;cases h
 rw[if_neg h2] at h
 obtain⟨t,t1,t2,t3⟩:=Qj (Decidable.not_not.1 h1)
 have hb:(b.drop (Bh b).x.body).take ((Bh b).x.stop-(Bh b).x.body)=t.v:=by
  rw[t2,t3]
  show(t.enc.drop (0+t.hd)).take (0+t.enc.length-(0+t.hd))=_
  rw[Nat.zero_add,Nat.zero_add,t.body,List.take_of_length_le (by rw[t.len];omega)]
 have hn:(Bh b).x.n=t.n:=by rw[t2];rfl
 rw[hb,hn] at h
 have htag:Qo (Bh b).x=true:=by simpa using h2
 rw[t2] at htag
 unfold Qo at htag
 simp only[At,beq_iff_eq,decide_eq_true_eq] at htag
 obtain⟨a1,a2,a3⟩:=htag
 have a1:t.c=2:=a1
 have a2:t.n≤8:=a2
 have a3:t.k=D0 t.n:=a3
 by_cases h3:okP (rdP t.n t.v)=true
 ·rw[if_pos h3] at h
  refine⟨t.n,t.v,a2,by rw[t3,t.len];omega,?_,h3,(Option.some.inj h).symm⟩
  rw[t3,Tv.enc,a1,a3]
 ·rw[if_neg h3] at h;cases h
theorem oD {c d n m:Nat} {j k:Bool} {u v:List UInt8} (hc:c≤3) (hn:n≤30) (hd:d≤3) (hm:m≤30) (hu:u.length≤500000000) (hv:v.length≤500000000):Dv (Ah c n j u++Ah d m k v)=[Ah c n j u,Ah d m k v]:=by
 have:=Pa (ts:=[⟨c,n,j,u⟩,⟨d,m,k,v⟩]) (fun t ht=>by
  rcases List.mem_cons.1 ht with rfl|ht
  ·exact⟨hc,hn,by show u.length≤_;omega⟩
  ·rw[List.mem_singleton.1 ht];exact⟨hd,hm,by show v.length≤_;omega⟩)
 rw[Dg,Dg] at this
 show Dv (Tv.enc ⟨c,n,j,u⟩++Tv.enc ⟨d,m,k,v⟩)=_
 have e:Di ([]:List Tv)=[]:=rfl
 rw[e,List.append_nil] at this
 exact this
theorem KI {c n:Nat} {j:Bool} {u:List UInt8} (hc:c≤3) (hn:n≤30) (hu:u.length≤500000000):Dv (Ah c n j u)=[Ah c n j u]:=by
 have:=Pa (ts:=[⟨c,n,j,u⟩]) (fun t ht=>by
  rw[List.mem_singleton.1 ht];exact⟨hc,hn,by show u.length≤_;omega⟩)
 rw[Dg] at this
 have e:Di ([]:List Tv)=[]:=rfl
 rw[e,List.append_nil] at this
 exact this
theorem FF {oid by':List UInt8} (h:E4 oid=true) (hl:oid.length≤3000000) (hb:by'.length≤3000000):Ny 0 (Ah 0 6 false (Bo oid)++Ah 2 0 true by')=(⟨0,oid,[],by',[],0,[],0,[]⟩,true):=by
 have k1:=Fa oid
 unfold Ny
 rw[oD (by omega) (by omega) (by omega) (by omega) (by omega) (by omega)]
 show Xk 0 _ _=_
 obtain⟨t,ht⟩:∃t:Tv,t=⟨0,6,false,Bo oid⟩:=⟨_,rfl⟩
 have hOk:t.ok:=by subst ht;exact⟨by show(0:Nat)≤3;omega,by show 6≤30;omega,by show(Bo oid).length≤_;omega⟩
 have he:Ah 0 6 false (Bo oid)=t.enc:=by subst ht;rfl
 have hv:t.v=Bo oid:=by subst ht;rfl
 have hi:(t.el 0).isB 0 6 false=true:=by subst ht;rfl
 have hin:=I9 (n:=0) (v:=by') (by omega) (by omega)
 obtain⟨e1,e2⟩:=U9 h
 unfold Xk
 rw[he,H2 hOk]
 simp only
 rw[hi,if_neg (by simp)]
 have hd:t.enc.drop (t.el 0).body=Bo oid:=by
  show t.enc.drop (0+t.hd)=_
  rw[Nat.zero_add,t.body,hv]
 rw[hd,e1,e2,hin,Gf hin]
 rfl
theorem oE {c:List UInt8} (_:c.length≤800000) (h:(Ny 0 c).2=true):∃oid by':List UInt8,Ny 0 c=(⟨0,oid,[],by',[],0,[],0,[]⟩,true)∧E4 oid=true∧c=Ah 0 6 false (Bo oid)++Ah 2 0 true by':=by
 unfold Ny at h⊢
 by_cases hn:Dv c=[]
 ·rw[hn] at h;cases h
 obtain⟨ts,t1,t2,t3⟩:=Wh hn
 match hs:Dv c with
 |[]=>exact absurd hs hn
 |[x]=>rw[hs] at h;cases h
 |x::y::z::r=>rw[hs] at h;cases h
 |[p,q]=>
  rw[hs] at h t3
  have h:(Xk 0 p q).2=true:=h
  show∃oid by',Xk 0 p q=_∧_
  obtain⟨x,y,rfl⟩:∃x y,ts=[x,y]:=by
   match ts,congrArg List.length t3 with
   |[x,y],_=>exact⟨x,y,rfl⟩
  simp only[List.map_cons,List.map_nil,List.cons.injEq,and_true] at t3
  obtain⟨rfl,rfl⟩:=t3
  have x1:=t1 x (by simp)
  have y1:=t1 y (by simp)
  unfold Xk at h⊢
  rw[H2 x1] at h⊢
  simp only at h⊢
  by_cases hc:(0:Nat)≠0∨(x.el 0).isB 0 6 false=false
  ·rw[if_pos hc] at h;cases h
  rw[if_neg hc] at h⊢
  have hd:x.enc.drop (x.el 0).body=x.v:=by
   show x.enc.drop (0+x.hd)=_
   rw[Nat.zero_add,x.body]
  rw[hd] at h⊢
  simp only[At,beq_iff_eq] at h
  obtain⟨h1,h2⟩:=h
  obtain⟨v,hv⟩:=Option.isSome_iff_exists.1 h1
  have hod:odC x.v=0:=by omega
  obtain⟨o1,o2⟩:=kQ hod
  have hb:(x.el 0).isB 0 6 false=true:=by
   rw[not_or] at hc;simpa using hc.2
  unfold El.isB Tv.el at hb
  simp only[At,beq_iff_eq] at hb
  refine⟨odT x.v,v,?_,o1,?_⟩
  ·rw[hv,Gf hv,hod];rfl
  ·rw[o2,←Hu hv,t2,Dg,Dg]
   have e:x.enc=Ah 0 6 false x.v:=by rw[Tv.enc,hb.1.1,hb.2,hb.1.2]
   rw[←e]
   show x.enc++(y.enc++[])=_
   rw[List.append_nil]
theorem oF {K:Int} {V:List UInt8} (ak:Int) (av:List UInt8) (hv:Al K V=true) (hl:V.length≤3000000):Lj 5 (Ah 2 1 true (txE K V)) ak av=(⟨5,[],[],[],[],ak,av,pK (txE K V),pV (txE K V)⟩,fiB K V):=by
 have h4:=Gh hv hl
 have hin:=I9 (n:=1) (v:=txE K V) (by omega) (by omega)
 unfold Lj
 rw[hin,Gf hin]
 have:Gj (txE K V)=fiB K V:=by
  cases hf:fiB K V
  ·exact yQ hv hf (by omega)
  ·exact(bG hf (by omega)).1
 rw[this];rfl
theorem K4 {k:Int} {l:List UInt8} (h:fiB k l=true):Al k l=true:=by
 unfold fiB at h;rw[At] at h;exact h.1
theorem oG {g:Gn} {c:List UInt8} (hk:g.k=5) (hc:My g=some c) (ha:g.av.length≤3000000) (hp:g.pv.length≤3000000):(K3 5 c).2=((zT g.ak g.av||fiB g.ak g.av)&&fiB g.pk g.pv)∧(((zT g.ak g.av||fiB g.ak g.av)&&fiB g.pk g.pv)=true→K3 5 c=(⟨5,[],[],[],[],g.ak,g.av,g.pk,g.pv⟩,true)):=by
 obtain⟨k,oid,tx,by',nm,ak,av,pk,pv⟩:=g
 unfold My at hc
 simp only at hk hc ha hp⊢
 by_cases hh:((zT ak av||Al ak av)&&Al pk pv)=true
 ·rw[if_pos hh] at hc
  rw[At] at hh
  obtain⟨h1,h2⟩:=hh
  have hl2:=Gh h2 hp
  obtain rfl:=Option.some.inj hc
  have fin:fiB pk pv=true→(⟨5,[],[],[],[],ak,av,pK (txE pk pv),pV (txE pk pv)⟩:Gn)=⟨5,[],[],[],[],ak,av,pk,pv⟩:=fun h=>by
   obtain⟨-,q1,q2⟩:=bG h (by omega)
   rw[q1,q2]
  cases hz:zT ak av
  ·rw[hz,Bool.false_or] at h1
   have hl1:=Gh h1 ha
   rw[if_neg (by simp),Bool.false_or]
   unfold K3
   rw[oD (by omega) (by omega) (by omega) (by omega) (by omega) (by omega)]
   have hin:=I9 (n:=0) (v:=txE ak av) (by omega) (by omega)
   show(if(Bv (Ah 2 0 true (txE ak av)) 0).isSome&&Gj (inn (Ah 2 0 true (txE ak av)) 0) then Lj 5 (Ah 2 1 true (txE pk pv)) (pK (inn (Ah 2 0 true (txE ak av)) 0)) (pV (inn (Ah 2 0 true (txE ak av)) 0)) else(gz,false)).2=_∧(_→(if(Bv (Ah 2 0 true (txE ak av)) 0).isSome&&Gj (inn (Ah 2 0 true (txE ak av)) 0) then Lj 5 (Ah 2 1 true (txE pk pv)) (pK (inn (Ah 2 0 true (txE ak av)) 0)) (pV (inn (Ah 2 0 true (txE ak av)) 0)) else(gz,false))=_)
   rw[hin,Gf hin]
   cases hf:fiB ak av
   ·rw[yQ h1 hf (by omega),if_neg (by simp)]
    exact⟨rfl,fun h=>by cases h⟩
   ·obtain⟨d1,d2,d3⟩:=bG hf (by omega)
    rw[d1,d2,d3,if_pos (by rfl),oF _ _ h2 hp]
    exact⟨rfl,fun h=>by
     have h:fiB pk pv=true:=h
     rw[fin h,h]⟩
  ·obtain⟨z1,z2⟩:=Rz.1 hz
   subst z1 z2
   rw[if_pos rfl,Bool.true_or,List.nil_append]
   unfold K3
   rw[KI (by omega) (by omega) (by omega)]
   show(Lj 5 _ 0 []).2=_∧(_→Lj 5 _ 0 []=_)
   rw[oF _ _ h2 hp]
   exact⟨rfl,fun h=>by
    have h:fiB pk pv=true:=h
    rw[fin h,h]⟩
 ·rw[if_neg hh] at hc;cases hc
theorem fZ {q:List UInt8} {ak:Int} {av:List UInt8} (h:(Lj 5 q ak av).2=true):∃(K:Int) (V:List UInt8),Lj 5 q ak av=(⟨5,[],[],[],[],ak,av,K,V⟩,true)∧fiB K V=true∧q=Ah 2 1 true (txE K V):=by
 unfold Lj at h⊢
 simp only[At] at h
 obtain⟨v,hv⟩:=Option.isSome_iff_exists.1 h.1
 have hd:=h.2
 rw[Gf hv] at hd
 obtain⟨d1,d2⟩:=oC hd
 refine⟨pK v,pV v,?_,d1,by rw[←d2];exact Hu hv⟩
 rw[hv,Gf hv,hd];rfl
theorem FG {c:List UInt8} (h:(K3 5 c).2=true):∃g:Gn,K3 5 c=(g,true)∧g=⟨5,[],[],[],[],g.ak,g.av,g.pk,g.pv⟩∧My g=some c∧((zT g.ak g.av||fiB g.ak g.av)&&fiB g.pk g.pv)=true:=by
 unfold K3 at h⊢
 by_cases hn:Dv c=[]
 ·rw[hn] at h;cases h
 obtain⟨ts,t1,t2,t3⟩:=Wh hn
 have hfl:c=(Dv c).flatten:=by rw[t3,←Fq];exact t2
 match hs:Dv c with
 |[]=>exact absurd hs hn
 |x::y::z::r=>rw[hs] at h;cases h
 |[q]=>
  rw[hs] at h hfl
  have h:(Lj 5 q 0 []).2=true:=h
  obtain⟨K,V,e1,e2,e3⟩:=fZ h
  refine⟨⟨5,[],[],[],[],0,[],K,V⟩,e1,rfl,?_,by rw[e2];rfl⟩
  unfold My
  have e4:=K4 e2
  rw[show((zT 0 []||Al 0 [])&&Al K V)=true by rw[e4];rfl,if_pos rfl]
  have e5:zT 0 []=true:=rfl
  simp only
  rw[e5,if_pos rfl,List.nil_append,←e3,hfl];simp
 |[p,q]=>
  rw[hs] at h hfl
  have h:(if(Bv p 0).isSome&&Gj (inn p 0) then Lj 5 q (pK (inn p 0)) (pV (inn p 0)) else(gz,false)).2=true:=h
  show∃g:Gn,(if(Bv p 0).isSome&&Gj (inn p 0) then Lj 5 q (pK (inn p 0)) (pV (inn p 0)) else(gz,false))=(g,true)∧_
  by_cases hc:((Bv p 0).isSome&&Gj (inn p 0))=true
  ·rw[if_pos hc] at h⊢
   rw[At] at hc
   obtain⟨v,hv⟩:=Option.isSome_iff_exists.1 hc.1
   have hd:=hc.2
   rw[Gf hv] at hd h⊢
   obtain⟨d1,d2⟩:=oC hd
   obtain⟨K,V,e1,e2,e3⟩:=fZ h
   refine⟨⟨5,[],[],[],[],pK v,pV v,K,V⟩,e1,rfl,?_,by rw[e2,d1];simp⟩
   have e4:=K4 e2
   have e5:=K4 d1
   have e6:zT (pK v) (pV v)=false:=by
    cases hz:zT (pK v) (pV v) with
    |false=>rfl
    |true=>
     obtain⟨z1,z2⟩:=Rz.1 hz
     rw[z1] at e5
     obtain⟨m,m1,m2,m3⟩:=Ql e5
     omega
   unfold My
   simp only
   rw[e4,e5,e6]
   show some (Ah 2 0 true (txE (pK v) (pV v))++Ah 2 1 true (txE K V))=some c
   rw[←d2,←Hu hv,←e3,hfl];simp
  ·rw[if_neg hc] at h;cases h
theorem D3 (g:Gn):Ct g=true↔(g.k=0∨g.k=8∨g.oid=[])∧(g.k=1∨g.k=2∨g.k=6∨g.tx=[])∧(g.k=0∨g.k=3∨g.k=7∨g.by'=[])∧(g.k=4∨g.nm=[])∧(g.k=5∨(g.ak=0∧g.av=[])∧(g.pk=0∧g.pv=[])):=by
 unfold Ct alB
 simp only[At,Bool.or_eq_true,beq_iff_eq,Rz]
 have l0:∀{α:Type} (l:List α),((l.length:Int)=0↔l=[]):=fun l=>⟨fun h=>List.eq_nil_of_length_eq_zero (by omega),fun h=>by rw[h];rfl⟩
 rw[l0,l0]
 constructor
 ·rintro⟨h1,h2,h3,h4,h5⟩
  refine⟨?_,?_,?_,h4,h5⟩
  ·rcases h1 with(h|h)|h<;>simp[h]
  ·rcases h2 with(h|h|h)|h<;>simp[h]
  ·rcases h3 with(h|h|h)|h<;>simp[h]
 ·rintro⟨h1,h2,h3,h4,h5⟩
  refine⟨?_,?_,?_,h4,h5⟩
  ·rcases h1 with h|h|h<;>simp[h]
  ·rcases h2 with h|h|h|h<;>simp[h]
  ·rcases h3 with h|h|h|h<;>simp[h]
theorem oH {g:Gn} {n:Nat} {c:List UInt8} (hk:g.k=n) (ha:Ct g=true) (hc:Eg g=some c) (hp:Hv g=true) (hs:g.sm):rdP n c=(g,true):=by
 obtain⟨k,oid,tx,by',nm,ak,av,pk,pv⟩:=g
 obtain⟨s1,s2,s3,s4,s5,s6⟩:=hs
 simp only at hk s1 s2 s3 s4 s5 s6
 subst hk
 rw[D3] at ha
 obtain⟨a1,a2,a3,a4,a5⟩:=ha
 simp only at a1 a2 a3 a4 a5
 unfold Eg at hc
 simp only at hc
 rcases(by
  obtain⟨m,hm,e⟩:=O9 (g:=⟨(n:Int),oid,tx,by',nm,ak,av,pk,pv⟩) (c:=c) hc
  simp only at e
  omega:n=0∨n=1∨n=2∨n=3∨n=4∨n=5∨n=6∨n=7∨n=8) with rfl|rfl|rfl|rfl|rfl|rfl|rfl|rfl|rfl
 ·obtain rfl:tx=[]:=by simpa using a2
  obtain rfl:nm=[]:=by simpa using a4
  obtain⟨⟨rfl,rfl⟩,rfl,rfl⟩:(ak=0∧av=[])∧pk=0∧pv=[]:=by simpa using a5
  rw[if_pos (by rfl)] at hc
  by_cases ho:E4 oid=true
  ·rw[if_pos ho] at hc
   obtain rfl:=Option.some.inj hc
   exact FF ho s1 s3
  ·rw[if_neg ho] at hc;cases hc
 ·obtain rfl:oid=[]:=by simpa using a1
  obtain rfl:by'=[]:=by simpa using a3
  obtain rfl:nm=[]:=by simpa using a4
  obtain⟨⟨rfl,rfl⟩,rfl,rfl⟩:(ak=0∧av=[])∧pk=0∧pv=[]:=by simpa using a5
  rw[if_neg (by decide),if_pos (by decide)] at hc
  by_cases ho:Al 22 tx=true
  ·rw[if_pos ho] at hc
   obtain rfl:=Option.some.inj hc
   obtain⟨-,e2,e3⟩:=Ry ho
   show((⟨1,[],Cw 22 (chS 22 tx),[],[],0,[],0,[]⟩:Gn),D4 22 (chS 22 tx)==0)=_
   rw[e2,e3];rfl
  ·rw[if_neg ho] at hc;cases hc
 ·obtain rfl:oid=[]:=by simpa using a1
  obtain rfl:by'=[]:=by simpa using a3
  obtain rfl:nm=[]:=by simpa using a4
  obtain⟨⟨rfl,rfl⟩,rfl,rfl⟩:(ak=0∧av=[])∧pk=0∧pv=[]:=by simpa using a5
  rw[if_neg (by decide),if_pos (by decide)] at hc
  by_cases ho:Al 22 tx=true
  ·rw[if_pos ho] at hc
   obtain rfl:=Option.some.inj hc
   obtain⟨-,e2,e3⟩:=Ry ho
   show((⟨2,[],Cw 22 (chS 22 tx),[],[],0,[],0,[]⟩:Gn),D4 22 (chS 22 tx)==0)=_
   rw[e2,e3];rfl
  ·rw[if_neg ho] at hc;cases hc
 ·obtain rfl:oid=[]:=by simpa using a1
  obtain rfl:tx=[]:=by simpa using a2
  obtain rfl:nm=[]:=by simpa using a4
  obtain⟨⟨rfl,rfl⟩,rfl,rfl⟩:(ak=0∧av=[])∧pk=0∧pv=[]:=by simpa using a5
  rw[if_neg (by decide),if_neg (by decide),if_pos (by decide)] at hc
  obtain rfl:=Option.some.inj hc
  rfl
 ·obtain rfl:oid=[]:=by simpa using a1
  obtain rfl:tx=[]:=by simpa using a2
  obtain rfl:by'=[]:=by simpa using a3
  obtain⟨⟨rfl,rfl⟩,rfl,rfl⟩:(ak=0∧av=[])∧pk=0∧pv=[]:=by simpa using a5
  rw[if_neg (by decide),if_neg (by decide),if_neg (by decide),if_pos (by rfl)] at hc
  by_cases ho:nmV nm=true
  ·rw[if_pos ho] at hc
   obtain rfl:=Option.some.inj hc
   have:=FC ho s4
   show Qm 4 (nmE nm)=_
   unfold Qm
   generalize nmR (nmE nm)=q at this
   obtain⟨o,cc,p⟩:=q
   simp only at this
   subst this
   rfl
  ·rw[if_neg ho] at hc;cases hc
 ·obtain rfl:oid=[]:=by simpa using a1
  obtain rfl:tx=[]:=by simpa using a2
  obtain rfl:by'=[]:=by simpa using a3
  obtain rfl:nm=[]:=by simpa using a4
  rw[if_neg (by decide),if_neg (by decide),if_neg (by decide),if_neg (by decide),if_pos (by rfl)] at hc
  exact(oG (g:=⟨((5:Nat):Int),[],[],[],[],ak,av,pk,pv⟩) rfl hc s5 s6).2 hp
 ·obtain rfl:oid=[]:=by simpa using a1
  obtain rfl:by'=[]:=by simpa using a3
  obtain rfl:nm=[]:=by simpa using a4
  obtain⟨⟨rfl,rfl⟩,rfl,rfl⟩:(ak=0∧av=[])∧pk=0∧pv=[]:=by simpa using a5
  rw[if_neg (by decide),if_pos (by decide)] at hc
  by_cases ho:Al 22 tx=true
  ·rw[if_pos ho] at hc
   obtain rfl:=Option.some.inj hc
   obtain⟨-,e2,e3⟩:=Ry ho
   show((⟨6,[],Cw 22 (chS 22 tx),[],[],0,[],0,[]⟩:Gn),D4 22 (chS 22 tx)==0)=_
   rw[e2,e3];rfl
  ·rw[if_neg ho] at hc;cases hc
 ·obtain rfl:oid=[]:=by simpa using a1
  obtain rfl:tx=[]:=by simpa using a2
  obtain rfl:nm=[]:=by simpa using a4
  obtain⟨⟨rfl,rfl⟩,rfl,rfl⟩:(ak=0∧av=[])∧pk=0∧pv=[]:=by simpa using a5
  rw[if_neg (by decide),if_neg (by decide),if_pos (by decide)] at hc
  obtain rfl:=Option.some.inj hc
  rfl
 ·obtain rfl:tx=[]:=by simpa using a2
  obtain rfl:by'=[]:=by simpa using a3
  obtain rfl:nm=[]:=by simpa using a4
  obtain⟨⟨rfl,rfl⟩,rfl,rfl⟩:(ak=0∧av=[])∧pk=0∧pv=[]:=by simpa using a5
  rw[if_neg (by decide),if_neg (by decide),if_neg (by decide),if_neg (by decide),if_neg (by decide),if_pos (by rfl)] at hc
  by_cases ho:E4 oid=true
  ·rw[if_pos ho] at hc
   obtain rfl:=Option.some.inj hc
   obtain⟨e1,e2⟩:=U9 ho
   show((⟨8,odT (Bo oid),[],[],[],0,[],0,[]⟩:Gn),(odC (Bo oid):Int)==0)=_
   rw[e1,e2];rfl
  ·rw[if_neg ho] at hc;cases hc
theorem FH {n:Nat} {c:List UInt8} (hn:n≤8) (hl:c.length≤800000) (h:(rdP n c).2=true):(rdP n c).1.k=n∧Ct (rdP n c).1=true∧Eg (rdP n c).1=some c∧Hv (rdP n c).1=true:=by
 rcases(by omega:n=0∨n=1∨n=2∨n=3∨n=4∨n=5∨n=6∨n=7∨n=8) with rfl|rfl|rfl|rfl|rfl|rfl|rfl|rfl|rfl
 ·obtain⟨oid,by',e1,e2,e3⟩:=oE hl (show(Ny 0 c).2=true from h)
  show(Ny 0 c).1.k=_∧Ct (Ny 0 c).1=true∧Eg (Ny 0 c).1=some c∧Hv (Ny 0 c).1=true
  rw[e1]
  refine⟨rfl,by rw[D3];simp,?_,rfl⟩
  unfold Eg
  rw[if_pos rfl]
  simp only
  rw[if_pos e2,e3]
 ·have hd:D4 22 c=0:=by simpa[rdP] using h
  obtain⟨-,i2,i3⟩:=bD hd
  refine⟨rfl,by rw[D3];simp[rdP],?_,rfl⟩
  show(if Al 22 (Cw 22 c)=true then some (chS 22 (Cw 22 c)) else none)=_
  rw[if_pos i2,i3]
 ·have hd:D4 22 c=0:=by simpa[rdP] using h
  obtain⟨-,i2,i3⟩:=bD hd
  refine⟨rfl,by rw[D3];simp[rdP],?_,rfl⟩
  show(if Al 22 (Cw 22 c)=true then some (chS 22 (Cw 22 c)) else none)=_
  rw[if_pos i2,i3]
 ·exact⟨rfl,by rw[D3];simp[rdP],rfl,rfl⟩
 ·have h':(Qm 4 c).2=true:=h
  have hi:=fun n hh=>FD (b:=c) (n:=n) hh (by omega)
  show(Qm 4 c).1.k=_∧Ct (Qm 4 c).1=true∧Eg (Qm 4 c).1=some c∧Hv (Qm 4 c).1=true
  unfold Qm at h'⊢
  generalize nmR c=q at h' hi⊢
  obtain⟨o,cc,p⟩:=q
  cases o with
  |none=>cases h'
  |some nm=>
   obtain⟨i1,i2⟩:=hi nm rfl
   refine⟨rfl,by rw[D3];simp,?_,rfl⟩
   show(if nmV nm=true then some (nmE nm) else none)=_
   rw[if_pos i1,←i2]
 ·obtain⟨g,e1,e2,e3,e4⟩:=FG (show(K3 5 c).2=true from h)
  show(K3 5 c).1.k=_∧Ct (K3 5 c).1=true∧Eg (K3 5 c).1=some c∧Hv (K3 5 c).1=true
  rw[e1]
  have hk:g.k=5:=by rw[e2]
  refine⟨hk,by rw[D3,e2];simp,?_,?_⟩
  ·show Eg g=some c
   unfold Eg
   rw[hk,if_neg (by decide),if_neg (by decide),if_neg (by decide),if_neg (by decide),if_pos rfl]
   exact e3
  ·show Hv g=true
   unfold Hv;rw[e4];simp
 ·have hd:D4 22 c=0:=by simpa[rdP] using h
  obtain⟨-,i2,i3⟩:=bD hd
  refine⟨rfl,by rw[D3];simp[rdP],?_,rfl⟩
  show(if Al 22 (Cw 22 c)=true then some (chS 22 (Cw 22 c)) else none)=_
  rw[if_pos i2,i3]
 ·exact⟨rfl,by rw[D3];simp[rdP],rfl,rfl⟩
 ·have hd:odC c=0:=by
   have h:((odC c:Int)==0)=true:=h
   rw[beq_iff_eq] at h;omega
  obtain⟨o1,o2⟩:=kQ hd
  refine⟨rfl,by rw[D3];simp[rdP],?_,rfl⟩
  show(if E4 (odT c)=true then some (Bo (odT c)) else none)=_
  rw[if_pos o1,o2]
theorem Nr (g:Gn):gnW g=true↔Ct g=true∧S3 g=true∧(∃c,Eg g=some c)∧Hv g=true:=by
 unfold gnW
 simp only[At,Option.isSome_iff_exists]
theorem gA {g:Gn} (h:gnW g=true) (hs:g.mid):L1 (gnE g)=some g:=by
 obtain⟨h1,h2,⟨c,h3⟩,h4⟩:=(Nr g).1 h
 obtain⟨n,hn,hk⟩:=O9 h3
 have hl:=hs.c
 rw[h3] at hl
 have hl:c.length≤700000:=hl
 have e:gnE g=Ah 2 n (D0 n) c:=by unfold gnE;rw[h3,hk];rfl
 have hr:=oH hk h1 h3 h4 hs.s
 rw[e,fY hn (by omega),hr]
 have:okP (g,true)=true:=by unfold okP;rw[h2];rfl
 rw[if_pos this]
theorem yS {b:List UInt8} {g:Gn} (h:L1 b=some g) (hl:b.length≤800000):gnW g=true∧b=gnE g:=by
 obtain⟨n,c,hn,hc,hb,ho,rfl⟩:=yR h
 unfold okP at ho
 rw[At] at ho
 obtain⟨i1,i2,i3,i4⟩:=FH hn (by omega) ho.1
 refine⟨(Nr _).2 ⟨i2,ho.2,⟨c,i3⟩,i4⟩,?_⟩
 unfold gnE
 rw[i1,i3];exact hb
theorem KJ {g:Gn} (hs:g.mid):Xl g=gnW g:=by
 cases hw:gnW g
 ·cases hv:Xl g with
  |false=>rfl
  |true=>
   exfalso
   unfold Xl at hv
   simp only[At] at hv
   obtain⟨v1,v2,v3,v4⟩:=hv
   obtain⟨c,h3⟩:=Option.isSome_iff_exists.1 v3
   obtain⟨n,hn,hk⟩:=O9 h3
   have hp:Hv g=false:=by
    unfold gnW at hw;rw[v1,v2,v3] at hw;exact hw
   have h5:g.k=5:=by
    unfold Hv at hp
    simp only[Bool.or_eq_false_iff,Bool.not_eq_false',beq_iff_eq] at hp
    exact hp.1
   have hl:=hs.c
   rw[h3] at hl
   have hl:c.length≤700000:=hl
   have e:gnE g=Ah 2 5 (D0 (5:Nat)) c:=by unfold gnE;rw[h3,h5];rfl
   have hc:My g=some c:=by
    unfold Eg at h3
    rw[h5,if_neg (by decide),if_neg (by decide),if_neg (by decide),if_neg (by decide),if_pos rfl] at h3
    exact h3
   have hq:=(oG h5 hc hs.s.a hs.s.p).1
   have:((zT g.ak g.av||fiB g.ak g.av)&&fiB g.pk g.pv)=false:=by
    unfold Hv at hp;rw[h5] at hp;exact hp
   rw[this] at hq
   rw[e,fY (by omega) (by omega)] at v4
   have ho:okP (rdP 5 c)=false:=by
    show((K3 5 c).2&&S3 (K3 5 c).1)=false
    rw[hq];rfl
   rw[ho] at v4;cases v4
 ·obtain⟨h1,h2,⟨c,h3⟩,h4⟩:=(Nr g).1 hw
  unfold Xl
  rw[gA hw hs,h1,h2,h3];rfl
end Go.Proofs.YtaoahmplnckhpaaGreatDoor
