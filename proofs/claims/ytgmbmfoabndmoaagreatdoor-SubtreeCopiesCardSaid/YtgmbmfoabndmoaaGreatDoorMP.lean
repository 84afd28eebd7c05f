/- MP: the texts GenM GenR DnP GenL GenX GenY, one behind the other. No condition but what each lemma says. -/
import Derived.Test.YtgmbmfoabndmoaaGreatDoorMO
import Derived.Test.YtgmbmfoabndmoaaGreatDoorMM
import Derived.Test.YtgmbmfoabndmoaaGreatDoorGEncPlain
set_option maxRecDepth 100000
set_option maxHeartbeats 16000000
namespace Go.Proofs.YtgmbmfoabndmoaaGreatDoor
open Go.RowKit
def rdP (n:Nat) (c:List UInt8):Gn×Bool:=match n with
 |0=>M1 0 c
 |1=>(⟨1,[],Bs 22 c,[],[],0,[],0,[]⟩,Cw 22 c==0)
 |2=>(⟨2,[],Bs 22 c,[],[],0,[],0,[]⟩,Cw 22 c==0)
 |3=>(⟨3,[],[],c,[],0,[],0,[]⟩,true)
 |4=>Pg 4 c
 |5=>Jt 5 c
 |6=>(⟨6,[],Bs 22 c,[],[],0,[],0,[]⟩,Cw 22 c==0)
 |7=>(⟨7,[],[],c,[],0,[],0,[]⟩,true)
 |8=>(⟨8,odT c,[],[],[],0,[],0,[]⟩,(odC c:Int)==0)
 |_=>(gz,false)
def Pi (x:El):Bool:=x.c==2&&(decide (x.n≤8)&&(x.k==C8 x.n))
def okP (p:Gn×Bool):Bool:=p.2&&Rn p.1
def Uw (b:List UInt8) (r:ElR):Option Gn:=if r.code≠0 then none else if Pi r.x=false then none else if okP (rdP r.x.n ((b.drop r.x.body).take (r.x.stop-r.x.body)))=true then some (rdP r.x.n ((b.drop r.x.body).take (r.x.stop-r.x.body))).1 else none
def Kr (b:List UInt8):Option Gn:=Uw b (At b)
def Y9 (r:ElR):Nat×Nat:=if r.code≠0 then(r.code,r.off) else if Pi r.x=false then(3,0) else(6,r.x.body)
def Za (b:List UInt8):Nat×Nat:=Y9 (At b)
theorem Ux {b:List UInt8} {x:El} (h:Pi x=false):Uw b ⟨x,0,0⟩=none∧Y9 ⟨x,0,0⟩=(3,0):=by
 refine⟨?_,?_⟩
 ·unfold Uw;rw[if_neg (by simp),if_pos h]
 ·unfold Y9;rw[if_neg (by simp),if_pos h]
theorem kX {b:List UInt8} {x:El} (h:Pi x=true) (h2:okP (rdP x.n ((b.drop x.body).take (x.stop-x.body)))=false):Uw b ⟨x,0,0⟩=none∧Y9 ⟨x,0,0⟩=(6,x.body):=by
 refine⟨?_,?_⟩
 ·unfold Uw;simp only;rw[if_neg (by simp),if_neg (by rw[h];simp),if_neg (by rw[h2];simp)]
 ·unfold Y9;rw[if_neg (by simp),if_neg (by rw[h];simp)]
theorem cO {b:List UInt8} {x:El} (h:Pi x=true) (h2:okP (rdP x.n ((b.drop x.body).take (x.stop-x.body)))=true):Uw b ⟨x,0,0⟩=some (rdP x.n ((b.drop x.body).take (x.stop-x.body))).1:=by
 unfold Uw;simp only;rw[if_neg (by simp),if_neg (by rw[h];simp),if_pos h2]
def gnR (o:Option Gn) (e:Nat×Nat):AV:=match o with
 |some g=> .tup [gnQ g,erA 0 0]
 |none=> .tup [gnQ gz,erA e.1 e.2]
theorem Zb (b:List UInt8):(Za b).1≠0∧(Za b).2≤b.length:=by
 have hF:=De b
 unfold Za Y9
 by_cases h1:(At b).code≠0
 ·rw[if_pos h1];exact⟨h1,hF.2.2.1⟩
 rw[if_neg h1]
 split
 ·exact⟨by simp,Nat.zero_le _⟩
 ·have:=hF.1 (Decidable.not_not.1 h1)
  exact⟨by simp,by show(At b).x.body≤_;omega⟩
theorem AE (k:Int) (c:List UInt8):(M1 k c).1.by'.length≤c.length:=by
 have hm:=fun p=>N4 (c:=c) (p:=p)
 unfold M1
 generalize Cy c=l at hm
 match l with
 |[]=>exact Nat.zero_le _
 |[x]=>exact Nat.zero_le _
 |x::y::z::r=>exact Nat.zero_le _
 |[p,q]=>
  show(Vt k p q).1.by'.length≤_
  unfold Vt
  split
  ·exact Nat.zero_le _
  ·have:=hm q (by simp)
   have:=Ph q 0
   show(inn q 0).length≤_
   omega
theorem AF (k:Int) (c:List UInt8):(Jt k c).1.by'=[]:=by
 unfold Jt
 match Cy c with
 |[]=>rfl
 |[q]=>rfl
 |x::y::z::r=>rfl
 |[p,q]=>
  show(if(Bz p 0).isSome&&Fd (inn p 0) then Ke k q (pK (inn p 0)) (pV (inn p 0)) else(gz,false)).1.by'=[]
  split<;>rfl
theorem AG (k:Int) (c:List UInt8):(Pg k c).1.by'=[]:=by
 unfold Pg;split<;>rfl
theorem vE {C:Cx} {o:Oper} {σ:AS} {t:Nat} {x y:Operand} {k:Int} (h:rdF k=none) (ho:o.op= .lookup 99 x y true) (hd:o.dst=some t) (ht:t<C.N) (hx:σ.eval x=some rdA) (hy:σ.eval y=some (iv k)):
 LA Tryz.prog C o ⟨[],some (t,.tup [.d (.v .nilFunc),bv false]),none,none,[],[],[],[]⟩ σ:=by
 have:=Ge ho hd ht hx hy
 unfold fnA at this
 rwa[h] at this
def IC:Nat→FuncId
 |0=>97
 |3=>99
 |4=>100
 |5=>101
 |7=>99
 |8=>102
 |_=>98
theorem AH {n:Nat} (hn:n≤8) (c:List UInt8) (hl:c.length≤800000):Aa Tryz.prog (IC n) [ptA n c] (fun r=>r=gbA (rdP n c))∧(rdP n c).1.by'.length≤100000000:=by
 have l0:([]:List UInt8).length≤100000000:=by simp
 rcases(by omega:n=0∨n=1∨n=2∨n=3∨n=4∨n=5∨n=6∨n=7∨n=8) with rfl|rfl|rfl|rfl|rfl|rfl|rfl|rfl|rfl
 ·exact⟨vC 0 c hl,by have:=AE 0 c;show(M1 0 _).1.by'.length≤_;omega⟩
 ·exact⟨Qg 1 c (by omega),l0⟩
 ·exact⟨Qg 2 c (by omega),l0⟩
 ·exact⟨Uu 3 c (by omega),by show c.length≤_;omega⟩
 ·exact⟨vB 4 c hl,by show(Pg 4 _).1.by'.length≤_;rw[AG];exact l0⟩
 ·exact⟨vD 5 c hl,by show(Jt 5 _).1.by'.length≤_;rw[AF];exact l0⟩
 ·exact⟨Qg 6 c (by omega),l0⟩
 ·exact⟨Uu 7 c (by omega),by show c.length≤_;omega⟩
 ·exact⟨cM 8 c (by omega),l0⟩
theorem Fc {p:Prop} (h:p:=by first|rfl|(simp only[AV.gives,AV.ren,AV.give,D.un,D.uns,Ah,Ai,List.nil_append,List.append_nil,List.cons_append,Am,Av,Bv,A1,As,Bp,Bx,Cz,By];first|done|rfl)):p:=h
theorem vF (b:List UInt8) (hb:b.length≤800000) (x:El) (hx:x.body≤x.stop∧x.stop≤b.length) (hn:x.n≤8) (hO:Aa Tryz.prog 48 [.d (Ac false b)] (fun r=>r=erR ⟨x,0,0⟩)):Aa Tryz.prog 41 [.d (Ac false b)] (fun r=>r=gnR (Uw b ⟨x,0,0⟩) (Y9 ⟨x,0,0⟩)):=by
 obtain⟨c,n,k,p,body,stop⟩:=x
 simp only at hx hn
 have hlc:((b.drop body).take (stop-body)).length≤b.length:=by rw[List.length_take,List.length_drop];omega
 obtain⟨hR,hl⟩:=AH hn ((b.drop body).take (stop-body)) (by omega)
 have gt:Pi ⟨c,n,k,p,body,stop⟩=(c==2&&(true&&(k==C8 n))):=by unfold Pi;rw[decide_eq_true hn]
 obtain⟨con,hcon,hK⟩:∃con:Bool,C8 (n:Int)=con∧Aa Tryz.prog 40 [iv n] (fun r=>r=bv con):=⟨_,rfl,cN n⟩
 rw[hcon] at gt
 rcases(by omega:n=0∨n=1∨n=2∨n=3∨n=4∨n=5∨n=6∨n=7∨n=8) with rfl|rfl|rfl|rfl|rfl|rfl|rfl|rfl|rfl
 all_goals cases con
 all_goals try(exact absurd hcon (by decide))
 all_goals
  clear hn hcon
  cases hc:(c==2)
  ·have e:=Ux (b:=b) (gt.trans (by rw[hc];rfl))
   rw[e.1,e.2]
   have g1:((c:Int) !=2)=true:=by rw[bne_iff_ne];rw[beq_eq_false_iff_ne] at hc;omega
   refine acQ 70 Tryz.func41 rfl rfl fun _ _ _=> ?_
   (repeat'((conv=>whnf);first|refine NBr.yes ?_|refine NBr.no ?_|refine NBr.pos asP ?_|refine NCall.eq hO Fc ?_|refine NCall.eq Em rfl ?_|refine NLa.mk ⟨_,Ge rfl rfl (ltN rfl) rfl rfl,?_⟩|refine NFact.go ⟨by decide+kernel,by kernel_rfl⟩ ?_));(all_goals(conv=>whnf))
   all_goals exact NEnd.eq leQ
  have g1:((c:Int) !=2)=false:=by rw[bne_eq_false_iff_eq];rw[beq_iff_eq] at hc;omega
  cases k
  all_goals try
   have hk:=gt.trans (show _=false by rw[hc];rfl)
   have e:=Ux (b:=b) hk
   rw[e.1,e.2]
   refine acQ 70 Tryz.func41 rfl rfl fun _ _ _=> ?_
   (repeat'((conv=>whnf);first|refine NBr.yes ?_|refine NBr.no ?_|refine NBr.neg asP ?_|refine NCall.eq hO Fc ?_|refine NCall.eq Em rfl ?_|refine NCall.eq hK rfl ?_|refine NLa.mk ⟨_,Ge rfl rfl (ltN rfl) rfl rfl,?_⟩|refine NFact.go ⟨by decide+kernel,by kernel_rfl⟩ ?_));(all_goals(conv=>whnf))
   all_goals exact NEnd.eq leQ
  have ht:=gt.trans (show _=true by rw[hc];rfl)
  have eN:=kX (b:=b) ht
  have eY:=cO (b:=b) ht
  simp only at eN eY
  generalize rdP _ ((b.drop body).take (stop-body))=q at hR hl eN eY
  obtain⟨g,ok⟩:=q
  simp only at hl eN eY
  have hT:=W6 g hl
  simp only[gbA] at hR
  cases ok
  ·rw[(eN rfl).1,(eN rfl).2]
   refine acQ 70 Tryz.func41 rfl rfl fun _ _ _=> ?_
   (repeat'((conv=>whnf);first|refine NBr.yes ?_|refine NBr.no ?_|refine NBr.neg asP ?_|refine NCall.eq hO Fc ?_|refine NCall.eq Em rfl ?_|refine NCall.eq hK rfl ?_|refine NSl.slice (body) (stop) ?_|refine NCall.eq hR Fc ?_|refine NLa.mk ⟨_,Ge rfl rfl (ltN rfl) rfl rfl,?_⟩|refine NFact.go ⟨by decide+kernel,by kernel_rfl⟩ ?_));(all_goals(conv=>whnf))
   all_goals exact NEnd.eq leQ
  cases hfi:Rn g
  ·rw[hfi] at hT
   have e:=eN (show(true&&Rn g)=false by rw[hfi];rfl)
   rw[e.1,e.2]
   refine acQ 70 Tryz.func41 rfl rfl fun _ _ _=> ?_
   (repeat'((conv=>whnf);first|refine NBr.yes ?_|refine NBr.no ?_|refine NBr.neg asP ?_|refine NCall.eq hO Fc ?_|refine NCall.eq Em rfl ?_|refine NCall.eq hK rfl ?_|refine NSl.slice (body) (stop) ?_|refine NCall.eq hR Fc ?_|refine NCall.eq hT Fc ?_|refine NLa.mk ⟨_,Ge rfl rfl (ltN rfl) rfl rfl,?_⟩|refine NFact.go ⟨by decide+kernel,by kernel_rfl⟩ ?_));(all_goals(conv=>whnf))
   all_goals exact NEnd.eq leQ
  ·rw[hfi] at hT
   rw[eY (show(true&&Rn g)=true by rw[hfi];rfl)]
   refine acQ 70 Tryz.func41 rfl rfl fun _ _ _=> ?_
   (repeat'((conv=>whnf);first|refine NBr.no ?_|refine NBr.neg asP ?_|refine NCall.eq hO Fc ?_|refine NCall.eq Em rfl ?_|refine NCall.eq hK rfl ?_|refine NSl.slice (body) (stop) ?_|refine NCall.eq hR Fc ?_|refine NCall.eq hT Fc ?_|refine NLa.mk ⟨_,Ge rfl rfl (ltN rfl) rfl rfl,?_⟩|refine NFact.go ⟨by decide+kernel,by kernel_rfl⟩ ?_));(all_goals(conv=>whnf))
   all_goals exact NEnd.eq leQ
theorem Uy (b:List UInt8) (hb:b.length≤800000):Aa Tryz.prog 41 [.d (Ac false b)] (fun r=>r=gnR (Kr b) (Za b)):=by
 have hO:=Mc b (by omega)
 have hF:=De b
 unfold Kr Za
 generalize At b=r at hO hF⊢
 obtain⟨x,c,o⟩:=r
 by_cases h1:c=0
 ·subst h1
  obtain⟨f1,f2,f3,f4,f5⟩:=hF.1 rfl
  simp only at f1 f2 f3 f4 f5
  subst f5
  have hx:x.body≤x.stop∧x.stop≤b.length:=by omega
  by_cases hn:x.n≤8
  ·exact vF b hb x hx hn hO
  ·have gt:Pi x=false:=by unfold Pi;rw[decide_eq_false hn];simp
   have e:=Ux (b:=b) gt
   rw[e.1,e.2]
   obtain⟨c,n,k,p,body,stop⟩:=x
   simp only at hn
   have hr:rdF (n:Int)=none:=by
    unfold rdF
    rw[if_neg (by omega),if_neg (by omega),if_neg (by omega),if_neg (by omega),if_neg (by omega),if_neg (by omega)]
   show Aa _ _ _ (fun r=>r= .tup [gnQ gz,erA 3 0])
   refine acQ 70 Tryz.func41 rfl rfl fun _ _ _=> ?_
   (repeat'((conv=>whnf);first|refine NBr.yes ?_|refine NBr.no ?_|refine NCall.eq hO Fc ?_|refine NCall.eq Em rfl ?_|refine NLa.mk ⟨_,vE hr rfl rfl (ltN rfl) rfl rfl,?_⟩|refine NFact.go ⟨by decide+kernel,by kernel_rfl⟩ ?_));(all_goals(conv=>whnf))
   all_goals exact NEnd.eq leQ
 ·have gc:((c:Int) !=0)=true:=by rw[bne_iff_ne];omega
  rw[show Uw b ⟨x,c,o⟩=none by unfold Uw;rw[if_pos h1],show Y9 ⟨x,c,o⟩=(c,o) by unfold Y9;rw[if_pos h1]]
  show Aa _ _ _ (fun r=>r= .tup [gnQ gz,erA c o])
  refine acQ 70 Tryz.func41 rfl rfl fun _ _ _=> ?_
  (repeat'((conv=>whnf);first|refine NBr.pos asP ?_|refine NCall.eq hO Fc ?_|refine NFact.go ⟨by decide+kernel,by kernel_rfl⟩ ?_));(all_goals(conv=>whnf))
  all_goals exact NEnd.eq leQ
def gnE (g:Gn):List UInt8:=Ae 2 g.k.toNat (C8 g.k) ((Dm g).getD [])
def Vu (g:Gn):Bool:=Bt g&&(Rn g&&((Dm g).isSome&&(Kr (gnE g)).isSome))
def Qh (o:Bool) (b:List UInt8):AV:=if o=true then .tup [Aq 0 5 b,iv 0] else .tup [Ao,iv 8]
theorem N5 {g:Gn} {c:List UInt8} (h:Dm g=some c):∃n:Nat,n≤8∧g.k=n:=by
 unfold Dm at h
 by_cases h0:g.k=0
 ·exact⟨0,by omega,h0⟩
 rw[if_neg h0] at h
 by_cases h1:g.k=1∨g.k=2∨g.k=6
 ·exact⟨g.k.toNat,by omega,by omega⟩
 rw[if_neg h1] at h
 by_cases h2:g.k=3∨g.k=7
 ·exact⟨g.k.toNat,by omega,by omega⟩
 rw[if_neg h2] at h
 by_cases h3:g.k=4
 ·exact⟨4,by omega,h3⟩
 rw[if_neg h3] at h
 by_cases h4:g.k=5
 ·exact⟨5,by omega,h4⟩
 rw[if_neg h4] at h
 by_cases h5:g.k=8
 ·exact⟨8,by omega,h5⟩
 rw[if_neg h5] at h;cases h
theorem Cq {p:Prop} (h:p:=by first|rfl|(simp only[AV.gives,AV.ren,AV.give,D.un,D.uns,Ah,Ai,List.nil_append,List.append_nil,List.cons_append,Am,Av,Bv,A1,As,Bp,Bx,Cz,By,Ce,Br];first|done|rfl)):p:=h
theorem Uz (g:Gn) (hs:g.sm) (hl:((Dm g).getD []).length≤700000):Aa Tryz.prog 21 [gnA g] (fun r=>r=Qh (Vu g) (gnE g)):=by
 have hA:=pJ g
 have hF:=W6 g (by have:=hs.b;omega)
 have hC:=Y8 g hs
 unfold Vu Qh
 cases ha:Bt g
 ·rw[ha] at hA
  show Aa _ _ _ (fun r=>r= .tup [Ao,iv 8])
  refine acQ 48 Tryz.func21 rfl rfl fun _ _ _=> ?_
  (repeat'((conv=>whnf);first|refine NBr.yes ?_|refine NCall.eq hA Cq ?_));(all_goals(conv=>whnf))
  all_goals exact NEnd.eq leQ
 rw[ha] at hA
 cases hf:Rn g
 ·rw[hf] at hF
  show Aa _ _ _ (fun r=>r= .tup [Ao,iv 8])
  refine acQ 48 Tryz.func21 rfl rfl fun _ _ _=> ?_
  (repeat'((conv=>whnf);first|refine NBr.yes ?_|refine NBr.no ?_|refine NCall.eq hA Cq ?_|refine NCall.eq hF Cq ?_));(all_goals(conv=>whnf))
  all_goals exact NEnd.eq leQ
 rw[hf] at hF
 cases hc:Dm g with
 |none=>
  rw[hc] at hC
  have hC:Aa Tryz.prog 39 [gnA g] (fun r=>r= .tup [.d (Ac false []),iv 8]):=hC
  show Aa _ _ _ (fun r=>r= .tup [Ao,iv 8])
  refine acQ 48 Tryz.func21 rfl rfl fun _ _ _=> ?_
  (repeat'((conv=>whnf);first|refine NBr.yes ?_|refine NBr.no ?_|refine NCall.eq hA Cq ?_|refine NCall.eq hF Cq ?_|refine NCall.eq hC Cq ?_));(all_goals(conv=>whnf))
  all_goals exact NEnd.eq leQ
 |some c=>
  obtain⟨n,hn,hk⟩:=N5 hc
  rw[hc] at hC hl
  have hC:Aa Tryz.prog 39 [gnA g] (fun r=>r= .tup [.d (Ac false c),iv 0]):=hC
  have hl:c.length≤700000:=hl
  have hK:=cN g.k
  have hW:=Jp 2 n (C8 g.k) c (by omega) (by omega) (by omega)
  have hle:=Al 2 n (C8 g.k) c (by omega)
  have hP:=Uy (Ae 2 n (C8 g.k) c) (by omega)
  have he:=Zb (Ae 2 n (C8 g.k) c)
  have e:gnE g=Ae 2 n (C8 g.k) c:=by unfold gnE;rw[hc,hk];rfl
  rw[e]
  generalize Za (Ae 2 n (C8 g.k) c)=er at hP he
  obtain⟨ec,eo⟩:=er
  simp only at he
  have gc:((ec:Int) !=0)=true:=by rw[bne_iff_ne];omega
  obtain⟨k,oid,tx,by',nm,ak,av,pk,pv⟩:=g
  simp only at hk
  subst hk
  simp only at hK hW hP hle⊢
  generalize Ae 2 n (C8 (n:Int)) c=b at hW hP⊢
  cases ho:Kr b with
  |none=>
   rw[ho] at hP
   have hP:Aa Tryz.prog 41 [.d (Ac false b)] (fun r=>r= .tup [gnQ gz,erA ec eo]):=hP
   show Aa _ _ _ (fun r=>r= .tup [Ao,iv 8])
   refine acQ 48 Tryz.func21 rfl rfl fun _ _ _=> ?_
   (repeat'((conv=>whnf);first|refine NBr.no ?_|refine NBr.pos asP ?_|refine NCall.eq hA Cq ?_|refine NCall.eq hF Cq ?_|refine NCall.eq hC Cq ?_|refine NCall.eq hK rfl ?_|refine NCall.eq hW Cq ?_|refine NCall.eq hP Cq ?_|refine NFact.go ⟨by decide+kernel,by kernel_rfl⟩ ?_));(all_goals(conv=>whnf))
   all_goals exact NEnd.eq leQ
  |some v=>
   rw[ho] at hP
   have hP:Aa Tryz.prog 41 [.d (Ac false b)] (fun r=>r= .tup [gnQ v,erA 0 0]):=hP
   show Aa _ _ _ (fun r=>r= .tup [Aq 0 5 b,iv 0])
   refine acQ 48 Tryz.func21 rfl rfl fun _ _ _=> ?_
   (repeat'((conv=>whnf);first|refine NBr.no ?_|refine NCall.eq hA Cq ?_|refine NCall.eq hF Cq ?_|refine NCall.eq hC Cq ?_|refine NCall.eq hK rfl ?_|refine NCall.eq hW Cq ?_|refine NCall.eq hP Cq ?_|refine NFact.go ⟨by decide+kernel,by kernel_rfl⟩ ?_));(all_goals(conv=>whnf))
   all_goals exact NEnd.eq leQ
structure Gn.mid (g:Gn):Prop where
 s:g.sm
 c:((Dm g).getD []).length≤700000
def Zc (l:List Gn):Bool:= !l.isEmpty&&l.all Vu
def AI (l:List Gn):List UInt8:=Ae 0 16 true (l.map gnE).flatten
theorem Sd {g:Gn} (h:g.mid):(gnE g).length≤700006:=by
 have:=h.c
 have:=Al 2 g.k.toNat (C8 g.k) ((Dm g).getD []) (by omega)
 unfold gnE;omega
structure gnsM (l:List Gn):Prop where
 n:l.length≤1000000
 m:∀g∈l,g.mid
 e:(l.map gnE).flatten.length≤800000000
theorem cP (l:List Gn) (hz:gnsM l):Aa Tryz.prog 46 [.d (Df l)] (fun r=>r=Qh (Zc l) (AI l)):=by
 obtain⟨hl,hs,hq⟩:=hz
 have hS:=J4 (l.map gnE) (by omega) (by rw[List.length_map];omega)
 refine acQ 35 Tryz.func46 rfl rfl fun _ _ _=> ?_
 (all_goals(conv=>whnf))
 refine NLoop.goA [.s 4 1 27] (fun i:Nat=>i≤l.length∧(l.take i).all Vu=true) (fun i=>l.length-i) (fun i=>⟨[(4,Ce 4 1 27 Dk ((l.take i).map gnE)),(9,.d (Df l)),(10,iv l.length),(11,iv i)],[],[(4,(((l.take i).map gnE).length,1,27))]⟩) 0 ⟨by omega,rfl⟩ leQ ?_
 rintro i ⟨hi,ha⟩
 have hml:((l.take i).map gnE).length≤1000000:=by rw[List.length_map,List.length_take];omega
 by_cases hik:i<l.length
 ·have gi:decide ((i:Int)<l.length)=true:=decide_eq_true (by omega)
  obtain⟨x,hg⟩:∃p,l[i]?=some p:=⟨_,List.getElem?_eq_getElem hik⟩
  have hm:=hs x (List.mem_of_getElem? hg)
  have hM:=Uz x hm.s hm.c
  unfold Qh at hM
  cases hv:Vu x
  ·rw[hv,if_neg (by simp)] at hM
   rw[show Qh (Zc l) (AI l)= .tup [Ao,iv 8] by unfold Qh Zc;rw[Y4 hg hv,Bool.and_false,if_neg (by simp)]]
   (repeat'((conv=>whnf);first|refine NBr.yes ?_|refine NBr.pos asP ?_|refine NIdx.tab (fun _=>rfl) hg ?_|refine NCall.eq hM Cq ?_));(all_goals(conv=>whnf))
   all_goals exact NEnd.eq leQ
  ·rw[hv,if_pos rfl] at hM
   have hs':=E6 gnE hg
   (repeat'((conv=>whnf);first|refine NBr.no ?_|refine NBr.pos asP ?_|refine NIdx.tab (fun _=>rfl) hg ?_|refine NCall.eq hM Cq ?_|refine NApp.one Dk (gnE x) ?_|(with_reducible refine NInt.i64 ?_)));(all_goals(conv=>whnf))
   refine⟨i+1,⟨by omega,Hb Vu hg hv ha⟩,by omega,?_⟩
   rw[hs']
   exact leQ
 ·have gi:decide ((i:Int)<l.length)=false:=decide_eq_false (by omega)
  obtain rfl:i=l.length:=by omega
  rw[List.take_length] at ha⊢
  by_cases h0:l=[]
  ·subst h0
   (repeat'((conv=>whnf);first|refine NBr.yes ?_|refine NBr.no ?_));(all_goals(conv=>whnf))
   all_goals exact NEnd.eq leQ
  ·have gj:(((l.map gnE).length:Int)==0)=false:=by rw[beq_eq_false_iff_ne,List.length_map];intro h;exact h0 (List.eq_nil_of_length_eq_zero (by omega))
   rw[show Qh (Zc l) (AI l)= .tup [Aq 0 5 (AI l),iv 0] by unfold Qh Zc;rw[ha,Bool.and_true,if_pos (by cases l with|nil=>exact absurd rfl h0|cons _ _=>rfl)]]
   (repeat'((conv=>whnf);first|refine NBr.neg asP ?_|refine NCall.eq hS Cq ?_));(all_goals(conv=>whnf))
   all_goals exact NEnd.eq leQ
theorem cQ (l:List Gn) (hz:gnsM l):Aa Tryz.prog 27 [.d (Df l)] (fun r=>r=bv (Zc l)):=by
 have hM:=cP l hz
 unfold Qh at hM
 cases hv:Zc l
 all_goals
  rw[hv] at hM
  first|rw[if_pos rfl] at hM|rw[if_neg (by simp)] at hM
  refine acQ 12 Tryz.func27 rfl rfl fun _ _ _=> ?_
  (repeat'((conv=>whnf);refine NCall.eq hM Cq ?_));(all_goals(conv=>whnf))
  all_goals exact NEnd.eq leQ
theorem Qi {k:Int} {l:List UInt8} (h:Af k l=true):Ed k (chS k l)=k∧Bs k (chS k l)=l∧Cw k (chS k l)=0:=by
 have:=xP h
 unfold Dl at this
 rwa[if_pos h] at this
theorem Zd {k:Int} {c:List UInt8} (h:Cw k c=0):Ed k c=k∧Af k (Bs k c)=true∧chS k (Bs k c)=c:=by
 unfold Cw at h
 unfold Ed Bs
 split at h
 ·cases h
 ·rename_i hk
  split at h
  ·rename_i ho
   rw[if_neg hk,if_neg hk,if_pos ho,if_pos ho]
   unfold okD at ho
   simp only[Bool.and_eq_true,beq_iff_eq] at ho
   exact⟨rfl,ho.1,ho.2⟩
  ·cases h
theorem W7:∀{a b:List (List UInt8)},Ft (a++b)=true→Ft a=true
 |[],_,_=>rfl
 |[_],_,_=>rfl
 |x::y::r,b,h=>by
  have h':(decide (Ea x y<0)&&Ft (y::r++b))=true:=h
  rw[Bool.and_eq_true] at h'
  rw[Ft,h'.1,W7 h'.2];rfl
theorem EH {a:Att} (_:atV a=true) (hs:a.sm):∃t:Tv,t.ok∧atE a=t.enc:=by
 have k1:=D5 a.oid
 have:=hs.o
 have:=hs.v
 have k2:=Al 0 6 false (Au a.oid) (by omega)
 exact⟨⟨0,16,true,Ae 0 6 false (Au a.oid)++a.val⟩,⟨by show(0:Nat)≤3;omega,by show(16:Nat)≤30;omega,by show(_++_:List UInt8).length≤_;rw[List.length_append];omega⟩,rfl⟩
theorem AJ {a:Att} (h:atV a=true) (hs:a.sm):atO (atE a)=some a:=by
 obtain⟨h1,h2⟩:=R9 h
 have k1:=D5 a.oid
 have o1:=hs.o
 have o2:=hs.v
 obtain⟨y,yo,ye⟩:=(Ls h2).tv (by omega)
 obtain⟨x,hx⟩:∃x:Tv,x=⟨0,6,false,Au a.oid⟩:=⟨_,rfl⟩
 have xo:x.ok:=by subst hx;exact⟨by show(0:Nat)≤3;omega,by show(6:Nat)≤30;omega,by show(Au a.oid).length≤_;omega⟩
 have e:atE a=Ae 0 16 true (Cf [x,y]):=by
  unfold atE
  rw[A0,A0,←ye]
  subst hx
  show _=Ae 0 16 true (Ae 0 6 false (Au a.oid)++(a.val++[]))
  rw[List.append_nil]
 have hl:(Cf [x,y]).length≤2147483600:=by
  have:=Al 0 6 false (Au a.oid) (by omega)
  rw[A0,A0,←ye]
  subst hx
  show(Ae 0 6 false (Au a.oid)++(a.val++[])).length≤_
  simp only[List.length_append,List.length_nil];omega
 have hp:=cE x y xo yo hl
 obtain⟨e1,e2⟩:=Tz h1
 have xv:x.v=Au a.oid:=by subst hx;rfl
 have xi:(x.el 0).isB 0 6 false=true:=by subst hx;rfl
 rw[xv,if_pos ⟨xi,e2⟩,e1,←ye,←e] at hp
 unfold atO
 rw[hp]
 simp only
 rw[if_pos h2]
theorem pL {p id s:List UInt8} (h:cC p=some (id,s)) (hl:p.length≤2147483600):Dz id=true∧p=Ae 0 16 true (Ae 0 6 false (Au id)++s)∧∃y:Tv,y.ok∧s=y.enc:=by
 obtain⟨c0,l2⟩:=iI h
 obtain⟨ts,t1,t2,-,-,t5⟩:=Jq c0
 have hlt:(Cf ts).length≤2147483600:=by
  have:=congrArg List.length t2
  unfold Ae at this
  rw[D4] at this;omega
 obtain⟨q,e1,-⟩:=Hc (c:=0) (n:=16) ts (by omega) (by omega) t1 hlt
 rw[←t2] at e1
 rw[e1] at l2
 have l2':ts.length=2:=by rw[←kR q ts];exact l2
 obtain⟨x,y,rfl⟩:∃x y,ts=[x,y]:=by
  match ts,l2' with
  |[x,y],_=>exact⟨x,y,rfl⟩
 have hpp:=cE x y (t1 x (by simp)) (t1 y (by simp)) hlt
 rw[←t2,h] at hpp
 by_cases hc:(x.el 0).isB 0 6 false=true∧odC x.v=0
 ·rw[if_pos hc] at hpp
  simp only[Option.some.injEq,Prod.mk.injEq] at hpp
  obtain⟨rfl,rfl⟩:=hpp
  have hd:=gQ hc.2
  have hb:=hc.1
  unfold El.isB Tv.el at hb
  simp only[Bool.and_eq_true,beq_iff_eq] at hb
  obtain⟨⟨b1,b2⟩,b3⟩:=hb
  have hxe:x.enc=Ae 0 6 false x.v:=by rw[Tv.enc,b1,b2,b3]
  refine⟨hd.1,?_,y,t1 y (by simp),rfl⟩
  rw[hd.2,←hxe,t2,A0,A0]
  show Ae 0 16 true (x.enc++(y.enc++[]))=_
  rw[List.append_nil]
 ·rw[if_neg hc] at hpp;cases hpp
theorem AK {p:List UInt8} {a:Att} (h:atO p=some a) (hl:p.length≤2147483600):atV a=true∧p=atE a:=by
 unfold atO at h
 cases hp:cC p with
 |none=>rw[hp] at h;cases h
 |some w=>
  obtain⟨id,s⟩:=w
  rw[hp] at h
  simp only at h
  by_cases ho:Dj s=true
  ·rw[if_pos ho] at h
   obtain rfl:=Option.some.inj h
   obtain⟨h1,h2,-⟩:=pL hp hl
   exact⟨by unfold atV;rw[h1,ho];rfl,h2⟩
  ·rw[if_neg ho] at h;cases h
def Ze:List (List UInt8)→List (List UInt8)→List Att→Option (List Att)
 |[],_,out=>some out
 |p::r,ps,out=>match atO p with
  |none=>none
  |some a=>if Ft (ps++[p])=true then Ze r (ps++[p]) (out++[a]) else none
theorem U0 (b:List UInt8):∀(l:List El) (ps:List (List UInt8)) (out:List Att),(Rm b l ps out).1=Ze (l.map (elO b)) ps out
 |[],_,_=>rfl
 |x::r,ps,out=>by
  rw[Rm,List.map_cons,Ze]
  cases atO (elO b x) with
  |none=>rfl
  |some a=>
   simp only
   by_cases h:Ft (ps++[elO b x])=true
   ·rw[if_pos h,if_pos h];exact U0 b r _ _
   ·rw[if_neg h,if_neg h]
theorem cR:∀{r:List Att} {ps:List (List UInt8)} {out:List Att},r.all atV=true→(∀a∈r,a.sm)→Ft (ps++r.map atE)=true→Ze (r.map atE) ps out=some (out++r)
 |[],_,_,_,_,_=>by simp[Ze]
 |a::r,ps,out,h,hs,ho=>by
  rw[List.all_cons,Bool.and_eq_true] at h
  rw[List.map_cons] at ho⊢
  have ho':Ft ((ps++[atE a])++r.map atE)=true:=by rw[List.append_assoc];exact ho
  rw[Ze,AJ h.1 (hs a (by simp))]
  simp only
  rw[if_pos (W7 ho'),cR h.2 (fun k hk=>hs k (by simp[hk])) ho',List.append_assoc];rfl
theorem cS:∀{qs ps:List (List UInt8)} {out z:List Att},(∀p∈qs,p.length≤2147483600)→Ze qs ps out=some z→∃r:List Att,z=out++r∧r.all atV=true∧qs=r.map atE∧(qs≠[]→Ft (ps++qs)=true)
 |[],_,out,z,_,h=>by
  rw[Ze] at h
  obtain rfl:=Option.some.inj h
  exact⟨[],by simp,rfl,rfl,fun h=>absurd rfl h⟩
 |p::qs,ps,out,z,hl,h=>by
  rw[Ze] at h
  cases ha:atO p with
  |none=>rw[ha] at h;cases h
  |some a=>
   rw[ha] at h
   simp only at h
   by_cases ho:Ft (ps++[p])=true
   ·rw[if_pos ho] at h
    obtain⟨r,e1,e2,e3,e4⟩:=cS (fun q hq=>hl q (by simp[hq])) h
    obtain⟨k1,k2⟩:=AK ha (hl p (by simp))
    refine⟨a::r,by rw[e1,List.append_assoc];rfl,by rw[List.all_cons,k1,e2];rfl,by rw[List.map_cons,←k2,←e3],fun _=> ?_⟩
    by_cases hq:qs=[]
    ·subst hq;exact ho
    ·have:=e4 hq
     rwa[List.append_assoc] at this
   ·rw[if_neg ho] at h;cases h
theorem AL {r:List Att} (h:r.all atV=true) (hs:∀a∈r,a.sm):∃ts:List Tv,(∀t∈ts,t.ok)∧r.map atE=ts.map Tv.enc:=
 R7 fun p hp=>by
  obtain⟨a,ha,rfl⟩:=List.mem_map.1 hp
  exact EH (List.all_eq_true.1 h a ha) (hs a ha)
theorem vG {r:List Att} (h:E0 r=true) (hz:rdnZ r):(M0 (Bw r)).1=some r:=by
 obtain⟨h0,h1,h2⟩:=Sa h
 obtain⟨hl,hs,hq⟩:=hz
 obtain⟨ts,t1,t2⟩:=AL h1 hs
 have hf:(r.map atE).flatten=Cf ts:=by rw[t2,E7]
 obtain⟨q,e1,e2⟩:=Hc (c:=0) (n:=17) ts (by omega) (by omega) t1 (by rw[←hf];omega)
 unfold M0 Bw
 rw[hf,e1,uZ,if_neg (by simp)]
 have hne:els q ts≠[]:=by
  intro e
  have:=congrArg List.length e
  rw[kR] at this
  have h3:=congrArg List.length t2
  rw[List.length_map,List.length_map] at h3
  exact h0 (List.eq_nil_of_length_eq_zero (by rw[h3];exact this))
 simp only
 rw[if_neg hne,U0,e2,←t2]
 exact cR h1 hs h2
theorem vH {b:List UInt8} {r:List Att} (h:(M0 b).1=some r) (hl:b.length≤2147483600):E0 r=true∧b=Bw r:=by
 unfold M0 uZ at h
 by_cases h1:(Ar b 0 17).code≠0
 ·rw[if_pos h1] at h;cases h
 rw[if_neg h1] at h
 obtain⟨ts,t1,t2,-,-,-⟩:=Jq (Decidable.not_not.1 h1)
 have hlt:(Cf ts).length≤b.length:=by
  have:=congrArg List.length t2
  unfold Ae at this
  rw[D4] at this;omega
 obtain⟨q,e1,e2⟩:=Hc (c:=0) (n:=17) ts (by omega) (by omega) t1 (by omega)
 rw[←t2] at e1 e2
 rw[e1] at h
 simp only at h
 by_cases hn:els q ts=[]
 ·rw[if_pos hn] at h;cases h
 rw[if_neg hn,U0,e2] at h
 obtain⟨r',e3,e4,e5,e6⟩:=cS (fun p hp=>by
  have:=Fz hp
  rw[←E7] at this;omega) h
 rw[List.nil_append] at e3
 subst e3
 have hne:ts.map Tv.enc≠[]:=by
  intro e
  have h5:ts=[]:=by simpa using e
  subst h5;exact hn rfl
 have ho:=e6 hne
 rw[List.nil_append,e5] at ho
 refine⟨?_,?_⟩
 ·unfold E0
  rw[e4,ho]
  cases r with
  |nil=>exact absurd e5 hne
  |cons _ _=>rfl
 ·rw[t2]
  unfold Bw
  rw[E7,e5]
def nmP:List (List UInt8)→List (List Att)→Option (List (List Att))
 |[],out=>some out
 |p::r,out=>match(M0 p).1 with
  |none=>none
  |some a=>nmP r (out++[a])
theorem Zf (b:List UInt8):∀(l:List El) (out:List (List Att)),(nmL b l out).1=nmP (l.map (elO b)) out
 |[],_=>rfl
 |x::r,out=>by
  rw[nmL,List.map_cons,nmP]
  generalize M0 (elO b x)=q
  obtain⟨o,c,p⟩:=q
  cases o with
  |none=>rfl
  |some a=>exact Zf b r _
theorem kY:∀{n out:List (List Att)},n.all E0=true→(∀r∈n,rdnZ r)→nmP (n.map Bw) out=some (out++n)
 |[],_,_,_=>by simp[nmP]
 |r::n,out,h,hs=>by
  rw[List.all_cons,Bool.and_eq_true] at h
  have h1:=hs r (by simp)
  rw[List.map_cons,nmP,vG h.1 h1]
  simp only
  rw[kY h.2 (fun k hk=>hs k (by simp[hk])),List.append_assoc];rfl
theorem kZ:∀{qs:List (List UInt8)} {out z:List (List Att)},(∀p∈qs,p.length≤2147483600)→nmP qs out=some z→∃n:List (List Att),z=out++n∧n.all E0=true∧qs=n.map Bw
 |[],out,z,_,h=>by
  rw[nmP] at h
  obtain rfl:=Option.some.inj h
  exact⟨[],by simp,rfl,rfl⟩
 |p::qs,out,z,hl,h=>by
  rw[nmP] at h
  cases ha:(M0 p).1 with
  |none=>rw[ha] at h;cases h
  |some a=>
   rw[ha] at h
   obtain⟨n,e1,e2,e3⟩:=kZ (fun q hq=>hl q (by simp[hq])) h
   obtain⟨k1,k2⟩:=vH ha (hl p (by simp))
   exact⟨a::n,by rw[e1,List.append_assoc];rfl,by rw[List.all_cons,k1,e2];rfl,by rw[List.map_cons,←k2,←e3]⟩
theorem EI {r:List Att} (hz:rdnZ r):∃t:Tv,t.ok∧Bw r=t.enc:=by
 have hq:=hz.e
 exact⟨⟨0,17,true,(r.map atE).flatten⟩,⟨by show(0:Nat)≤3;omega,by show(17:Nat)≤30;omega,by show(r.map atE).flatten.length≤_;omega⟩,rfl⟩
theorem AM {n:List (List Att)} (h:nmV n=true) (hs:nmZ n):(nmR (nmE n)).1=some n:=by
 obtain⟨ts,t1,t2⟩:=R7 (l:=n.map Bw) fun p hp=>by
  obtain⟨r,hr,rfl⟩:=List.mem_map.1 hp
  exact EI (hs.r r hr)
 have hf:(n.map Bw).flatten=Cf ts:=by rw[t2,E7]
 have he:=hs.e
 obtain⟨q,e1,e2⟩:=Hc (c:=0) (n:=16) ts (by omega) (by omega) t1 (by rw[←hf];omega)
 unfold nmR nmE
 rw[hf,e1,nmQ,if_neg (by simp)]
 simp only
 rw[Zf,e2,←t2]
 exact kY h hs.r
theorem AN {b:List UInt8} {n:List (List Att)} (h:(nmR b).1=some n) (hl:b.length≤2147483600):nmV n=true∧b=nmE n:=by
 unfold nmR nmQ at h
 by_cases h1:(Ar b 0 16).code≠0
 ·rw[if_pos h1] at h;cases h
 rw[if_neg h1] at h
 obtain⟨ts,t1,t2,-,-,-⟩:=Jq (Decidable.not_not.1 h1)
 have hlt:(Cf ts).length≤b.length:=by
  have:=congrArg List.length t2
  unfold Ae at this
  rw[D4] at this;omega
 obtain⟨q,e1,e2⟩:=Hc (c:=0) (n:=16) ts (by omega) (by omega) t1 (by omega)
 rw[←t2] at e1 e2
 rw[e1] at h
 simp only at h
 rw[Zf,e2] at h
 obtain⟨n',e3,e4,e5⟩:=kZ (fun p hp=>by
  have:=Fz hp
  rw[←E7] at this;omega) h
 rw[List.nil_append] at e3
 subst e3
 refine⟨e4,?_⟩
 rw[t2]
 unfold nmE
 rw[E7,e5]
theorem N6 {ts:List Tv} (h:∀t∈ts,t.ok):Cy (Cf ts)=ts.map Tv.enc:=by
 have hp:=Mo ts (Cf ts) [] (Cf ts).length h (by rw[List.take_length];rfl) (Nat.le_refl _)
 have he:=R6 ts (Cf ts) [] (Cf ts).length (by rw[List.take_length];rfl) (Nat.le_refl _)
 rw[List.length_nil] at hp he
 unfold Cy
 rw[hp,if_neg (by simp)]
 exact he
theorem U1 {c:List UInt8} (h:Cy c≠[]):∃ts:List Tv,(∀t∈ts,t.ok)∧c=Cf ts∧Cy c=ts.map Tv.enc:=by
 by_cases h1:(A3 c 0 c.length).code≠0
 ·unfold Cy at h;rw[if_pos h1] at h;exact absurd rfl h
 ·obtain⟨ts,e1,e2,e3⟩:=Mp _ c 0 c.length (Nat.le_refl _) (by omega) (by omega) (Decidable.not_not.1 h1)
  rw[List.drop_zero,Nat.sub_zero,List.take_length] at e3
  exact⟨ts,e1,e3,by rw[e3];exact N6 e1⟩
theorem U2 {t:Tv} (h:t.ok) (n:Nat):Bz t.enc n=if t.c=2∧t.n=n∧t.k=true then some t.v else none:=by
 unfold Bz
 rw[Hz h]
 simp only
 have hi:(t.el 0).isB 2 n true=decide (t.c=2∧t.n=n∧t.k=true):=by
  unfold El.isB Tv.el
  rw[Bool.eq_iff_iff]
  simp only[Bool.and_eq_true,beq_iff_eq,decide_eq_true_eq]
  exact⟨fun⟨⟨a,b⟩,c⟩=>⟨a,c,b⟩,fun⟨a,c,b⟩=>⟨⟨a,b⟩,c⟩⟩
 have hv:(t.enc.drop (0+t.hd)).take (0+t.enc.length-(0+t.hd))=t.v:=by
  rw[Nat.zero_add,Nat.zero_add,t.body]
  exact List.take_of_length_le (by rw[t.len];omega)
 by_cases hc:t.c=2∧t.n=n∧t.k=true
 ·rw[hi,decide_eq_true hc,if_neg (by simp),if_pos hc]
  show some ((t.enc.drop (0+t.hd)).take (0+t.enc.length-(0+t.hd)))=_
  rw[hv]
 ·rw[hi,decide_eq_false hc,if_pos (by simp),if_neg hc]
theorem N7 {n:Nat} {v:List UInt8} (hn:n≤30) (hv:v.length≤2147483600):Bz (Ae 2 n true v) n=some v:=by
 have:=U2 (t:=⟨2,n,true,v⟩) ⟨by show(2:Nat)≤3;omega,hn,by show v.length≤_;omega⟩ n
 rw[if_pos ⟨rfl,rfl,rfl⟩] at this
 exact this
theorem N8 {b v:List UInt8} {n:Nat} (h:Bz b n=some v):b=Ae 2 n true v:=by
 unfold Bz at h
 split at h
 ·cases h
 ·rename_i hh
  rw[not_or] at hh
  obtain⟨t,t1,t2,t3⟩:=Pd (Decidable.not_not.1 hh.1)
  have:=U2 t1 n
  rw[←t3] at this
  have hc:t.c=2∧t.n=n∧t.k=true:=by
   have hb:=hh.2
   rw[t2] at hb
   have hb:(t.el 0).isB 2 n true=true:=by simpa using hb
   unfold El.isB Tv.el at hb
   simp only[Bool.and_eq_true,beq_iff_eq] at hb
   exact⟨hb.1.1,hb.2,hb.1.2⟩
  rw[if_pos hc] at this
  have h':Bz b n=some v:=by unfold Bz;rw[if_neg (by rw[not_or];exact hh)];exact h
  rw[this] at h'
  obtain rfl:=Option.some.inj h'
  rw[t3,Tv.enc,hc.1,hc.2.1,hc.2.2]
def fiB (k:Int) (l:List UInt8):Bool:=Af k l&&(!(l==[])&& !(k==22||k==26))
theorem EJ {k:Int} {l:List UInt8} (h:Af k l=true) (hl:l.length≤500000000):∃n:Nat,k=n∧Tv.ok ⟨0,n,false,chS k l⟩∧txE k l=Tv.enc ⟨0,n,false,chS k l⟩:=by
 obtain⟨n,h1,h2,rfl⟩:=Pf h
 have h4:=Fk h
 exact⟨n,rfl,⟨by show(0:Nat)≤3;omega,h2,by show(chS (n:Int) l).length≤_;omega⟩,by unfold txE;rw[Int.toNat_natCast];rfl⟩
theorem lA {k:Int} {l:List UInt8} (h:Af k l=true) (hl:l.length≤500000000):Mz (txE k l)=k∧Qf (txE k l)=l∧Y2 (txE k l)=true:=by
 obtain⟨n,hk,ho,he⟩:=EJ h hl
 have hc:=Qi h
 generalize ht:(⟨0,n,false,chS k l⟩:Tv)=t at ho he
 have h1:=Hz ho
 have hs:Re t.enc=true:=by unfold Re;rw[h1];subst ht;rfl
 have hcon:Ur t.enc=chS k l:=by
  unfold Ur
  rw[h1]
  show(t.enc.drop (0+t.hd)).take (0+t.enc.length-(0+t.hd))=_
  rw[Nat.zero_add,Nat.zero_add,t.body,List.take_of_length_le (by rw[t.len];omega)]
  subst ht;rfl
 have hn:(At t.enc).x.n=n:=by rw[h1];subst ht;rfl
 rw[he]
 unfold Mz Qf Y2
 rw[hs,hcon,hn,←hk]
 exact⟨hc.1,hc.2.1,by rw[hc.2.2];rfl⟩
theorem AO {b:List UInt8} (h:Y2 b=true):Af (Mz b) (Qf b)=true∧b=txE (Mz b) (Qf b):=by
 unfold Y2 at h
 rw[Bool.and_eq_true] at h
 obtain⟨hs,hd⟩:=h
 have hs':=hs
 unfold Re at hs'
 simp only[Bool.and_eq_true,beq_iff_eq] at hs'
 obtain⟨t,t1,t2,t3⟩:=Pd hs'.1
 have hcon:Ur b=t.v:=by
  unfold Ur
  rw[t2,t3]
  show(t.enc.drop (0+t.hd)).take (0+t.enc.length-(0+t.hd))=_
  rw[Nat.zero_add,Nat.zero_add,t.body,List.take_of_length_le (by rw[t.len];omega)]
 have hn:(At b).x.n=t.n:=by rw[t2];rfl
 have htc:t.c=0:=by have:=hs'.2.1;rw[t2] at this;exact this
 have htk:t.k=false:=by have:=hs'.2.2;rw[t2] at this;simpa[Tv.el] using this
 rw[hn,hcon] at hd
 have hd:Cw (t.n:Int) t.v=0:=by simpa using hd
 obtain⟨i1,i2,i3⟩:=Zd hd
 have hK:Mz b=(t.n:Int):=by unfold Mz;rw[if_pos hs,hn,hcon];exact i1
 have hV:Qf b=Bs (t.n:Int) t.v:=by unfold Qf;rw[if_pos hs,hn,hcon]
 rw[hK,hV]
 refine⟨i2,?_⟩
 unfold txE
 rw[i3,Int.toNat_natCast,t3,Tv.enc,htc,htk]
theorem Zg {k:Int} {l:List UInt8} (h:fiB k l=true) (hl:l.length≤500000000):Fd (txE k l)=true∧pK (txE k l)=k∧pV (txE k l)=l:=by
 have h':=h
 unfold fiB at h
 rw[Bool.and_eq_true] at h
 obtain⟨s1,s2,s3⟩:=lA h.1 hl
 have hd:Fd (txE k l)=true:=by
  unfold Fd
  rw[s1,s2,s3,h.2];rfl
 refine⟨hd,?_,?_⟩
 ·unfold pK;rw[if_pos hd,s1]
 ·unfold pV;rw[if_pos hd,s2]
theorem lC {b:List UInt8} (h:Fd b=true):fiB (pK b) (pV b)=true∧b=txE (pK b) (pV b):=by
 have h':=h
 unfold Fd at h'
 rw[Bool.and_eq_true] at h'
 obtain⟨s1,s2⟩:=AO h'.1
 unfold pK pV
 rw[if_pos h,if_pos h]
 refine⟨?_,s2⟩
 unfold fiB
 rw[s1,h'.2];rfl
theorem vI {k:Int} {l:List UInt8} (hv:Af k l=true) (h:fiB k l=false) (hl:l.length≤500000000):Fd (txE k l)=false:=by
 cases hd:Fd (txE k l) with
 |false=>rfl
 |true=>
  exfalso
  obtain⟨s1,s2,s3⟩:=lA hv hl
  unfold Fd at hd
  rw[s1,s2,s3] at hd
  unfold fiB at h
  rw[hv] at h
  rw[h] at hd;cases hd
def Gj (g:Gn):Bool:= !(g.k==5)||((zT g.ak g.av||fiB g.ak g.av)&&fiB g.pk g.pv)
def gnW (g:Gn):Bool:=Bt g&&(Rn g&&((Dm g).isSome&&Gj g))
theorem Qj {k:Int} {l:List UInt8}:zT k l=true↔k=0∧l=[]:=by unfold zT;simp
theorem cT {n:Nat} {c:List UInt8} (hn:n≤8) (hl:c.length≤2147483600):Kr (Ae 2 n (C8 n) c)=if okP (rdP n c)=true then some (rdP n c).1 else none:=by
 obtain⟨t,ht⟩:∃t:Tv,t=⟨2,n,C8 n,c⟩:=⟨_,rfl⟩
 have hOk:t.ok:=by subst ht;exact⟨by show(2:Nat)≤3;omega,by show n≤30;omega,by show c.length≤_;omega⟩
 have he:Ae 2 n (C8 n) c=t.enc:=by subst ht;rfl
 have hv:t.v=c:=by subst ht;rfl
 have htag:Pi (t.el 0)=true:=by
  unfold Pi;subst ht
  show((2:Nat)==2&&(decide (n≤8)&&(C8 n==C8 n)))=true
  rw[decide_eq_true hn];simp
 have hn':(t.el 0).n=n:=by subst ht;rfl
 have hb:(t.enc.drop (t.el 0).body).take ((t.el 0).stop-(t.el 0).body)=c:=by
  show(t.enc.drop (0+t.hd)).take (0+t.enc.length-(0+t.hd))=_
  rw[Nat.zero_add,Nat.zero_add,t.body,List.take_of_length_le (by rw[t.len];omega),hv]
 rw[he]
 unfold Kr
 rw[Hz hOk]
 cases ho:okP (rdP n c)
 ·rw[if_neg (by simp)]
  exact(kX htag (by rw[hn',hb];exact ho)).1
 ·rw[if_pos rfl]
  have:=cO (b:=t.enc) htag (by rw[hn',hb];exact ho)
  rw[this,hn',hb]
theorem vJ {b:List UInt8} {g:Gn} (h:Kr b=some g):∃n:Nat,∃c:List UInt8,n≤8∧c.length≤b.length∧b=Ae 2 n (C8 n) c∧okP (rdP n c)=true∧g=(rdP n c).1:=by
 unfold Kr Uw at h
 by_cases h1:(At b).code≠0
 ·rw[if_pos h1] at h;cases h
 rw[if_neg h1] at h
 by_cases h2:Pi (At b).x=false
 ·rw[if_pos h2] at h;cases h
 rw[if_neg h2] at h
 obtain⟨t,t1,t2,t3⟩:=Pd (Decidable.not_not.1 h1)
 have hb:(b.drop (At b).x.body).take ((At b).x.stop-(At b).x.body)=t.v:=by
  rw[t2,t3]
  show(t.enc.drop (0+t.hd)).take (0+t.enc.length-(0+t.hd))=_
  rw[Nat.zero_add,Nat.zero_add,t.body,List.take_of_length_le (by rw[t.len];omega)]
 have hn:(At b).x.n=t.n:=by rw[t2];rfl
 rw[hb,hn] at h
 have htag:Pi (At b).x=true:=by simpa using h2
 rw[t2] at htag
 unfold Pi at htag
 simp only[Bool.and_eq_true,beq_iff_eq,decide_eq_true_eq] at htag
 obtain⟨a1,a2,a3⟩:=htag
 have a1:t.c=2:=a1
 have a2:t.n≤8:=a2
 have a3:t.k=C8 t.n:=a3
 by_cases h3:okP (rdP t.n t.v)=true
 ·rw[if_pos h3] at h
  refine⟨t.n,t.v,a2,by rw[t3,t.len];omega,?_,h3,(Option.some.inj h).symm⟩
  rw[t3,Tv.enc,a1,a3]
 ·rw[if_neg h3] at h;cases h
theorem lD {c d n m:Nat} {j k:Bool} {u v:List UInt8} (hc:c≤3) (hn:n≤30) (hd:d≤3) (hm:m≤30) (hu:u.length≤500000000) (hv:v.length≤500000000):Cy (Ae c n j u++Ae d m k v)=[Ae c n j u,Ae d m k v]:=by
 have:=N6 (ts:=[⟨c,n,j,u⟩,⟨d,m,k,v⟩]) (fun t ht=>by
  rcases List.mem_cons.1 ht with rfl|ht
  ·exact⟨hc,hn,by show u.length≤_;omega⟩
  ·rw[List.mem_singleton.1 ht];exact⟨hd,hm,by show v.length≤_;omega⟩)
 rw[A0,A0] at this
 show Cy (Tv.enc ⟨c,n,j,u⟩++Tv.enc ⟨d,m,k,v⟩)=_
 have e:Cf ([]:List Tv)=[]:=rfl
 rw[e,List.append_nil] at this
 exact this
theorem EK {c n:Nat} {j:Bool} {u:List UInt8} (hc:c≤3) (hn:n≤30) (hu:u.length≤500000000):Cy (Ae c n j u)=[Ae c n j u]:=by
 have:=N6 (ts:=[⟨c,n,j,u⟩]) (fun t ht=>by
  rw[List.mem_singleton.1 ht];exact⟨hc,hn,by show u.length≤_;omega⟩)
 rw[A0] at this
 have e:Cf ([]:List Tv)=[]:=rfl
 rw[e,List.append_nil] at this
 exact this
theorem AP {oid by':List UInt8} (h:Dz oid=true) (hl:oid.length≤3000000) (hb:by'.length≤3000000):M1 0 (Ae 0 6 false (Au oid)++Ae 2 0 true by')=(⟨0,oid,[],by',[],0,[],0,[]⟩,true):=by
 have k1:=D5 oid
 unfold M1
 rw[lD (by omega) (by omega) (by omega) (by omega) (by omega) (by omega)]
 show Vt 0 _ _=_
 obtain⟨t,ht⟩:∃t:Tv,t=⟨0,6,false,Au oid⟩:=⟨_,rfl⟩
 have hOk:t.ok:=by subst ht;exact⟨by show(0:Nat)≤3;omega,by show 6≤30;omega,by show(Au oid).length≤_;omega⟩
 have he:Ae 0 6 false (Au oid)=t.enc:=by subst ht;rfl
 have hv:t.v=Au oid:=by subst ht;rfl
 have hi:(t.el 0).isB 0 6 false=true:=by subst ht;rfl
 have hin:=N7 (n:=0) (v:=by') (by omega) (by omega)
 obtain⟨e1,e2⟩:=Tz h
 unfold Vt
 rw[he,Hz hOk]
 simp only
 rw[hi,if_neg (by simp)]
 have hd:t.enc.drop (t.el 0).body=Au oid:=by
  show t.enc.drop (0+t.hd)=_
  rw[Nat.zero_add,t.body,hv]
 rw[hd,e1,e2,hin,E8 hin]
 rfl
theorem lE {c:List UInt8} (_:c.length≤800000) (h:(M1 0 c).2=true):∃oid by':List UInt8,M1 0 c=(⟨0,oid,[],by',[],0,[],0,[]⟩,true)∧Dz oid=true∧c=Ae 0 6 false (Au oid)++Ae 2 0 true by':=by
 unfold M1 at h⊢
 by_cases hn:Cy c=[]
 ·rw[hn] at h;cases h
 obtain⟨ts,t1,t2,t3⟩:=U1 hn
 match hs:Cy c with
 |[]=>exact absurd hs hn
 |[x]=>rw[hs] at h;cases h
 |x::y::z::r=>rw[hs] at h;cases h
 |[p,q]=>
  rw[hs] at h t3
  have h:(Vt 0 p q).2=true:=h
  show∃oid by',Vt 0 p q=_∧_
  obtain⟨x,y,rfl⟩:∃x y,ts=[x,y]:=by
   match ts,congrArg List.length t3 with
   |[x,y],_=>exact⟨x,y,rfl⟩
  simp only[List.map_cons,List.map_nil,List.cons.injEq,and_true] at t3
  obtain⟨rfl,rfl⟩:=t3
  have x1:=t1 x (by simp)
  have y1:=t1 y (by simp)
  unfold Vt at h⊢
  rw[Hz x1] at h⊢
  simp only at h⊢
  by_cases hc:(0:Nat)≠0∨(x.el 0).isB 0 6 false=false
  ·rw[if_pos hc] at h;cases h
  rw[if_neg hc] at h⊢
  have hd:x.enc.drop (x.el 0).body=x.v:=by
   show x.enc.drop (0+x.hd)=_
   rw[Nat.zero_add,x.body]
  rw[hd] at h⊢
  simp only[Bool.and_eq_true,beq_iff_eq] at h
  obtain⟨h1,h2⟩:=h
  obtain⟨v,hv⟩:=Option.isSome_iff_exists.1 h1
  have hod:odC x.v=0:=by omega
  obtain⟨o1,o2⟩:=gQ hod
  have hb:(x.el 0).isB 0 6 false=true:=by
   rw[not_or] at hc;simpa using hc.2
  unfold El.isB Tv.el at hb
  simp only[Bool.and_eq_true,beq_iff_eq] at hb
  refine⟨odT x.v,v,?_,o1,?_⟩
  ·rw[hv,E8 hv,hod];rfl
  ·rw[o2,←N8 hv,t2,A0,A0]
   have e:x.enc=Ae 0 6 false x.v:=by rw[Tv.enc,hb.1.1,hb.2,hb.1.2]
   rw[←e]
   show x.enc++(y.enc++[])=_
   rw[List.append_nil]
theorem lF {K:Int} {V:List UInt8} (ak:Int) (av:List UInt8) (hv:Af K V=true) (hl:V.length≤3000000):Ke 5 (Ae 2 1 true (txE K V)) ak av=(⟨5,[],[],[],[],ak,av,pK (txE K V),pV (txE K V)⟩,fiB K V):=by
 have h4:=Fb hv hl
 have hin:=N7 (n:=1) (v:=txE K V) (by omega) (by omega)
 unfold Ke
 rw[hin,E8 hin]
 have:Fd (txE K V)=fiB K V:=by
  cases hf:fiB K V
  ·exact vI hv hf (by omega)
  ·exact(Zg hf (by omega)).1
 rw[this];rfl
theorem Ju {k:Int} {l:List UInt8} (h:fiB k l=true):Af k l=true:=by
 unfold fiB at h;rw[Bool.and_eq_true] at h;exact h.1
theorem lG {g:Gn} {c:List UInt8} (hk:g.k=5) (hc:Lv g=some c) (ha:g.av.length≤3000000) (hp:g.pv.length≤3000000):(Jt 5 c).2=((zT g.ak g.av||fiB g.ak g.av)&&fiB g.pk g.pv)∧(((zT g.ak g.av||fiB g.ak g.av)&&fiB g.pk g.pv)=true→Jt 5 c=(⟨5,[],[],[],[],g.ak,g.av,g.pk,g.pv⟩,true)):=by
 obtain⟨k,oid,tx,by',nm,ak,av,pk,pv⟩:=g
 unfold Lv at hc
 simp only at hk hc ha hp⊢
 by_cases hh:((zT ak av||Af ak av)&&Af pk pv)=true
 ·rw[if_pos hh] at hc
  rw[Bool.and_eq_true] at hh
  obtain⟨h1,h2⟩:=hh
  have hl2:=Fb h2 hp
  obtain rfl:=Option.some.inj hc
  have fin:fiB pk pv=true→(⟨5,[],[],[],[],ak,av,pK (txE pk pv),pV (txE pk pv)⟩:Gn)=⟨5,[],[],[],[],ak,av,pk,pv⟩:=fun h=>by
   obtain⟨-,q1,q2⟩:=Zg h (by omega)
   rw[q1,q2]
  cases hz:zT ak av
  ·rw[hz,Bool.false_or] at h1
   have hl1:=Fb h1 ha
   rw[if_neg (by simp),Bool.false_or]
   unfold Jt
   rw[lD (by omega) (by omega) (by omega) (by omega) (by omega) (by omega)]
   have hin:=N7 (n:=0) (v:=txE ak av) (by omega) (by omega)
   show(if(Bz (Ae 2 0 true (txE ak av)) 0).isSome&&Fd (inn (Ae 2 0 true (txE ak av)) 0) then Ke 5 (Ae 2 1 true (txE pk pv)) (pK (inn (Ae 2 0 true (txE ak av)) 0)) (pV (inn (Ae 2 0 true (txE ak av)) 0)) else(gz,false)).2=_∧(_→(if(Bz (Ae 2 0 true (txE ak av)) 0).isSome&&Fd (inn (Ae 2 0 true (txE ak av)) 0) then Ke 5 (Ae 2 1 true (txE pk pv)) (pK (inn (Ae 2 0 true (txE ak av)) 0)) (pV (inn (Ae 2 0 true (txE ak av)) 0)) else(gz,false))=_)
   rw[hin,E8 hin]
   cases hf:fiB ak av
   ·rw[vI h1 hf (by omega),if_neg (by simp)]
    exact⟨rfl,fun h=>by cases h⟩
   ·obtain⟨d1,d2,d3⟩:=Zg hf (by omega)
    rw[d1,d2,d3,if_pos (by rfl),lF _ _ h2 hp]
    exact⟨rfl,fun h=>by
     have h:fiB pk pv=true:=h
     rw[fin h,h]⟩
  ·obtain⟨z1,z2⟩:=Qj.1 hz
   subst z1 z2
   rw[if_pos rfl,Bool.true_or,List.nil_append]
   unfold Jt
   rw[EK (by omega) (by omega) (by omega)]
   show(Ke 5 _ 0 []).2=_∧(_→Ke 5 _ 0 []=_)
   rw[lF _ _ h2 hp]
   exact⟨rfl,fun h=>by
    have h:fiB pk pv=true:=h
    rw[fin h,h]⟩
 ·rw[if_neg hh] at hc;cases hc
theorem cU {q:List UInt8} {ak:Int} {av:List UInt8} (h:(Ke 5 q ak av).2=true):∃(K:Int) (V:List UInt8),Ke 5 q ak av=(⟨5,[],[],[],[],ak,av,K,V⟩,true)∧fiB K V=true∧q=Ae 2 1 true (txE K V):=by
 unfold Ke at h⊢
 simp only[Bool.and_eq_true] at h
 obtain⟨v,hv⟩:=Option.isSome_iff_exists.1 h.1
 have hd:=h.2
 rw[E8 hv] at hd
 obtain⟨d1,d2⟩:=lC hd
 refine⟨pK v,pV v,?_,d1,by rw[←d2];exact N8 hv⟩
 rw[hv,E8 hv,hd];rfl
theorem AQ {c:List UInt8} (h:(Jt 5 c).2=true):∃g:Gn,Jt 5 c=(g,true)∧g=⟨5,[],[],[],[],g.ak,g.av,g.pk,g.pv⟩∧Lv g=some c∧((zT g.ak g.av||fiB g.ak g.av)&&fiB g.pk g.pv)=true:=by
 unfold Jt at h⊢
 by_cases hn:Cy c=[]
 ·rw[hn] at h;cases h
 obtain⟨ts,t1,t2,t3⟩:=U1 hn
 have hfl:c=(Cy c).flatten:=by rw[t3,←E7];exact t2
 match hs:Cy c with
 |[]=>exact absurd hs hn
 |x::y::z::r=>rw[hs] at h;cases h
 |[q]=>
  rw[hs] at h hfl
  have h:(Ke 5 q 0 []).2=true:=h
  obtain⟨K,V,e1,e2,e3⟩:=cU h
  refine⟨⟨5,[],[],[],[],0,[],K,V⟩,e1,rfl,?_,by rw[e2];rfl⟩
  unfold Lv
  have e4:=Ju e2
  rw[show((zT 0 []||Af 0 [])&&Af K V)=true by rw[e4];rfl,if_pos rfl]
  have e5:zT 0 []=true:=rfl
  simp only
  rw[e5,if_pos rfl,List.nil_append,←e3,hfl];simp
 |[p,q]=>
  rw[hs] at h hfl
  have h:(if(Bz p 0).isSome&&Fd (inn p 0) then Ke 5 q (pK (inn p 0)) (pV (inn p 0)) else(gz,false)).2=true:=h
  show∃g:Gn,(if(Bz p 0).isSome&&Fd (inn p 0) then Ke 5 q (pK (inn p 0)) (pV (inn p 0)) else(gz,false))=(g,true)∧_
  by_cases hc:((Bz p 0).isSome&&Fd (inn p 0))=true
  ·rw[if_pos hc] at h⊢
   rw[Bool.and_eq_true] at hc
   obtain⟨v,hv⟩:=Option.isSome_iff_exists.1 hc.1
   have hd:=hc.2
   rw[E8 hv] at hd h⊢
   obtain⟨d1,d2⟩:=lC hd
   obtain⟨K,V,e1,e2,e3⟩:=cU h
   refine⟨⟨5,[],[],[],[],pK v,pV v,K,V⟩,e1,rfl,?_,by rw[e2,d1];simp⟩
   have e4:=Ju e2
   have e5:=Ju d1
   have e6:zT (pK v) (pV v)=false:=by
    cases hz:zT (pK v) (pV v) with
    |false=>rfl
    |true=>
     obtain⟨z1,z2⟩:=Qj.1 hz
     rw[z1] at e5
     obtain⟨m,m1,m2,m3⟩:=Pf e5
     omega
   unfold Lv
   simp only
   rw[e4,e5,e6]
   show some (Ae 2 0 true (txE (pK v) (pV v))++Ae 2 1 true (txE K V))=some c
   rw[←d2,←N8 hv,←e3,hfl];simp
  ·rw[if_neg hc] at h;cases h
theorem C6 (g:Gn):Bt g=true↔(g.k=0∨g.k=8∨g.oid=[])∧(g.k=1∨g.k=2∨g.k=6∨g.tx=[])∧(g.k=0∨g.k=3∨g.k=7∨g.by'=[])∧(g.k=4∨g.nm=[])∧(g.k=5∨(g.ak=0∧g.av=[])∧(g.pk=0∧g.pv=[])):=by
 unfold Bt alB
 simp only[Bool.and_eq_true,Bool.or_eq_true,beq_iff_eq,Qj]
 have l0:∀{α:Type} (l:List α),((l.length:Int)=0↔l=[]):=fun l=>⟨fun h=>List.eq_nil_of_length_eq_zero (by omega),fun h=>by rw[h];rfl⟩
 rw[l0,l0]
 constructor
 ·rintro⟨h1,h2,h3,h4,h5⟩
  refine⟨?_,?_,?_,h4,h5⟩
  ·rcases h1 with(h|h)|h<;>simp[h]
  ·rcases h2 with(h|h|h)|h<;>simp[h]
  ·rcases h3 with(h|h|h)|h<;>simp[h]
 ·rintro⟨h1,h2,h3,h4,h5⟩
  refine⟨?_,?_,?_,h4,h5⟩
  ·rcases h1 with h|h|h<;>simp[h]
  ·rcases h2 with h|h|h|h<;>simp[h]
  ·rcases h3 with h|h|h|h<;>simp[h]
theorem lH {g:Gn} {n:Nat} {c:List UInt8} (hk:g.k=n) (ha:Bt g=true) (hc:Dm g=some c) (hp:Gj g=true) (hs:g.sm):rdP n c=(g,true):=by
 obtain⟨k,oid,tx,by',nm,ak,av,pk,pv⟩:=g
 obtain⟨s1,s2,s3,s4,s5,s6⟩:=hs
 simp only at hk s1 s2 s3 s4 s5 s6
 subst hk
 rw[C6] at ha
 obtain⟨a1,a2,a3,a4,a5⟩:=ha
 simp only at a1 a2 a3 a4 a5
 unfold Dm at hc
 simp only at hc
 rcases(by
  obtain⟨m,hm,e⟩:=N5 (g:=⟨(n:Int),oid,tx,by',nm,ak,av,pk,pv⟩) (c:=c) hc
  simp only at e
  omega:n=0∨n=1∨n=2∨n=3∨n=4∨n=5∨n=6∨n=7∨n=8) with rfl|rfl|rfl|rfl|rfl|rfl|rfl|rfl|rfl
 ·obtain rfl:tx=[]:=by simpa using a2
  obtain rfl:nm=[]:=by simpa using a4
  obtain⟨⟨rfl,rfl⟩,rfl,rfl⟩:(ak=0∧av=[])∧pk=0∧pv=[]:=by simpa using a5
  rw[if_pos (by rfl)] at hc
  by_cases ho:Dz oid=true
  ·rw[if_pos ho] at hc
   obtain rfl:=Option.some.inj hc
   exact AP ho s1 s3
  ·rw[if_neg ho] at hc;cases hc
 ·obtain rfl:oid=[]:=by simpa using a1
  obtain rfl:by'=[]:=by simpa using a3
  obtain rfl:nm=[]:=by simpa using a4
  obtain⟨⟨rfl,rfl⟩,rfl,rfl⟩:(ak=0∧av=[])∧pk=0∧pv=[]:=by simpa using a5
  rw[if_neg (by decide),if_pos (by decide)] at hc
  by_cases ho:Af 22 tx=true
  ·rw[if_pos ho] at hc
   obtain rfl:=Option.some.inj hc
   obtain⟨-,e2,e3⟩:=Qi ho
   show((⟨1,[],Bs 22 (chS 22 tx),[],[],0,[],0,[]⟩:Gn),Cw 22 (chS 22 tx)==0)=_
   rw[e2,e3];rfl
  ·rw[if_neg ho] at hc;cases hc
 ·obtain rfl:oid=[]:=by simpa using a1
  obtain rfl:by'=[]:=by simpa using a3
  obtain rfl:nm=[]:=by simpa using a4
  obtain⟨⟨rfl,rfl⟩,rfl,rfl⟩:(ak=0∧av=[])∧pk=0∧pv=[]:=by simpa using a5
  rw[if_neg (by decide),if_pos (by decide)] at hc
  by_cases ho:Af 22 tx=true
  ·rw[if_pos ho] at hc
   obtain rfl:=Option.some.inj hc
   obtain⟨-,e2,e3⟩:=Qi ho
   show((⟨2,[],Bs 22 (chS 22 tx),[],[],0,[],0,[]⟩:Gn),Cw 22 (chS 22 tx)==0)=_
   rw[e2,e3];rfl
  ·rw[if_neg ho] at hc;cases hc
 ·obtain rfl:oid=[]:=by simpa using a1
  obtain rfl:tx=[]:=by simpa using a2
  obtain rfl:nm=[]:=by simpa using a4
  obtain⟨⟨rfl,rfl⟩,rfl,rfl⟩:(ak=0∧av=[])∧pk=0∧pv=[]:=by simpa using a5
  rw[if_neg (by decide),if_neg (by decide),if_pos (by decide)] at hc
  obtain rfl:=Option.some.inj hc
  rfl
 ·obtain rfl:oid=[]:=by simpa using a1
  obtain rfl:tx=[]:=by simpa using a2
  obtain rfl:by'=[]:=by simpa using a3
  obtain⟨⟨rfl,rfl⟩,rfl,rfl⟩:(ak=0∧av=[])∧pk=0∧pv=[]:=by simpa using a5
  rw[if_neg (by decide),if_neg (by decide),if_neg (by decide),if_pos (by rfl)] at hc
  by_cases ho:nmV nm=true
  ·rw[if_pos ho] at hc
   obtain rfl:=Option.some.inj hc
   have:=AM ho s4
   show Pg 4 (nmE nm)=_
   unfold Pg
   generalize nmR (nmE nm)=q at this
   obtain⟨o,cc,p⟩:=q
   simp only at this
   subst this
   rfl
  ·rw[if_neg ho] at hc;cases hc
 ·obtain rfl:oid=[]:=by simpa using a1
  obtain rfl:tx=[]:=by simpa using a2
  obtain rfl:by'=[]:=by simpa using a3
  obtain rfl:nm=[]:=by simpa using a4
  rw[if_neg (by decide),if_neg (by decide),if_neg (by decide),if_neg (by decide),if_pos (by rfl)] at hc
  exact(lG (g:=⟨((5:Nat):Int),[],[],[],[],ak,av,pk,pv⟩) rfl hc s5 s6).2 hp
 ·obtain rfl:oid=[]:=by simpa using a1
  obtain rfl:by'=[]:=by simpa using a3
  obtain rfl:nm=[]:=by simpa using a4
  obtain⟨⟨rfl,rfl⟩,rfl,rfl⟩:(ak=0∧av=[])∧pk=0∧pv=[]:=by simpa using a5
  rw[if_neg (by decide),if_pos (by decide)] at hc
  by_cases ho:Af 22 tx=true
  ·rw[if_pos ho] at hc
   obtain rfl:=Option.some.inj hc
   obtain⟨-,e2,e3⟩:=Qi ho
   show((⟨6,[],Bs 22 (chS 22 tx),[],[],0,[],0,[]⟩:Gn),Cw 22 (chS 22 tx)==0)=_
   rw[e2,e3];rfl
  ·rw[if_neg ho] at hc;cases hc
 ·obtain rfl:oid=[]:=by simpa using a1
  obtain rfl:tx=[]:=by simpa using a2
  obtain rfl:nm=[]:=by simpa using a4
  obtain⟨⟨rfl,rfl⟩,rfl,rfl⟩:(ak=0∧av=[])∧pk=0∧pv=[]:=by simpa using a5
  rw[if_neg (by decide),if_neg (by decide),if_pos (by decide)] at hc
  obtain rfl:=Option.some.inj hc
  rfl
 ·obtain rfl:tx=[]:=by simpa using a2
  obtain rfl:by'=[]:=by simpa using a3
  obtain rfl:nm=[]:=by simpa using a4
  obtain⟨⟨rfl,rfl⟩,rfl,rfl⟩:(ak=0∧av=[])∧pk=0∧pv=[]:=by simpa using a5
  rw[if_neg (by decide),if_neg (by decide),if_neg (by decide),if_neg (by decide),if_neg (by decide),if_pos (by rfl)] at hc
  by_cases ho:Dz oid=true
  ·rw[if_pos ho] at hc
   obtain rfl:=Option.some.inj hc
   obtain⟨e1,e2⟩:=Tz ho
   show((⟨8,odT (Au oid),[],[],[],0,[],0,[]⟩:Gn),(odC (Au oid):Int)==0)=_
   rw[e1,e2];rfl
  ·rw[if_neg ho] at hc;cases hc
theorem AR {n:Nat} {c:List UInt8} (hn:n≤8) (hl:c.length≤800000) (h:(rdP n c).2=true):(rdP n c).1.k=n∧Bt (rdP n c).1=true∧Dm (rdP n c).1=some c∧Gj (rdP n c).1=true:=by
 rcases(by omega:n=0∨n=1∨n=2∨n=3∨n=4∨n=5∨n=6∨n=7∨n=8) with rfl|rfl|rfl|rfl|rfl|rfl|rfl|rfl|rfl
 ·obtain⟨oid,by',e1,e2,e3⟩:=lE hl (show(M1 0 c).2=true from h)
  show(M1 0 c).1.k=_∧Bt (M1 0 c).1=true∧Dm (M1 0 c).1=some c∧Gj (M1 0 c).1=true
  rw[e1]
  refine⟨rfl,by rw[C6];simp,?_,rfl⟩
  unfold Dm
  rw[if_pos rfl]
  simp only
  rw[if_pos e2,e3]
 ·have hd:Cw 22 c=0:=by simpa[rdP] using h
  obtain⟨-,i2,i3⟩:=Zd hd
  refine⟨rfl,by rw[C6];simp[rdP],?_,rfl⟩
  show(if Af 22 (Bs 22 c)=true then some (chS 22 (Bs 22 c)) else none)=_
  rw[if_pos i2,i3]
 ·have hd:Cw 22 c=0:=by simpa[rdP] using h
  obtain⟨-,i2,i3⟩:=Zd hd
  refine⟨rfl,by rw[C6];simp[rdP],?_,rfl⟩
  show(if Af 22 (Bs 22 c)=true then some (chS 22 (Bs 22 c)) else none)=_
  rw[if_pos i2,i3]
 ·exact⟨rfl,by rw[C6];simp[rdP],rfl,rfl⟩
 ·have h':(Pg 4 c).2=true:=h
  have hi:=fun n hh=>AN (b:=c) (n:=n) hh (by omega)
  show(Pg 4 c).1.k=_∧Bt (Pg 4 c).1=true∧Dm (Pg 4 c).1=some c∧Gj (Pg 4 c).1=true
  unfold Pg at h'⊢
  generalize nmR c=q at h' hi⊢
  obtain⟨o,cc,p⟩:=q
  cases o with
  |none=>cases h'
  |some nm=>
   obtain⟨i1,i2⟩:=hi nm rfl
   refine⟨rfl,by rw[C6];simp,?_,rfl⟩
   show(if nmV nm=true then some (nmE nm) else none)=_
   rw[if_pos i1,←i2]
 ·obtain⟨g,e1,e2,e3,e4⟩:=AQ (show(Jt 5 c).2=true from h)
  show(Jt 5 c).1.k=_∧Bt (Jt 5 c).1=true∧Dm (Jt 5 c).1=some c∧Gj (Jt 5 c).1=true
  rw[e1]
  have hk:g.k=5:=by rw[e2]
  refine⟨hk,by rw[C6,e2];simp,?_,?_⟩
  ·show Dm g=some c
   unfold Dm
   rw[hk,if_neg (by decide),if_neg (by decide),if_neg (by decide),if_neg (by decide),if_pos rfl]
   exact e3
  ·show Gj g=true
   unfold Gj;rw[e4];simp
 ·have hd:Cw 22 c=0:=by simpa[rdP] using h
  obtain⟨-,i2,i3⟩:=Zd hd
  refine⟨rfl,by rw[C6];simp[rdP],?_,rfl⟩
  show(if Af 22 (Bs 22 c)=true then some (chS 22 (Bs 22 c)) else none)=_
  rw[if_pos i2,i3]
 ·exact⟨rfl,by rw[C6];simp[rdP],rfl,rfl⟩
 ·have hd:odC c=0:=by
   have h:((odC c:Int)==0)=true:=h
   rw[beq_iff_eq] at h;omega
  obtain⟨o1,o2⟩:=gQ hd
  refine⟨rfl,by rw[C6];simp[rdP],?_,rfl⟩
  show(if Dz (odT c)=true then some (Au (odT c)) else none)=_
  rw[if_pos o1,o2]
theorem Ms (g:Gn):gnW g=true↔Bt g=true∧Rn g=true∧(∃c,Dm g=some c)∧Gj g=true:=by
 unfold gnW
 simp only[Bool.and_eq_true,Option.isSome_iff_exists]
theorem cV {g:Gn} (h:gnW g=true) (hs:g.mid):Kr (gnE g)=some g:=by
 obtain⟨h1,h2,⟨c,h3⟩,h4⟩:=(Ms g).1 h
 obtain⟨n,hn,hk⟩:=N5 h3
 have hl:=hs.c
 rw[h3] at hl
 have hl:c.length≤700000:=hl
 have e:gnE g=Ae 2 n (C8 n) c:=by unfold gnE;rw[h3,hk];rfl
 have hr:=lH hk h1 h3 h4 hs.s
 rw[e,cT hn (by omega),hr]
 have:okP (g,true)=true:=by unfold okP;rw[h2];rfl
 rw[if_pos this]
theorem vK {b:List UInt8} {g:Gn} (h:Kr b=some g) (hl:b.length≤800000):gnW g=true∧b=gnE g:=by
 obtain⟨n,c,hn,hc,hb,ho,rfl⟩:=vJ h
 unfold okP at ho
 rw[Bool.and_eq_true] at ho
 obtain⟨i1,i2,i3,i4⟩:=AR hn (by omega) ho.1
 refine⟨(Ms _).2 ⟨i2,ho.2,⟨c,i3⟩,i4⟩,?_⟩
 unfold gnE
 rw[i1,i3];exact hb
theorem vL {g:Gn} (hs:g.mid):Vu g=gnW g:=by
 cases hw:gnW g
 ·cases hv:Vu g with
  |false=>rfl
  |true=>
   exfalso
   unfold Vu at hv
   simp only[Bool.and_eq_true] at hv
   obtain⟨v1,v2,v3,v4⟩:=hv
   obtain⟨c,h3⟩:=Option.isSome_iff_exists.1 v3
   obtain⟨n,hn,hk⟩:=N5 h3
   have hp:Gj g=false:=by
    unfold gnW at hw;rw[v1,v2,v3] at hw;exact hw
   have h5:g.k=5:=by
    unfold Gj at hp
    simp only[Bool.or_eq_false_iff,Bool.not_eq_false',beq_iff_eq] at hp
    exact hp.1
   have hl:=hs.c
   rw[h3] at hl
   have hl:c.length≤700000:=hl
   have e:gnE g=Ae 2 5 (C8 (5:Nat)) c:=by unfold gnE;rw[h3,h5];rfl
   have hc:Lv g=some c:=by
    unfold Dm at h3
    rw[h5,if_neg (by decide),if_neg (by decide),if_neg (by decide),if_neg (by decide),if_pos rfl] at h3
    exact h3
   have hq:=(lG h5 hc hs.s.a hs.s.p).1
   have:((zT g.ak g.av||fiB g.ak g.av)&&fiB g.pk g.pv)=false:=by
    unfold Gj at hp;rw[h5] at hp;exact hp
   rw[this] at hq
   rw[e,cT (by omega) (by omega)] at v4
   have ho:okP (rdP 5 c)=false:=by
    show((Jt 5 c).2&&Rn (Jt 5 c).1)=false
    rw[hq];rfl
   rw[ho] at v4;cases v4
 ·obtain⟨h1,h2,⟨c,h3⟩,h4⟩:=(Ms g).1 hw
  unfold Vu
  rw[cV hw hs,h1,h2,h3];rfl
end Go.Proofs.YtgmbmfoabndmoaaGreatDoor
