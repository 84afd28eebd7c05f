/- MP: the texts GenM GenR DnP GenL GenX GenY, one behind the other. No condition but what each lemma says. -/
import Derived.Test.YtngbfblmejjipaaGreatDoorMO
import Derived.Test.YtngbfblmejjipaaGreatDoorMM
import Derived.Test.YtngbfblmejjipaaGreatDoorGEncPlain
set_option maxRecDepth 100000
set_option maxHeartbeats 16000000
namespace Go.Proofs.YtngbfblmejjipaaGreatDoor
open Go.RowKit
def rdP (n:Nat) (c:List UInt8):Gn×Bool:=match n with
 |0=>Sp 0 c
 |1=>(⟨1,[],Dg 22 c,[],[],0,[],0,[]⟩,Dk 22 c==0)
 |2=>(⟨2,[],Dg 22 c,[],[],0,[],0,[]⟩,Dk 22 c==0)
 |3=>(⟨3,[],[],c,[],0,[],0,[]⟩,true)
 |4=>So 4 c
 |5=>K9 5 c
 |6=>(⟨6,[],Dg 22 c,[],[],0,[],0,[]⟩,Dk 22 c==0)
 |7=>(⟨7,[],[],c,[],0,[],0,[]⟩,true)
 |8=>(⟨8,odT c,[],[],[],0,[],0,[]⟩,(odC c:Int)==0)
 |_=>(gz,false)
def Na (x:El):Bool:=x.c==2&&(decide (x.n≤8)&&(x.k==Cc x.n))
def okP (p:Gn×Bool):Bool:=p.2&&M9 p.1
def Nv (b:List UInt8) (r:ElR):Option Gn:=if r.code≠0 then none else if Na r.x=false then none else if okP (rdP r.x.n ((b.drop r.x.body).take (r.x.stop-r.x.body)))=true then some (rdP r.x.n ((b.drop r.x.body).take (r.x.stop-r.x.body))).1 else none
def Vg (b:List UInt8):Option Gn:=Nv b (Ap b)
def Qe (r:ElR):Nat×Nat:=if r.code≠0 then(r.code,r.off) else if Na r.x=false then(3,0) else(6,r.x.body)
def Zx (b:List UInt8):Nat×Nat:=Qe (Ap b)
theorem Nb {b:List UInt8} {x:El} (h:Na x=false):Nv b ⟨x,0,0⟩=none∧Qe ⟨x,0,0⟩=(3,0):=by
 refine⟨?_,?_⟩
 ·unfold Nv;rw[if_neg (by simp),if_pos h]
 ·unfold Qe;rw[if_neg (by simp),if_pos h]
theorem W8 {b:List UInt8} {x:El} (h:Na x=true) (h2:okP (rdP x.n ((b.drop x.body).take (x.stop-x.body)))=false):Nv b ⟨x,0,0⟩=none∧Qe ⟨x,0,0⟩=(6,x.body):=by
 refine⟨?_,?_⟩
 ·unfold Nv;simp only;rw[if_neg (by simp),if_neg (by rw[h];simp),if_neg (by rw[h2];simp)]
 ·unfold Qe;rw[if_neg (by simp),if_neg (by rw[h];simp)]
theorem Sr {b:List UInt8} {x:El} (h:Na x=true) (h2:okP (rdP x.n ((b.drop x.body).take (x.stop-x.body)))=true):Nv b ⟨x,0,0⟩=some (rdP x.n ((b.drop x.body).take (x.stop-x.body))).1:=by
 unfold Nv;simp only;rw[if_neg (by simp),if_neg (by rw[h];simp),if_pos h2]
def gnR (o:Option Gn) (e:Nat×Nat):AV:=match o with
 |some g=> .tup [gnQ g,erA 0 0]
 |none=> .tup [gnQ gz,erA e.1 e.2]
theorem jG (b:List UInt8):(Zx b).1≠0∧(Zx b).2≤b.length:=by
 have hF:=B7 b
 unfold Zx Qe
 by_cases h1:(Ap b).code≠0
 ·rw[if_pos h1];exact⟨h1,hF.2.2.1⟩
 rw[if_neg h1]
 split
 ·exact⟨by simp,Nat.zero_le _⟩
 ·have:=hF.1 (Decidable.not_not.1 h1)
  exact⟨by simp,by show(Ap b).x.body≤_;omega⟩
theorem jH (k:Int) (c:List UInt8):(Sp k c).1.by'.length≤c.length:=by
 have hm:=fun p=>Iu (c:=c) (p:=p)
 unfold Sp
 generalize Co c=l at hm
 match l with
 |[]=>exact Nat.zero_le _
 |[x]=>exact Nat.zero_le _
 |x::y::z::r=>exact Nat.zero_le _
 |[p,q]=>
  show(Vf k p q).1.by'.length≤_
  unfold Vf
  split
  ·exact Nat.zero_le _
  ·have:=hm q (by simp)
   have:=Jr q 0
   show(inn q 0).length≤_
   omega
theorem jI (k:Int) (c:List UInt8):(K9 k c).1.by'=[]:=by
 unfold K9
 match Co c with
 |[]=>rfl
 |[q]=>rfl
 |x::y::z::r=>rfl
 |[p,q]=>
  show(if(Bq p 0).isSome&&D1 (inn p 0) then Kh k q (pK (inn p 0)) (pV (inn p 0)) else(gz,false)).1.by'=[]
  split<;>rfl
theorem jJ (k:Int) (c:List UInt8):(So k c).1.by'=[]:=by
 unfold So;split<;>rfl
theorem eM {C:Cx} {o:Oper} {σ:AS} {t:Nat} {x y:Operand} {k:Int} (h:rdF k=none) (ho:o.op= .lookup 72 x y true) (hd:o.dst=some t) (ht:t<C.N) (hx:σ.eval x=some rdA) (hy:σ.eval y=some (iv k)):
 LA Tryz.prog C o ⟨[],some (t,.tup [.d (.v .nilFunc),bv false]),none,none,[],[],[],[]⟩ σ:=by
 have:=Eh ho hd ht hx hy
 unfold fnA at this
 rwa[h] at this
def oC:Nat→FuncId
 |0=>73
 |3=>75
 |4=>76
 |5=>77
 |7=>75
 |8=>78
 |_=>74
theorem jK {n:Nat} (hn:n≤8) (c:List UInt8) (hl:c.length≤800000):Ab Tryz.prog (oC n) [ptA n c] (fun r=>r=gbA (rdP n c))∧(rdP n c).1.by'.length≤100000000:=by
 have l0:([]:List UInt8).length≤100000000:=by simp
 rcases(by omega:n=0∨n=1∨n=2∨n=3∨n=4∨n=5∨n=6∨n=7∨n=8) with rfl|rfl|rfl|rfl|rfl|rfl|rfl|rfl|rfl
 ·exact⟨eK 0 c hl,by have:=jH 0 c;show(Sp 0 _).1.by'.length≤_;omega⟩
 ·exact⟨Kg 1 c (by omega),l0⟩
 ·exact⟨Kg 2 c (by omega),l0⟩
 ·exact⟨M7 3 c (by omega),by show c.length≤_;omega⟩
 ·exact⟨eJ 4 c hl,by show(So 4 _).1.by'.length≤_;rw[jJ];exact l0⟩
 ·exact⟨eL 5 c hl,by show(K9 5 _).1.by'.length≤_;rw[jI];exact l0⟩
 ·exact⟨Kg 6 c (by omega),l0⟩
 ·exact⟨M7 7 c (by omega),by show c.length≤_;omega⟩
 ·exact⟨Sn 8 c (by omega),l0⟩
theorem Cs {p:Prop} (h:p:=by first|rfl|(simp only[AV.gives,AV.ren,AV.give,D.un,D.uns,Ai,An,List.nil_append,List.append_nil,List.cons_append,A3,Dt,Hw,Dd,Ci,Ge,Fe,Gi,D2];first|done|rfl)):p:=h
theorem eO (b:List UInt8) (hb:b.length≤800000) (x:El) (hx:x.body≤x.stop∧x.stop≤b.length) (hn:x.n≤8) (hO:Ab Tryz.prog 40 [.d (Ac false b)] (fun r=>r=erR ⟨x,0,0⟩)):Ab Tryz.prog 15 [.d (Ac false b)] (fun r=>r=gnR (Nv b ⟨x,0,0⟩) (Qe ⟨x,0,0⟩)):=by
 obtain⟨c,n,k,p,body,stop⟩:=x
 simp only at hx hn
 have hlc:((b.drop body).take (stop-body)).length≤b.length:=by rw[List.length_take,List.length_drop];omega
 obtain⟨hR,hl⟩:=jK hn ((b.drop body).take (stop-body)) (by omega)
 have gt:Na ⟨c,n,k,p,body,stop⟩=(c==2&&(true&&(k==Cc n))):=by unfold Na;rw[decide_eq_true hn]
 obtain⟨con,hcon,hK⟩:∃con:Bool,Cc (n:Int)=con∧Ab Tryz.prog 39 [iv n] (fun r=>r=bv con):=⟨_,rfl,Sq n⟩
 rw[hcon] at gt
 rcases(by omega:n=0∨n=1∨n=2∨n=3∨n=4∨n=5∨n=6∨n=7∨n=8) with rfl|rfl|rfl|rfl|rfl|rfl|rfl|rfl|rfl
 all_goals cases con
 all_goals try(exact absurd hcon (by decide))
 all_goals
  clear hn hcon
  cases hc:(c==2)
  ·have e:=Nb (b:=b) (gt.trans (by rw[hc];rfl))
   rw[e.1,e.2]
   have g1:((c:Int) !=2)=true:=by rw[bne_iff_ne];rw[beq_eq_false_iff_ne] at hc;omega
   refine acQ 70 Tryz.func15 rfl rfl fun _ _ _=> ?_
   (repeat'((conv=>whnf);first|refine NBr.yes ?_|refine NBr.no ?_|refine NBr.pos asP ?_|refine NCall.eq hO Cs ?_|refine NCall.eq C2 rfl ?_|refine NLa.mk ⟨_,Eh rfl rfl (ltN rfl) rfl rfl,?_⟩|refine NFact.go ⟨by decide+kernel,by kernel_rfl⟩ ?_));(all_goals(conv=>whnf))
   all_goals exact NEnd.eq leQ
  have g1:((c:Int) !=2)=false:=by rw[bne_eq_false_iff_eq];rw[beq_iff_eq] at hc;omega
  cases k
  all_goals try
   have hk:=gt.trans (show _=false by rw[hc];rfl)
   have e:=Nb (b:=b) hk
   rw[e.1,e.2]
   refine acQ 70 Tryz.func15 rfl rfl fun _ _ _=> ?_
   (repeat'((conv=>whnf);first|refine NBr.yes ?_|refine NBr.no ?_|refine NBr.neg asP ?_|refine NCall.eq hO Cs ?_|refine NCall.eq C2 rfl ?_|refine NCall.eq hK rfl ?_|refine NLa.mk ⟨_,Eh rfl rfl (ltN rfl) rfl rfl,?_⟩|refine NFact.go ⟨by decide+kernel,by kernel_rfl⟩ ?_));(all_goals(conv=>whnf))
   all_goals exact NEnd.eq leQ
  have ht:=gt.trans (show _=true by rw[hc];rfl)
  have eN:=W8 (b:=b) ht
  have eY:=Sr (b:=b) ht
  simp only at eN eY
  generalize rdP _ ((b.drop body).take (stop-body))=q at hR hl eN eY
  obtain⟨g,ok⟩:=q
  simp only at hl eN eY
  have hT:=Ov g hl
  simp only[gbA] at hR
  cases ok
  ·rw[(eN rfl).1,(eN rfl).2]
   refine acQ 70 Tryz.func15 rfl rfl fun _ _ _=> ?_
   (repeat'((conv=>whnf);first|refine NBr.yes ?_|refine NBr.no ?_|refine NBr.neg asP ?_|refine NCall.eq hO Cs ?_|refine NCall.eq C2 rfl ?_|refine NCall.eq hK rfl ?_|refine NSl.slice (body) (stop) ?_|refine NCall.eq hR Cs ?_|refine NLa.mk ⟨_,Eh rfl rfl (ltN rfl) rfl rfl,?_⟩|refine NFact.go ⟨by decide+kernel,by kernel_rfl⟩ ?_));(all_goals(conv=>whnf))
   all_goals exact NEnd.eq leQ
  cases hfi:M9 g
  ·rw[hfi] at hT
   have e:=eN (show(true&&M9 g)=false by rw[hfi];rfl)
   rw[e.1,e.2]
   refine acQ 70 Tryz.func15 rfl rfl fun _ _ _=> ?_
   (repeat'((conv=>whnf);first|refine NBr.yes ?_|refine NBr.no ?_|refine NBr.neg asP ?_|refine NCall.eq hO Cs ?_|refine NCall.eq C2 rfl ?_|refine NCall.eq hK rfl ?_|refine NSl.slice (body) (stop) ?_|refine NCall.eq hR Cs ?_|refine NCall.eq hT Cs ?_|refine NLa.mk ⟨_,Eh rfl rfl (ltN rfl) rfl rfl,?_⟩|refine NFact.go ⟨by decide+kernel,by kernel_rfl⟩ ?_));(all_goals(conv=>whnf))
   all_goals exact NEnd.eq leQ
  ·rw[hfi] at hT
   rw[eY (show(true&&M9 g)=true by rw[hfi];rfl)]
   refine acQ 70 Tryz.func15 rfl rfl fun _ _ _=> ?_
   (repeat'((conv=>whnf);first|refine NBr.no ?_|refine NBr.neg asP ?_|refine NCall.eq hO Cs ?_|refine NCall.eq C2 rfl ?_|refine NCall.eq hK rfl ?_|refine NSl.slice (body) (stop) ?_|refine NCall.eq hR Cs ?_|refine NCall.eq hT Cs ?_|refine NLa.mk ⟨_,Eh rfl rfl (ltN rfl) rfl rfl,?_⟩|refine NFact.go ⟨by decide+kernel,by kernel_rfl⟩ ?_));(all_goals(conv=>whnf))
   all_goals exact NEnd.eq leQ
theorem Vh (b:List UInt8) (hb:b.length≤800000):Ab Tryz.prog 15 [.d (Ac false b)] (fun r=>r=gnR (Vg b) (Zx b)):=by
 have hO:=Jd b (by omega)
 have hF:=B7 b
 unfold Vg Zx
 generalize Ap b=r at hO hF⊢
 obtain⟨x,c,o⟩:=r
 by_cases h1:c=0
 ·subst h1
  obtain⟨f1,f2,f3,f4,f5⟩:=hF.1 rfl
  simp only at f1 f2 f3 f4 f5
  subst f5
  have hx:x.body≤x.stop∧x.stop≤b.length:=by omega
  by_cases hn:x.n≤8
  ·exact eO b hb x hx hn hO
  ·have gt:Na x=false:=by unfold Na;rw[decide_eq_false hn];simp
   have e:=Nb (b:=b) gt
   rw[e.1,e.2]
   obtain⟨c,n,k,p,body,stop⟩:=x
   simp only at hn
   have hr:rdF (n:Int)=none:=by
    unfold rdF
    rw[if_neg (by omega),if_neg (by omega),if_neg (by omega),if_neg (by omega),if_neg (by omega),if_neg (by omega)]
   show Ab _ _ _ (fun r=>r= .tup [gnQ gz,erA 3 0])
   refine acQ 70 Tryz.func15 rfl rfl fun _ _ _=> ?_
   (repeat'((conv=>whnf);first|refine NBr.yes ?_|refine NBr.no ?_|refine NCall.eq hO Cs ?_|refine NCall.eq C2 rfl ?_|refine NLa.mk ⟨_,eM hr rfl rfl (ltN rfl) rfl rfl,?_⟩|refine NFact.go ⟨by decide+kernel,by kernel_rfl⟩ ?_));(all_goals(conv=>whnf))
   all_goals exact NEnd.eq leQ
 ·have gc:((c:Int) !=0)=true:=by rw[bne_iff_ne];omega
  rw[show Nv b ⟨x,c,o⟩=none by unfold Nv;rw[if_pos h1],show Qe ⟨x,c,o⟩=(c,o) by unfold Qe;rw[if_pos h1]]
  show Ab _ _ _ (fun r=>r= .tup [gnQ gz,erA c o])
  refine acQ 70 Tryz.func15 rfl rfl fun _ _ _=> ?_
  (repeat'((conv=>whnf);first|refine NBr.pos asP ?_|refine NCall.eq hO Cs ?_|refine NFact.go ⟨by decide+kernel,by kernel_rfl⟩ ?_));(all_goals(conv=>whnf))
  all_goals exact NEnd.eq leQ
def gnE (g:Gn):List UInt8:=Aj 2 g.k.toNat (Cc g.k) ((Gk g).getD [])
def Zy (g:Gn):Bool:=Gj g&&(M9 g&&((Gk g).isSome&&(Vg (gnE g)).isSome))
def mJ (o:Bool) (b:List UInt8):AV:=if o=true then .tup [Cd 0 5 b,iv 0] else .tup [Be,iv 8]
theorem Nc {g:Gn} {c:List UInt8} (h:Gk g=some c):∃n:Nat,n≤8∧g.k=n:=by
 unfold Gk at h
 by_cases h0:g.k=0
 ·exact⟨0,by omega,h0⟩
 rw[if_neg h0] at h
 by_cases h1:g.k=1∨g.k=2∨g.k=6
 ·exact⟨g.k.toNat,by omega,by omega⟩
 rw[if_neg h1] at h
 by_cases h2:g.k=3∨g.k=7
 ·exact⟨g.k.toNat,by omega,by omega⟩
 rw[if_neg h2] at h
 by_cases h3:g.k=4
 ·exact⟨4,by omega,h3⟩
 rw[if_neg h3] at h
 by_cases h4:g.k=5
 ·exact⟨5,by omega,h4⟩
 rw[if_neg h4] at h
 by_cases h5:g.k=8
 ·exact⟨8,by omega,h5⟩
 rw[if_neg h5] at h;cases h
theorem By {p:Prop} (h:p:=by first|rfl|(simp only[AV.gives,AV.ren,AV.give,D.un,D.uns,Ai,An,List.nil_append,List.append_nil,List.cons_append,A3,Dt,Hw,Dd,Ci,Ge,Fe,Gi,D2,Ey,H4];first|done|rfl)):p:=h
theorem Vi (g:Gn) (hs:g.sm) (hl:((Gk g).getD []).length≤700000):Ab Tryz.prog 14 [gnA g] (fun r=>r=mJ (Zy g) (gnE g)):=by
 have hA:=Zv g
 have hF:=Ov g (by have:=hs.b;omega)
 have hC:=Qd g hs
 unfold Zy mJ
 cases ha:Gj g
 ·rw[ha] at hA
  show Ab _ _ _ (fun r=>r= .tup [Be,iv 8])
  refine acQ 48 Tryz.func14 rfl rfl fun _ _ _=> ?_
  (repeat'((conv=>whnf);first|refine NBr.yes ?_|refine NCall.eq hA By ?_));(all_goals(conv=>whnf))
  all_goals exact NEnd.eq leQ
 rw[ha] at hA
 cases hf:M9 g
 ·rw[hf] at hF
  show Ab _ _ _ (fun r=>r= .tup [Be,iv 8])
  refine acQ 48 Tryz.func14 rfl rfl fun _ _ _=> ?_
  (repeat'((conv=>whnf);first|refine NBr.yes ?_|refine NBr.no ?_|refine NCall.eq hA By ?_|refine NCall.eq hF By ?_));(all_goals(conv=>whnf))
  all_goals exact NEnd.eq leQ
 rw[hf] at hF
 cases hc:Gk g with
 |none=>
  rw[hc] at hC
  have hC:Ab Tryz.prog 37 [gnA g] (fun r=>r= .tup [.d (Ac false []),iv 8]):=hC
  show Ab _ _ _ (fun r=>r= .tup [Be,iv 8])
  refine acQ 48 Tryz.func14 rfl rfl fun _ _ _=> ?_
  (repeat'((conv=>whnf);first|refine NBr.yes ?_|refine NBr.no ?_|refine NCall.eq hA By ?_|refine NCall.eq hF By ?_|refine NCall.eq hC By ?_));(all_goals(conv=>whnf))
  all_goals exact NEnd.eq leQ
 |some c=>
  obtain⟨n,hn,hk⟩:=Nc hc
  rw[hc] at hC hl
  have hC:Ab Tryz.prog 37 [gnA g] (fun r=>r= .tup [.d (Ac false c),iv 0]):=hC
  have hl:c.length≤700000:=hl
  have hK:=Sq g.k
  have hW:=Fy 2 n (Cc g.k) c (by omega) (by omega) (by omega)
  have hle:=B6 2 n (Cc g.k) c (by omega)
  have hP:=Vh (Aj 2 n (Cc g.k) c) (by omega)
  have he:=jG (Aj 2 n (Cc g.k) c)
  have e:gnE g=Aj 2 n (Cc g.k) c:=by unfold gnE;rw[hc,hk];rfl
  rw[e]
  generalize Zx (Aj 2 n (Cc g.k) c)=er at hP he
  obtain⟨ec,eo⟩:=er
  simp only at he
  have gc:((ec:Int) !=0)=true:=by rw[bne_iff_ne];omega
  obtain⟨k,oid,tx,by',nm,ak,av,pk,pv⟩:=g
  simp only at hk
  subst hk
  simp only at hK hW hP hle⊢
  generalize Aj 2 n (Cc (n:Int)) c=b at hW hP⊢
  cases ho:Vg b with
  |none=>
   rw[ho] at hP
   have hP:Ab Tryz.prog 15 [.d (Ac false b)] (fun r=>r= .tup [gnQ gz,erA ec eo]):=hP
   show Ab _ _ _ (fun r=>r= .tup [Be,iv 8])
   refine acQ 48 Tryz.func14 rfl rfl fun _ _ _=> ?_
   (repeat'((conv=>whnf);first|refine NBr.no ?_|refine NBr.pos asP ?_|refine NCall.eq hA By ?_|refine NCall.eq hF By ?_|refine NCall.eq hC By ?_|refine NCall.eq hK rfl ?_|refine NCall.eq hW By ?_|refine NCall.eq hP By ?_|refine NFact.go ⟨by decide+kernel,by kernel_rfl⟩ ?_));(all_goals(conv=>whnf))
   all_goals exact NEnd.eq leQ
  |some v=>
   rw[ho] at hP
   have hP:Ab Tryz.prog 15 [.d (Ac false b)] (fun r=>r= .tup [gnQ v,erA 0 0]):=hP
   show Ab _ _ _ (fun r=>r= .tup [Cd 0 5 b,iv 0])
   refine acQ 48 Tryz.func14 rfl rfl fun _ _ _=> ?_
   (repeat'((conv=>whnf);first|refine NBr.no ?_|refine NCall.eq hA By ?_|refine NCall.eq hF By ?_|refine NCall.eq hC By ?_|refine NCall.eq hK rfl ?_|refine NCall.eq hW By ?_|refine NCall.eq hP By ?_|refine NFact.go ⟨by decide+kernel,by kernel_rfl⟩ ?_));(all_goals(conv=>whnf))
   all_goals exact NEnd.eq leQ
structure Gn.mid (g:Gn):Prop where
 s:g.sm
 c:((Gk g).getD []).length≤700000
structure gnsM (l:List Gn):Prop where
 n:l.length≤1000000
 m:∀g∈l,g.mid
 e:(l.map gnE).flatten.length≤800000000
theorem Nd {k:Int} {l:List UInt8} (h:Af k l=true):F4 k (chS k l)=k∧Dg k (chS k l)=l∧Dk k (chS k l)=0:=by
 have:=fL h
 unfold Gx at this
 rwa[if_pos h] at this
theorem Ow:∀{a b:List (List UInt8)},Et (a++b)=true→Et a=true
 |[],_,_=>rfl
 |[_],_,_=>rfl
 |x::y::r,b,h=>by
  have h':(decide (G5 x y<0)&&Et (y::r++b))=true:=h
  rw[Bool.and_eq_true] at h'
  rw[Et,h'.1,Ow h'.2];rfl
theorem mK {a:Att} (_:atV a=true) (hs:a.sm):∃t:Tv,t.ok∧atE a=t.enc:=by
 have k1:=Fx a.oid
 have:=hs.o
 have:=hs.v
 have k2:=B6 0 6 false (Bj a.oid) (by omega)
 exact⟨⟨0,16,true,Aj 0 6 false (Bj a.oid)++a.val⟩,⟨by show(0:Nat)≤3;omega,by show(16:Nat)≤30;omega,by show(_++_:List UInt8).length≤_;rw[List.length_append];omega⟩,rfl⟩
theorem jL {a:Att} (h:atV a=true) (hs:a.sm):atO (atE a)=some a:=by
 obtain⟨h1,h2⟩:=P7 h
 have k1:=Fx a.oid
 have o1:=hs.o
 have o2:=hs.v
 obtain⟨y,yo,ye⟩:=(eC h2).tv (by omega)
 obtain⟨x,hx⟩:∃x:Tv,x=⟨0,6,false,Bj a.oid⟩:=⟨_,rfl⟩
 have xo:x.ok:=by subst hx;exact⟨by show(0:Nat)≤3;omega,by show(6:Nat)≤30;omega,by show(Bj a.oid).length≤_;omega⟩
 have e:atE a=Aj 0 16 true (Dh [x,y]):=by
  unfold atE
  rw[B5,B5,←ye]
  subst hx
  show _=Aj 0 16 true (Aj 0 6 false (Bj a.oid)++(a.val++[]))
  rw[List.append_nil]
 have hl:(Dh [x,y]).length≤2147483600:=by
  have:=B6 0 6 false (Bj a.oid) (by omega)
  rw[B5,B5,←ye]
  subst hx
  show(Aj 0 6 false (Bj a.oid)++(a.val++[])).length≤_
  simp only[List.length_append,List.length_nil];omega
 have hp:=eD x y xo yo hl
 obtain⟨e1,e2⟩:=Ux h1
 have xv:x.v=Bj a.oid:=by subst hx;rfl
 have xi:(x.el 0).isB 0 6 false=true:=by subst hx;rfl
 rw[xv,if_pos ⟨xi,e2⟩,e1,←ye,←e] at hp
 unfold atO
 rw[hp]
 simp only
 rw[if_pos h2]
def Zz:List (List UInt8)→List (List UInt8)→List Att→Option (List Att)
 |[],_,out=>some out
 |p::r,ps,out=>match atO p with
  |none=>none
  |some a=>if Et (ps++[p])=true then Zz r (ps++[p]) (out++[a]) else none
theorem Ss (b:List UInt8):∀(l:List El) (ps:List (List UInt8)) (out:List Att),(K8 b l ps out).1=Zz (l.map (elO b)) ps out
 |[],_,_=>rfl
 |x::r,ps,out=>by
  rw[K8,List.map_cons,Zz]
  cases atO (elO b x) with
  |none=>rfl
  |some a=>
   simp only
   by_cases h:Et (ps++[elO b x])=true
   ·rw[if_pos h,if_pos h];exact Ss b r _ _
   ·rw[if_neg h,if_neg h]
theorem St:∀{r:List Att} {ps:List (List UInt8)} {out:List Att},r.all atV=true→(∀a∈r,a.sm)→Et (ps++r.map atE)=true→Zz (r.map atE) ps out=some (out++r)
 |[],_,_,_,_,_=>by simp[Zz]
 |a::r,ps,out,h,hs,ho=>by
  rw[List.all_cons,Bool.and_eq_true] at h
  rw[List.map_cons] at ho⊢
  have ho':Et ((ps++[atE a])++r.map atE)=true:=by rw[List.append_assoc];exact ho
  rw[Zz,jL h.1 (hs a (by simp))]
  simp only
  rw[if_pos (Ow ho'),St h.2 (fun k hk=>hs k (by simp[hk])) ho',List.append_assoc];rfl
theorem jM {r:List Att} (h:r.all atV=true) (hs:∀a∈r,a.sm):∃ts:List Tv,(∀t∈ts,t.ok)∧r.map atE=ts.map Tv.enc:=
 P3 fun p hp=>by
  obtain⟨a,ha,rfl⟩:=List.mem_map.1 hp
  exact mK (List.all_eq_true.1 h a ha) (hs a ha)
theorem eP {r:List Att} (h:Gt r=true) (hz:rdnZ r):(Kf (Cr r)).1=some r:=by
 obtain⟨h0,h1,h2⟩:=P8 h
 obtain⟨hl,hs,hq⟩:=hz
 obtain⟨ts,t1,t2⟩:=jM h1 hs
 have hf:(r.map atE).flatten=Dh ts:=by rw[t2,Sf]
 obtain⟨q,e1,e2⟩:=Kc (c:=0) (n:=17) ts (by omega) (by omega) t1 (by rw[←hf];omega)
 unfold Kf Cr
 rw[hf,e1,jE,if_neg (by simp)]
 have hne:els q ts≠[]:=by
  intro e
  have:=congrArg List.length e
  rw[jB] at this
  have h3:=congrArg List.length t2
  rw[List.length_map,List.length_map] at h3
  exact h0 (List.eq_nil_of_length_eq_zero (by rw[h3];exact this))
 simp only
 rw[if_neg hne,Ss,e2,←t2]
 exact St h1 hs h2
def nmP:List (List UInt8)→List (List Att)→Option (List (List Att))
 |[],out=>some out
 |p::r,out=>match(Kf p).1 with
  |none=>none
  |some a=>nmP r (out++[a])
theorem W9 (b:List UInt8):∀(l:List El) (out:List (List Att)),(nmL b l out).1=nmP (l.map (elO b)) out
 |[],_=>rfl
 |x::r,out=>by
  rw[nmL,List.map_cons,nmP]
  generalize Kf (elO b x)=q
  obtain⟨o,c,p⟩:=q
  cases o with
  |none=>rfl
  |some a=>exact W9 b r _
theorem Xa:∀{n out:List (List Att)},n.all Gt=true→(∀r∈n,rdnZ r)→nmP (n.map Cr) out=some (out++n)
 |[],_,_,_=>by simp[nmP]
 |r::n,out,h,hs=>by
  rw[List.all_cons,Bool.and_eq_true] at h
  have h1:=hs r (by simp)
  rw[List.map_cons,nmP,eP h.1 h1]
  simp only
  rw[Xa h.2 (fun k hk=>hs k (by simp[hk])),List.append_assoc];rfl
theorem mL {r:List Att} (hz:rdnZ r):∃t:Tv,t.ok∧Cr r=t.enc:=by
 have hq:=hz.e
 exact⟨⟨0,17,true,(r.map atE).flatten⟩,⟨by show(0:Nat)≤3;omega,by show(17:Nat)≤30;omega,by show(r.map atE).flatten.length≤_;omega⟩,rfl⟩
theorem jN {n:List (List Att)} (h:nmV n=true) (hs:nmZ n):(nmR (nmE n)).1=some n:=by
 obtain⟨ts,t1,t2⟩:=P3 (l:=n.map Cr) fun p hp=>by
  obtain⟨r,hr,rfl⟩:=List.mem_map.1 hp
  exact mL (hs.r r hr)
 have hf:(n.map Cr).flatten=Dh ts:=by rw[t2,Sf]
 have he:=hs.e
 obtain⟨q,e1,e2⟩:=Kc (c:=0) (n:=16) ts (by omega) (by omega) t1 (by rw[←hf];omega)
 unfold nmR nmE
 rw[hf,e1,nmQ,if_neg (by simp)]
 simp only
 rw[W9,e2,←t2]
 exact Xa h hs.r
theorem Nf {ts:List Tv} (h:∀t∈ts,t.ok):Co (Dh ts)=ts.map Tv.enc:=by
 have hp:=Kb ts (Dh ts) [] (Dh ts).length h (by rw[List.take_length];rfl) (Nat.le_refl _)
 have he:=P2 ts (Dh ts) [] (Dh ts).length (by rw[List.take_length];rfl) (Nat.le_refl _)
 rw[List.length_nil] at hp he
 unfold Co
 rw[hp,if_neg (by simp)]
 exact he
theorem Vj {t:Tv} (h:t.ok) (n:Nat):Bq t.enc n=if t.c=2∧t.n=n∧t.k=true then some t.v else none:=by
 unfold Bq
 rw[He h]
 simp only
 have hi:(t.el 0).isB 2 n true=decide (t.c=2∧t.n=n∧t.k=true):=by
  unfold El.isB Tv.el
  rw[Bool.eq_iff_iff]
  simp only[Bool.and_eq_true,beq_iff_eq,decide_eq_true_eq]
  exact⟨fun⟨⟨a,b⟩,c⟩=>⟨a,c,b⟩,fun⟨a,c,b⟩=>⟨⟨a,b⟩,c⟩⟩
 have hv:(t.enc.drop (0+t.hd)).take (0+t.enc.length-(0+t.hd))=t.v:=by
  rw[Nat.zero_add,Nat.zero_add,t.body]
  exact List.take_of_length_le (by rw[t.len];omega)
 by_cases hc:t.c=2∧t.n=n∧t.k=true
 ·rw[hi,decide_eq_true hc,if_neg (by simp),if_pos hc]
  show some ((t.enc.drop (0+t.hd)).take (0+t.enc.length-(0+t.hd)))=_
  rw[hv]
 ·rw[hi,decide_eq_false hc,if_pos (by simp),if_neg hc]
theorem Iv {n:Nat} {v:List UInt8} (hn:n≤30) (hv:v.length≤2147483600):Bq (Aj 2 n true v) n=some v:=by
 have:=Vj (t:=⟨2,n,true,v⟩) ⟨by show(2:Nat)≤3;omega,hn,by show v.length≤_;omega⟩ n
 rw[if_pos ⟨rfl,rfl,rfl⟩] at this
 exact this
def fiB (k:Int) (l:List UInt8):Bool:=Af k l&&(!(l==[])&& !(k==22||k==26))
theorem mM {k:Int} {l:List UInt8} (h:Af k l=true) (hl:l.length≤500000000):∃n:Nat,k=n∧Tv.ok ⟨0,n,false,chS k l⟩∧txE k l=Tv.enc ⟨0,n,false,chS k l⟩:=by
 obtain⟨n,h1,h2,rfl⟩:=Sh h
 have h4:=Ke h
 exact⟨n,rfl,⟨by show(0:Nat)≤3;omega,h2,by show(chS (n:Int) l).length≤_;omega⟩,by unfold txE;rw[Int.toNat_natCast];rfl⟩
theorem Xb {k:Int} {l:List UInt8} (h:Af k l=true) (hl:l.length≤500000000):K7 (txE k l)=k∧P5 (txE k l)=l∧Vb (txE k l)=true:=by
 obtain⟨n,hk,ho,he⟩:=mM h hl
 have hc:=Nd h
 generalize ht:(⟨0,n,false,chS k l⟩:Tv)=t at ho he
 have h1:=He ho
 have hs:M5 t.enc=true:=by unfold M5;rw[h1];subst ht;rfl
 have hcon:P4 t.enc=chS k l:=by
  unfold P4
  rw[h1]
  show(t.enc.drop (0+t.hd)).take (0+t.enc.length-(0+t.hd))=_
  rw[Nat.zero_add,Nat.zero_add,t.body,List.take_of_length_le (by rw[t.len];omega)]
  subst ht;rfl
 have hn:(Ap t.enc).x.n=n:=by rw[h1];subst ht;rfl
 rw[he]
 unfold K7 P5 Vb
 rw[hs,hcon,hn,←hk]
 exact⟨hc.1,hc.2.1,by rw[hc.2.2];rfl⟩
theorem Qf {k:Int} {l:List UInt8} (h:fiB k l=true) (hl:l.length≤500000000):D1 (txE k l)=true∧pK (txE k l)=k∧pV (txE k l)=l:=by
 have h':=h
 unfold fiB at h
 rw[Bool.and_eq_true] at h
 obtain⟨s1,s2,s3⟩:=Xb h.1 hl
 have hd:D1 (txE k l)=true:=by
  unfold D1
  rw[s1,s2,s3,h.2];rfl
 refine⟨hd,?_,?_⟩
 ·unfold pK;rw[if_pos hd,s1]
 ·unfold pV;rw[if_pos hd,s2]
theorem eQ {k:Int} {l:List UInt8} (hv:Af k l=true) (h:fiB k l=false) (hl:l.length≤500000000):D1 (txE k l)=false:=by
 cases hd:D1 (txE k l) with
 |false=>rfl
 |true=>
  exfalso
  obtain⟨s1,s2,s3⟩:=Xb hv hl
  unfold D1 at hd
  rw[s1,s2,s3] at hd
  unfold fiB at h
  rw[hv] at h
  rw[h] at hd;cases hd
def Ki (g:Gn):Bool:= !(g.k==5)||((zT g.ak g.av||fiB g.ak g.av)&&fiB g.pk g.pv)
def gnW (g:Gn):Bool:=Gj g&&(M9 g&&((Gk g).isSome&&Ki g))
theorem Vk {k:Int} {l:List UInt8}:zT k l=true↔k=0∧l=[]:=by unfold zT;simp
theorem Su {n:Nat} {c:List UInt8} (hn:n≤8) (hl:c.length≤2147483600):Vg (Aj 2 n (Cc n) c)=if okP (rdP n c)=true then some (rdP n c).1 else none:=by
 obtain⟨t,ht⟩:∃t:Tv,t=⟨2,n,Cc n,c⟩:=⟨_,rfl⟩
 have hOk:t.ok:=by subst ht;exact⟨by show(2:Nat)≤3;omega,by show n≤30;omega,by show c.length≤_;omega⟩
 have he:Aj 2 n (Cc n) c=t.enc:=by subst ht;rfl
 have hv:t.v=c:=by subst ht;rfl
 have htag:Na (t.el 0)=true:=by
  unfold Na;subst ht
  show((2:Nat)==2&&(decide (n≤8)&&(Cc n==Cc n)))=true
  rw[decide_eq_true hn];simp
 have hn':(t.el 0).n=n:=by subst ht;rfl
 have hb:(t.enc.drop (t.el 0).body).take ((t.el 0).stop-(t.el 0).body)=c:=by
  show(t.enc.drop (0+t.hd)).take (0+t.enc.length-(0+t.hd))=_
  rw[Nat.zero_add,Nat.zero_add,t.body,List.take_of_length_le (by rw[t.len];omega),hv]
 rw[he]
 unfold Vg
 rw[He hOk]
 cases ho:okP (rdP n c)
 ·rw[if_neg (by simp)]
  exact(W8 htag (by rw[hn',hb];exact ho)).1
 ·rw[if_pos rfl]
  have:=Sr (b:=t.enc) htag (by rw[hn',hb];exact ho)
  rw[this,hn',hb]
theorem Xc {c d n m:Nat} {j k:Bool} {u v:List UInt8} (hc:c≤3) (hn:n≤30) (hd:d≤3) (hm:m≤30) (hu:u.length≤500000000) (hv:v.length≤500000000):Co (Aj c n j u++Aj d m k v)=[Aj c n j u,Aj d m k v]:=by
 have:=Nf (ts:=[⟨c,n,j,u⟩,⟨d,m,k,v⟩]) (fun t ht=>by
  rcases List.mem_cons.1 ht with rfl|ht
  ·exact⟨hc,hn,by show u.length≤_;omega⟩
  ·rw[List.mem_singleton.1 ht];exact⟨hd,hm,by show v.length≤_;omega⟩)
 rw[B5,B5] at this
 show Co (Tv.enc ⟨c,n,j,u⟩++Tv.enc ⟨d,m,k,v⟩)=_
 have e:Dh ([]:List Tv)=[]:=rfl
 rw[e,List.append_nil] at this
 exact this
theorem mN {c n:Nat} {j:Bool} {u:List UInt8} (hc:c≤3) (hn:n≤30) (hu:u.length≤500000000):Co (Aj c n j u)=[Aj c n j u]:=by
 have:=Nf (ts:=[⟨c,n,j,u⟩]) (fun t ht=>by
  rw[List.mem_singleton.1 ht];exact⟨hc,hn,by show u.length≤_;omega⟩)
 rw[B5] at this
 have e:Dh ([]:List Tv)=[]:=rfl
 rw[e,List.append_nil] at this
 exact this
theorem jO {oid by':List UInt8} (h:Ff oid=true) (hl:oid.length≤3000000) (hb:by'.length≤3000000):Sp 0 (Aj 0 6 false (Bj oid)++Aj 2 0 true by')=(⟨0,oid,[],by',[],0,[],0,[]⟩,true):=by
 have k1:=Fx oid
 unfold Sp
 rw[Xc (by omega) (by omega) (by omega) (by omega) (by omega) (by omega)]
 show Vf 0 _ _=_
 obtain⟨t,ht⟩:∃t:Tv,t=⟨0,6,false,Bj oid⟩:=⟨_,rfl⟩
 have hOk:t.ok:=by subst ht;exact⟨by show(0:Nat)≤3;omega,by show 6≤30;omega,by show(Bj oid).length≤_;omega⟩
 have he:Aj 0 6 false (Bj oid)=t.enc:=by subst ht;rfl
 have hv:t.v=Bj oid:=by subst ht;rfl
 have hi:(t.el 0).isB 0 6 false=true:=by subst ht;rfl
 have hin:=Iv (n:=0) (v:=by') (by omega) (by omega)
 obtain⟨e1,e2⟩:=Ux h
 unfold Vf
 rw[he,He hOk]
 simp only
 rw[hi,if_neg (by simp)]
 have hd:t.enc.drop (t.el 0).body=Bj oid:=by
  show t.enc.drop (0+t.hd)=_
  rw[Nat.zero_add,t.body,hv]
 rw[hd,e1,e2,hin,F2 hin]
 rfl
theorem Xd {K:Int} {V:List UInt8} (ak:Int) (av:List UInt8) (hv:Af K V=true) (hl:V.length≤3000000):Kh 5 (Aj 2 1 true (txE K V)) ak av=(⟨5,[],[],[],[],ak,av,pK (txE K V),pV (txE K V)⟩,fiB K V):=by
 have h4:=H5 hv hl
 have hin:=Iv (n:=1) (v:=txE K V) (by omega) (by omega)
 unfold Kh
 rw[hin,F2 hin]
 have:D1 (txE K V)=fiB K V:=by
  cases hf:fiB K V
  ·exact eQ hv hf (by omega)
  ·exact(Qf hf (by omega)).1
 rw[this];rfl
theorem Xe {g:Gn} {c:List UInt8} (hk:g.k=5) (hc:Zw g=some c) (ha:g.av.length≤3000000) (hp:g.pv.length≤3000000):(K9 5 c).2=((zT g.ak g.av||fiB g.ak g.av)&&fiB g.pk g.pv)∧(((zT g.ak g.av||fiB g.ak g.av)&&fiB g.pk g.pv)=true→K9 5 c=(⟨5,[],[],[],[],g.ak,g.av,g.pk,g.pv⟩,true)):=by
 obtain⟨k,oid,tx,by',nm,ak,av,pk,pv⟩:=g
 unfold Zw at hc
 simp only at hk hc ha hp⊢
 by_cases hh:((zT ak av||Af ak av)&&Af pk pv)=true
 ·rw[if_pos hh] at hc
  rw[Bool.and_eq_true] at hh
  obtain⟨h1,h2⟩:=hh
  have hl2:=H5 h2 hp
  obtain rfl:=Option.some.inj hc
  have fin:fiB pk pv=true→(⟨5,[],[],[],[],ak,av,pK (txE pk pv),pV (txE pk pv)⟩:Gn)=⟨5,[],[],[],[],ak,av,pk,pv⟩:=fun h=>by
   obtain⟨-,q1,q2⟩:=Qf h (by omega)
   rw[q1,q2]
  cases hz:zT ak av
  ·rw[hz,Bool.false_or] at h1
   have hl1:=H5 h1 ha
   rw[if_neg (by simp),Bool.false_or]
   unfold K9
   rw[Xc (by omega) (by omega) (by omega) (by omega) (by omega) (by omega)]
   have hin:=Iv (n:=0) (v:=txE ak av) (by omega) (by omega)
   show(if(Bq (Aj 2 0 true (txE ak av)) 0).isSome&&D1 (inn (Aj 2 0 true (txE ak av)) 0) then Kh 5 (Aj 2 1 true (txE pk pv)) (pK (inn (Aj 2 0 true (txE ak av)) 0)) (pV (inn (Aj 2 0 true (txE ak av)) 0)) else(gz,false)).2=_∧(_→(if(Bq (Aj 2 0 true (txE ak av)) 0).isSome&&D1 (inn (Aj 2 0 true (txE ak av)) 0) then Kh 5 (Aj 2 1 true (txE pk pv)) (pK (inn (Aj 2 0 true (txE ak av)) 0)) (pV (inn (Aj 2 0 true (txE ak av)) 0)) else(gz,false))=_)
   rw[hin,F2 hin]
   cases hf:fiB ak av
   ·rw[eQ h1 hf (by omega),if_neg (by simp)]
    exact⟨rfl,fun h=>by cases h⟩
   ·obtain⟨d1,d2,d3⟩:=Qf hf (by omega)
    rw[d1,d2,d3,if_pos (by rfl),Xd _ _ h2 hp]
    exact⟨rfl,fun h=>by
     have h:fiB pk pv=true:=h
     rw[fin h,h]⟩
  ·obtain⟨z1,z2⟩:=Vk.1 hz
   subst z1 z2
   rw[if_pos rfl,Bool.true_or,List.nil_append]
   unfold K9
   rw[mN (by omega) (by omega) (by omega)]
   show(Kh 5 _ 0 []).2=_∧(_→Kh 5 _ 0 []=_)
   rw[Xd _ _ h2 hp]
   exact⟨rfl,fun h=>by
    have h:fiB pk pv=true:=h
    rw[fin h,h]⟩
 ·rw[if_neg hh] at hc;cases hc
theorem Ox (g:Gn):Gj g=true↔(g.k=0∨g.k=8∨g.oid=[])∧(g.k=1∨g.k=2∨g.k=6∨g.tx=[])∧(g.k=0∨g.k=3∨g.k=7∨g.by'=[])∧(g.k=4∨g.nm=[])∧(g.k=5∨(g.ak=0∧g.av=[])∧(g.pk=0∧g.pv=[])):=by
 unfold Gj alB
 simp only[Bool.and_eq_true,Bool.or_eq_true,beq_iff_eq,Vk]
 have l0:∀{α:Type} (l:List α),((l.length:Int)=0↔l=[]):=fun l=>⟨fun h=>List.eq_nil_of_length_eq_zero (by omega),fun h=>by rw[h];rfl⟩
 rw[l0,l0]
 constructor
 ·rintro⟨h1,h2,h3,h4,h5⟩
  refine⟨?_,?_,?_,h4,h5⟩
  ·rcases h1 with(h|h)|h<;>simp[h]
  ·rcases h2 with(h|h|h)|h<;>simp[h]
  ·rcases h3 with(h|h|h)|h<;>simp[h]
 ·rintro⟨h1,h2,h3,h4,h5⟩
  refine⟨?_,?_,?_,h4,h5⟩
  ·rcases h1 with h|h|h<;>simp[h]
  ·rcases h2 with h|h|h|h<;>simp[h]
  ·rcases h3 with h|h|h|h<;>simp[h]
theorem jP {g:Gn} {n:Nat} {c:List UInt8} (hk:g.k=n) (ha:Gj g=true) (hc:Gk g=some c) (hp:Ki g=true) (hs:g.sm):rdP n c=(g,true):=by
 obtain⟨k,oid,tx,by',nm,ak,av,pk,pv⟩:=g
 obtain⟨s1,s2,s3,s4,s5,s6⟩:=hs
 simp only at hk s1 s2 s3 s4 s5 s6
 subst hk
 rw[Ox] at ha
 obtain⟨a1,a2,a3,a4,a5⟩:=ha
 simp only at a1 a2 a3 a4 a5
 unfold Gk at hc
 simp only at hc
 rcases(by
  obtain⟨m,hm,e⟩:=Nc (g:=⟨(n:Int),oid,tx,by',nm,ak,av,pk,pv⟩) (c:=c) hc
  simp only at e
  omega:n=0∨n=1∨n=2∨n=3∨n=4∨n=5∨n=6∨n=7∨n=8) with rfl|rfl|rfl|rfl|rfl|rfl|rfl|rfl|rfl
 ·obtain rfl:tx=[]:=by simpa using a2
  obtain rfl:nm=[]:=by simpa using a4
  obtain⟨⟨rfl,rfl⟩,rfl,rfl⟩:(ak=0∧av=[])∧pk=0∧pv=[]:=by simpa using a5
  rw[if_pos (by rfl)] at hc
  by_cases ho:Ff oid=true
  ·rw[if_pos ho] at hc
   obtain rfl:=Option.some.inj hc
   exact jO ho s1 s3
  ·rw[if_neg ho] at hc;cases hc
 ·obtain rfl:oid=[]:=by simpa using a1
  obtain rfl:by'=[]:=by simpa using a3
  obtain rfl:nm=[]:=by simpa using a4
  obtain⟨⟨rfl,rfl⟩,rfl,rfl⟩:(ak=0∧av=[])∧pk=0∧pv=[]:=by simpa using a5
  rw[if_neg (by decide),if_pos (by decide)] at hc
  by_cases ho:Af 22 tx=true
  ·rw[if_pos ho] at hc
   obtain rfl:=Option.some.inj hc
   obtain⟨-,e2,e3⟩:=Nd ho
   show((⟨1,[],Dg 22 (chS 22 tx),[],[],0,[],0,[]⟩:Gn),Dk 22 (chS 22 tx)==0)=_
   rw[e2,e3];rfl
  ·rw[if_neg ho] at hc;cases hc
 ·obtain rfl:oid=[]:=by simpa using a1
  obtain rfl:by'=[]:=by simpa using a3
  obtain rfl:nm=[]:=by simpa using a4
  obtain⟨⟨rfl,rfl⟩,rfl,rfl⟩:(ak=0∧av=[])∧pk=0∧pv=[]:=by simpa using a5
  rw[if_neg (by decide),if_pos (by decide)] at hc
  by_cases ho:Af 22 tx=true
  ·rw[if_pos ho] at hc
   obtain rfl:=Option.some.inj hc
   obtain⟨-,e2,e3⟩:=Nd ho
   show((⟨2,[],Dg 22 (chS 22 tx),[],[],0,[],0,[]⟩:Gn),Dk 22 (chS 22 tx)==0)=_
   rw[e2,e3];rfl
  ·rw[if_neg ho] at hc;cases hc
 ·obtain rfl:oid=[]:=by simpa using a1
  obtain rfl:tx=[]:=by simpa using a2
  obtain rfl:nm=[]:=by simpa using a4
  obtain⟨⟨rfl,rfl⟩,rfl,rfl⟩:(ak=0∧av=[])∧pk=0∧pv=[]:=by simpa using a5
  rw[if_neg (by decide),if_neg (by decide),if_pos (by decide)] at hc
  obtain rfl:=Option.some.inj hc
  rfl
 ·obtain rfl:oid=[]:=by simpa using a1
  obtain rfl:tx=[]:=by simpa using a2
  obtain rfl:by'=[]:=by simpa using a3
  obtain⟨⟨rfl,rfl⟩,rfl,rfl⟩:(ak=0∧av=[])∧pk=0∧pv=[]:=by simpa using a5
  rw[if_neg (by decide),if_neg (by decide),if_neg (by decide),if_pos (by rfl)] at hc
  by_cases ho:nmV nm=true
  ·rw[if_pos ho] at hc
   obtain rfl:=Option.some.inj hc
   have:=jN ho s4
   show So 4 (nmE nm)=_
   unfold So
   generalize nmR (nmE nm)=q at this
   obtain⟨o,cc,p⟩:=q
   simp only at this
   subst this
   rfl
  ·rw[if_neg ho] at hc;cases hc
 ·obtain rfl:oid=[]:=by simpa using a1
  obtain rfl:tx=[]:=by simpa using a2
  obtain rfl:by'=[]:=by simpa using a3
  obtain rfl:nm=[]:=by simpa using a4
  rw[if_neg (by decide),if_neg (by decide),if_neg (by decide),if_neg (by decide),if_pos (by rfl)] at hc
  exact(Xe (g:=⟨((5:Nat):Int),[],[],[],[],ak,av,pk,pv⟩) rfl hc s5 s6).2 hp
 ·obtain rfl:oid=[]:=by simpa using a1
  obtain rfl:by'=[]:=by simpa using a3
  obtain rfl:nm=[]:=by simpa using a4
  obtain⟨⟨rfl,rfl⟩,rfl,rfl⟩:(ak=0∧av=[])∧pk=0∧pv=[]:=by simpa using a5
  rw[if_neg (by decide),if_pos (by decide)] at hc
  by_cases ho:Af 22 tx=true
  ·rw[if_pos ho] at hc
   obtain rfl:=Option.some.inj hc
   obtain⟨-,e2,e3⟩:=Nd ho
   show((⟨6,[],Dg 22 (chS 22 tx),[],[],0,[],0,[]⟩:Gn),Dk 22 (chS 22 tx)==0)=_
   rw[e2,e3];rfl
  ·rw[if_neg ho] at hc;cases hc
 ·obtain rfl:oid=[]:=by simpa using a1
  obtain rfl:tx=[]:=by simpa using a2
  obtain rfl:nm=[]:=by simpa using a4
  obtain⟨⟨rfl,rfl⟩,rfl,rfl⟩:(ak=0∧av=[])∧pk=0∧pv=[]:=by simpa using a5
  rw[if_neg (by decide),if_neg (by decide),if_pos (by decide)] at hc
  obtain rfl:=Option.some.inj hc
  rfl
 ·obtain rfl:tx=[]:=by simpa using a2
  obtain rfl:by'=[]:=by simpa using a3
  obtain rfl:nm=[]:=by simpa using a4
  obtain⟨⟨rfl,rfl⟩,rfl,rfl⟩:(ak=0∧av=[])∧pk=0∧pv=[]:=by simpa using a5
  rw[if_neg (by decide),if_neg (by decide),if_neg (by decide),if_neg (by decide),if_neg (by decide),if_pos (by rfl)] at hc
  by_cases ho:Ff oid=true
  ·rw[if_pos ho] at hc
   obtain rfl:=Option.some.inj hc
   obtain⟨e1,e2⟩:=Ux ho
   show((⟨8,odT (Bj oid),[],[],[],0,[],0,[]⟩:Gn),(odC (Bj oid):Int)==0)=_
   rw[e1,e2];rfl
  ·rw[if_neg ho] at hc;cases hc
theorem Lj (g:Gn):gnW g=true↔Gj g=true∧M9 g=true∧(∃c,Gk g=some c)∧Ki g=true:=by
 unfold gnW
 simp only[Bool.and_eq_true,Option.isSome_iff_exists]
theorem eR {g:Gn} (h:gnW g=true) (hs:g.mid):Vg (gnE g)=some g:=by
 obtain⟨h1,h2,⟨c,h3⟩,h4⟩:=(Lj g).1 h
 obtain⟨n,hn,hk⟩:=Nc h3
 have hl:=hs.c
 rw[h3] at hl
 have hl:c.length≤700000:=hl
 have e:gnE g=Aj 2 n (Cc n) c:=by unfold gnE;rw[h3,hk];rfl
 have hr:=jP hk h1 h3 h4 hs.s
 rw[e,Su hn (by omega),hr]
 have:okP (g,true)=true:=by unfold okP;rw[h2];rfl
 rw[if_pos this]
theorem mO {g:Gn} (hs:g.mid):Zy g=gnW g:=by
 cases hw:gnW g
 ·cases hv:Zy g with
  |false=>rfl
  |true=>
   exfalso
   unfold Zy at hv
   simp only[Bool.and_eq_true] at hv
   obtain⟨v1,v2,v3,v4⟩:=hv
   obtain⟨c,h3⟩:=Option.isSome_iff_exists.1 v3
   obtain⟨n,hn,hk⟩:=Nc h3
   have hp:Ki g=false:=by
    unfold gnW at hw;rw[v1,v2,v3] at hw;exact hw
   have h5:g.k=5:=by
    unfold Ki at hp
    simp only[Bool.or_eq_false_iff,Bool.not_eq_false',beq_iff_eq] at hp
    exact hp.1
   have hl:=hs.c
   rw[h3] at hl
   have hl:c.length≤700000:=hl
   have e:gnE g=Aj 2 5 (Cc (5:Nat)) c:=by unfold gnE;rw[h3,h5];rfl
   have hc:Zw g=some c:=by
    unfold Gk at h3
    rw[h5,if_neg (by decide),if_neg (by decide),if_neg (by decide),if_neg (by decide),if_pos rfl] at h3
    exact h3
   have hq:=(Xe h5 hc hs.s.a hs.s.p).1
   have:((zT g.ak g.av||fiB g.ak g.av)&&fiB g.pk g.pv)=false:=by
    unfold Ki at hp;rw[h5] at hp;exact hp
   rw[this] at hq
   rw[e,Su (by omega) (by omega)] at v4
   have ho:okP (rdP 5 c)=false:=by
    show((K9 5 c).2&&M9 (K9 5 c).1)=false
    rw[hq];rfl
   rw[ho] at v4;cases v4
 ·obtain⟨h1,h2,⟨c,h3⟩,h4⟩:=(Lj g).1 hw
  unfold Zy
  rw[eR hw hs,h1,h2,h3];rfl
end Go.Proofs.YtngbfblmejjipaaGreatDoor
