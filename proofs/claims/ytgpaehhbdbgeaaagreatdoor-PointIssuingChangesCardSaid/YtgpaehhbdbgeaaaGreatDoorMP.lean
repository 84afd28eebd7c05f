/- MP: the texts GenM GenR DnP GenL GenX GenY, one behind the other. No condition but what each lemma says. -/
import Derived.Test.YtgpaehhbdbgeaaaGreatDoorMO
import Derived.Test.YtgpaehhbdbgeaaaGreatDoorMM
import Derived.Test.YtgpaehhbdbgeaaaGreatDoorGEncPlain
set_option maxRecDepth 100000
set_option maxHeartbeats 16000000
namespace Go.Proofs.YtgpaehhbdbgeaaaGreatDoor
open Go.RowKit
def rdP (n:Nat) (c:List UInt8):Gn×Bool:=match n with
 |0=>Kl 0 c
 |1=>(⟨1,[],C9 22 c,[],[],0,[],0,[]⟩,Dw 22 c==0)
 |2=>(⟨2,[],C9 22 c,[],[],0,[],0,[]⟩,Dw 22 c==0)
 |3=>(⟨3,[],[],c,[],0,[],0,[]⟩,true)
 |4=>Mn 4 c
 |5=>H8 5 c
 |6=>(⟨6,[],C9 22 c,[],[],0,[],0,[]⟩,Dw 22 c==0)
 |7=>(⟨7,[],[],c,[],0,[],0,[]⟩,true)
 |8=>(⟨8,odT c,[],[],[],0,[],0,[]⟩,(odC c:Int)==0)
 |_=>(gz,false)
def Mp (x:El):Bool:=x.c==2&&(decide (x.n≤8)&&(x.k==Cs x.n))
def okP (p:Gn×Bool):Bool:=p.2&&Ro p.1
def Rp (b:List UInt8) (r:ElR):Option Gn:=if r.code≠0 then none else if Mp r.x=false then none else if okP (rdP r.x.n ((b.drop r.x.body).take (r.x.stop-r.x.body)))=true then some (rdP r.x.n ((b.drop r.x.body).take (r.x.stop-r.x.body))).1 else none
def I5 (b:List UInt8):Option Gn:=Rp b (Ap b)
def Vq (r:ElR):Nat×Nat:=if r.code≠0 then(r.code,r.off) else if Mp r.x=false then(3,0) else(6,r.x.body)
def Rq (b:List UInt8):Nat×Nat:=Vq (Ap b)
theorem Rr {b:List UInt8} {x:El} (h:Mp x=false):Rp b ⟨x,0,0⟩=none∧Vq ⟨x,0,0⟩=(3,0):=by
 refine⟨?_,?_⟩
 ·unfold Rp;rw[if_neg (by simp),if_pos h]
 ·unfold Vq;rw[if_neg (by simp),if_pos h]
theorem fE {b:List UInt8} {x:El} (h:Mp x=true) (h2:okP (rdP x.n ((b.drop x.body).take (x.stop-x.body)))=false):Rp b ⟨x,0,0⟩=none∧Vq ⟨x,0,0⟩=(6,x.body):=by
 refine⟨?_,?_⟩
 ·unfold Rp;simp only;rw[if_neg (by simp),if_neg (by rw[h];simp),if_neg (by rw[h2];simp)]
 ·unfold Vq;rw[if_neg (by simp),if_neg (by rw[h];simp)]
theorem Yt {b:List UInt8} {x:El} (h:Mp x=true) (h2:okP (rdP x.n ((b.drop x.body).take (x.stop-x.body)))=true):Rp b ⟨x,0,0⟩=some (rdP x.n ((b.drop x.body).take (x.stop-x.body))).1:=by
 unfold Rp;simp only;rw[if_neg (by simp),if_neg (by rw[h];simp),if_pos h2]
def gnR (o:Option Gn) (e:Nat×Nat):AV:=match o with
 |some g=> .tup [gnQ g,erA 0 0]
 |none=> .tup [gnQ gz,erA e.1 e.2]
theorem Vr (b:List UInt8):(Rq b).1≠0∧(Rq b).2≤b.length:=by
 have hF:=Cm b
 unfold Rq Vq
 by_cases h1:(Ap b).code≠0
 ·rw[if_pos h1];exact⟨h1,hF.2.2.1⟩
 rw[if_neg h1]
 split
 ·exact⟨by simp,Nat.zero_le _⟩
 ·have:=hF.1 (Decidable.not_not.1 h1)
  exact⟨by simp,by show(Ap b).x.body≤_;omega⟩
theorem uO (k:Int) (c:List UInt8):(Kl k c).1.by'.length≤c.length:=by
 have hm:=fun p=>Lh (c:=c) (p:=p)
 unfold Kl
 generalize Cc c=l at hm
 match l with
 |[]=>exact Nat.zero_le _
 |[x]=>exact Nat.zero_le _
 |x::y::z::r=>exact Nat.zero_le _
 |[p,q]=>
  show(So k p q).1.by'.length≤_
  unfold So
  split
  ·exact Nat.zero_le _
  ·have:=hm q (by simp)
   have:=Mo q 0
   show(inn q 0).length≤_
   omega
theorem uP (k:Int) (c:List UInt8):(H8 k c).1.by'=[]:=by
 unfold H8
 match Cc c with
 |[]=>rfl
 |[q]=>rfl
 |x::y::z::r=>rfl
 |[p,q]=>
  show(if(Av p 0).isSome&&D9 (inn p 0) then Iv k q (pK (inn p 0)) (pV (inn p 0)) else(gz,false)).1.by'=[]
  split<;>rfl
theorem uQ (k:Int) (c:List UInt8):(Mn k c).1.by'=[]:=by
 unfold Mn;split<;>rfl
theorem qB {C:Cx} {o:Oper} {σ:AS} {t:Nat} {x y:Operand} {k:Int} (h:rdF k=none) (ho:o.op= .lookup 169 x y true) (hd:o.dst=some t) (ht:t<C.N) (hx:σ.eval x=some rdA) (hy:σ.eval y=some (iv k)):
 LA Tryz.prog C o ⟨[],some (t,.tup [.d (.v .nilFunc),bv false]),none,none,[],[],[],[]⟩ σ:=by
 have:=Gg ho hd ht hx hy
 unfold fnA at this
 rwa[h] at this
def BI:Nat→FuncId
 |0=>168
 |3=>170
 |4=>171
 |5=>172
 |7=>170
 |8=>173
 |_=>169
theorem uR {n:Nat} (hn:n≤8) (c:List UInt8) (hl:c.length≤800000):Ab Tryz.prog (BI n) [ptA n c] (fun r=>r=gbA (rdP n c))∧(rdP n c).1.by'.length≤100000000:=by
 have l0:([]:List UInt8).length≤100000000:=by simp
 rcases(by omega:n=0∨n=1∨n=2∨n=3∨n=4∨n=5∨n=6∨n=7∨n=8) with rfl|rfl|rfl|rfl|rfl|rfl|rfl|rfl|rfl
 ·exact⟨pZ 0 c hl,by have:=uO 0 c;show(Kl 0 _).1.by'.length≤_;omega⟩
 ·exact⟨Nt 1 c (by omega),l0⟩
 ·exact⟨Nt 2 c (by omega),l0⟩
 ·exact⟨Rm 3 c (by omega),by show c.length≤_;omega⟩
 ·exact⟨pY 4 c hl,by show(Mn 4 _).1.by'.length≤_;rw[uQ];exact l0⟩
 ·exact⟨qA 5 c hl,by show(H8 5 _).1.by'.length≤_;rw[uP];exact l0⟩
 ·exact⟨Nt 6 c (by omega),l0⟩
 ·exact⟨Rm 7 c (by omega),by show c.length≤_;omega⟩
 ·exact⟨Yr 8 c (by omega),l0⟩
theorem D4 {p:Prop} (h:p:=by first|rfl|(simp only[AV.gives,AV.ren,AV.give,D.un,D.uns,Ag,Ai,List.nil_append,List.append_nil,List.cons_append,Al,A3,Bz,Bd,Aw,Bt,Cd,Ce,Bg];first|done|rfl)):p:=h
theorem qC (b:List UInt8) (hb:b.length≤800000) (x:El) (hx:x.body≤x.stop∧x.stop≤b.length) (hn:x.n≤8) (hO:Ab Tryz.prog 99 [.d (Ac false b)] (fun r=>r=erR ⟨x,0,0⟩)):Ab Tryz.prog 95 [.d (Ac false b)] (fun r=>r=gnR (Rp b ⟨x,0,0⟩) (Vq ⟨x,0,0⟩)):=by
 obtain⟨c,n,k,p,body,stop⟩:=x
 simp only at hx hn
 have hlc:((b.drop body).take (stop-body)).length≤b.length:=by rw[List.length_take,List.length_drop];omega
 obtain⟨hR,hl⟩:=uR hn ((b.drop body).take (stop-body)) (by omega)
 have gt:Mp ⟨c,n,k,p,body,stop⟩=(c==2&&(true&&(k==Cs n))):=by unfold Mp;rw[decide_eq_true hn]
 obtain⟨con,hcon,hK⟩:∃con:Bool,Cs (n:Int)=con∧Ab Tryz.prog 94 [iv n] (fun r=>r=bv con):=⟨_,rfl,Ys n⟩
 rw[hcon] at gt
 rcases(by omega:n=0∨n=1∨n=2∨n=3∨n=4∨n=5∨n=6∨n=7∨n=8) with rfl|rfl|rfl|rfl|rfl|rfl|rfl|rfl|rfl
 all_goals cases con
 all_goals try(exact absurd hcon (by decide))
 all_goals
  clear hn hcon
  cases hc:(c==2)
  ·have e:=Rr (b:=b) (gt.trans (by rw[hc];rfl))
   rw[e.1,e.2]
   have g1:((c:Int) !=2)=true:=by rw[bne_iff_ne];rw[beq_eq_false_iff_ne] at hc;omega
   refine acQ 70 Tryz.func95 rfl rfl fun _ _ _=> ?_
   (repeat'((conv=>whnf);first|refine NBr.yes ?_|refine NBr.no ?_|refine NBr.pos asP ?_|refine NCall.eq hO D4 ?_|refine NCall.eq Eg rfl ?_|refine NLa.mk ⟨_,Gg rfl rfl (ltN rfl) rfl rfl,?_⟩|refine NFact.go ⟨by decide+kernel,by kernel_rfl⟩ ?_));(all_goals(conv=>whnf))
   all_goals exact NEnd.eq leQ
  have g1:((c:Int) !=2)=false:=by rw[bne_eq_false_iff_eq];rw[beq_iff_eq] at hc;omega
  cases k
  all_goals try
   have hk:=gt.trans (show _=false by rw[hc];rfl)
   have e:=Rr (b:=b) hk
   rw[e.1,e.2]
   refine acQ 70 Tryz.func95 rfl rfl fun _ _ _=> ?_
   (repeat'((conv=>whnf);first|refine NBr.yes ?_|refine NBr.no ?_|refine NBr.neg asP ?_|refine NCall.eq hO D4 ?_|refine NCall.eq Eg rfl ?_|refine NCall.eq hK rfl ?_|refine NLa.mk ⟨_,Gg rfl rfl (ltN rfl) rfl rfl,?_⟩|refine NFact.go ⟨by decide+kernel,by kernel_rfl⟩ ?_));(all_goals(conv=>whnf))
   all_goals exact NEnd.eq leQ
  have ht:=gt.trans (show _=true by rw[hc];rfl)
  have eN:=fE (b:=b) ht
  have eY:=Yt (b:=b) ht
  simp only at eN eY
  generalize rdP _ ((b.drop body).take (stop-body))=q at hR hl eN eY
  obtain⟨g,ok⟩:=q
  simp only at hl eN eY
  have hT:=Tt g hl
  simp only[gbA] at hR
  cases ok
  ·rw[(eN rfl).1,(eN rfl).2]
   refine acQ 70 Tryz.func95 rfl rfl fun _ _ _=> ?_
   (repeat'((conv=>whnf);first|refine NBr.yes ?_|refine NBr.no ?_|refine NBr.neg asP ?_|refine NCall.eq hO D4 ?_|refine NCall.eq Eg rfl ?_|refine NCall.eq hK rfl ?_|refine NSl.slice (body) (stop) ?_|refine NCall.eq hR D4 ?_|refine NLa.mk ⟨_,Gg rfl rfl (ltN rfl) rfl rfl,?_⟩|refine NFact.go ⟨by decide+kernel,by kernel_rfl⟩ ?_));(all_goals(conv=>whnf))
   all_goals exact NEnd.eq leQ
  cases hfi:Ro g
  ·rw[hfi] at hT
   have e:=eN (show(true&&Ro g)=false by rw[hfi];rfl)
   rw[e.1,e.2]
   refine acQ 70 Tryz.func95 rfl rfl fun _ _ _=> ?_
   (repeat'((conv=>whnf);first|refine NBr.yes ?_|refine NBr.no ?_|refine NBr.neg asP ?_|refine NCall.eq hO D4 ?_|refine NCall.eq Eg rfl ?_|refine NCall.eq hK rfl ?_|refine NSl.slice (body) (stop) ?_|refine NCall.eq hR D4 ?_|refine NCall.eq hT D4 ?_|refine NLa.mk ⟨_,Gg rfl rfl (ltN rfl) rfl rfl,?_⟩|refine NFact.go ⟨by decide+kernel,by kernel_rfl⟩ ?_));(all_goals(conv=>whnf))
   all_goals exact NEnd.eq leQ
  ·rw[hfi] at hT
   rw[eY (show(true&&Ro g)=true by rw[hfi];rfl)]
   refine acQ 70 Tryz.func95 rfl rfl fun _ _ _=> ?_
   (repeat'((conv=>whnf);first|refine NBr.no ?_|refine NBr.neg asP ?_|refine NCall.eq hO D4 ?_|refine NCall.eq Eg rfl ?_|refine NCall.eq hK rfl ?_|refine NSl.slice (body) (stop) ?_|refine NCall.eq hR D4 ?_|refine NCall.eq hT D4 ?_|refine NLa.mk ⟨_,Gg rfl rfl (ltN rfl) rfl rfl,?_⟩|refine NFact.go ⟨by decide+kernel,by kernel_rfl⟩ ?_));(all_goals(conv=>whnf))
   all_goals exact NEnd.eq leQ
theorem Rs (b:List UInt8) (hb:b.length≤800000):Ab Tryz.prog 95 [.d (Ac false b)] (fun r=>r=gnR (I5 b) (Rq b)):=by
 have hO:=Im b (by omega)
 have hF:=Cm b
 unfold I5 Rq
 generalize Ap b=r at hO hF⊢
 obtain⟨x,c,o⟩:=r
 by_cases h1:c=0
 ·subst h1
  obtain⟨f1,f2,f3,f4,f5⟩:=hF.1 rfl
  simp only at f1 f2 f3 f4 f5
  subst f5
  have hx:x.body≤x.stop∧x.stop≤b.length:=by omega
  by_cases hn:x.n≤8
  ·exact qC b hb x hx hn hO
  ·have gt:Mp x=false:=by unfold Mp;rw[decide_eq_false hn];simp
   have e:=Rr (b:=b) gt
   rw[e.1,e.2]
   obtain⟨c,n,k,p,body,stop⟩:=x
   simp only at hn
   have hr:rdF (n:Int)=none:=by
    unfold rdF
    rw[if_neg (by omega),if_neg (by omega),if_neg (by omega),if_neg (by omega),if_neg (by omega),if_neg (by omega)]
   show Ab _ _ _ (fun r=>r= .tup [gnQ gz,erA 3 0])
   refine acQ 70 Tryz.func95 rfl rfl fun _ _ _=> ?_
   (repeat'((conv=>whnf);first|refine NBr.yes ?_|refine NBr.no ?_|refine NCall.eq hO D4 ?_|refine NCall.eq Eg rfl ?_|refine NLa.mk ⟨_,qB hr rfl rfl (ltN rfl) rfl rfl,?_⟩|refine NFact.go ⟨by decide+kernel,by kernel_rfl⟩ ?_));(all_goals(conv=>whnf))
   all_goals exact NEnd.eq leQ
 ·have gc:((c:Int) !=0)=true:=by rw[bne_iff_ne];omega
  rw[show Rp b ⟨x,c,o⟩=none by unfold Rp;rw[if_pos h1],show Vq ⟨x,c,o⟩=(c,o) by unfold Vq;rw[if_pos h1]]
  show Ab _ _ _ (fun r=>r= .tup [gnQ gz,erA c o])
  refine acQ 70 Tryz.func95 rfl rfl fun _ _ _=> ?_
  (repeat'((conv=>whnf);first|refine NBr.pos asP ?_|refine NCall.eq hO D4 ?_|refine NFact.go ⟨by decide+kernel,by kernel_rfl⟩ ?_));(all_goals(conv=>whnf))
  all_goals exact NEnd.eq leQ
def gnE (g:Gn):List UInt8:=Ae 2 g.k.toNat (Cs g.k) ((Eb g).getD [])
def Sq (g:Gn):Bool:=Fj g&&(Ro g&&((Eb g).isSome&&(I5 (gnE g)).isSome))
def Ox (o:Bool) (b:List UInt8):AV:=if o=true then .tup [B7 0 5 b,iv 0] else .tup [Ay,iv 8]
theorem Nu {g:Gn} {c:List UInt8} (h:Eb g=some c):∃n:Nat,n≤8∧g.k=n:=by
 unfold Eb at h
 by_cases h0:g.k=0
 ·exact⟨0,by omega,h0⟩
 rw[if_neg h0] at h
 by_cases h1:g.k=1∨g.k=2∨g.k=6
 ·exact⟨g.k.toNat,by omega,by omega⟩
 rw[if_neg h1] at h
 by_cases h2:g.k=3∨g.k=7
 ·exact⟨g.k.toNat,by omega,by omega⟩
 rw[if_neg h2] at h
 by_cases h3:g.k=4
 ·exact⟨4,by omega,h3⟩
 rw[if_neg h3] at h
 by_cases h4:g.k=5
 ·exact⟨5,by omega,h4⟩
 rw[if_neg h4] at h
 by_cases h5:g.k=8
 ·exact⟨8,by omega,h5⟩
 rw[if_neg h5] at h;cases h
theorem B4 {p:Prop} (h:p:=by first|rfl|(simp only[AV.gives,AV.ren,AV.give,D.un,D.uns,Ag,Ai,List.nil_append,List.append_nil,List.cons_append,Al,A3,Bz,Bd,Aw,Bt,Cd,Ce,Bg,Dk,Bk];first|done|rfl)):p:=h
theorem cJ (g:Gn) (hs:g.sm) (hl:((Eb g).getD []).length≤700000):Ab Tryz.prog 51 [gnA g] (fun r=>r=Ox (Sq g) (gnE g)):=by
 have hA:=kQ g
 have hF:=Tt g (by have:=hs.b;omega)
 have hC:=Vp g hs
 unfold Sq Ox
 cases ha:Fj g
 ·rw[ha] at hA
  show Ab _ _ _ (fun r=>r= .tup [Ay,iv 8])
  refine acQ 48 Tryz.func51 rfl rfl fun _ _ _=> ?_
  (repeat'((conv=>whnf);first|refine NBr.yes ?_|refine NCall.eq hA B4 ?_));(all_goals(conv=>whnf))
  all_goals exact NEnd.eq leQ
 rw[ha] at hA
 cases hf:Ro g
 ·rw[hf] at hF
  show Ab _ _ _ (fun r=>r= .tup [Ay,iv 8])
  refine acQ 48 Tryz.func51 rfl rfl fun _ _ _=> ?_
  (repeat'((conv=>whnf);first|refine NBr.yes ?_|refine NBr.no ?_|refine NCall.eq hA B4 ?_|refine NCall.eq hF B4 ?_));(all_goals(conv=>whnf))
  all_goals exact NEnd.eq leQ
 rw[hf] at hF
 cases hc:Eb g with
 |none=>
  rw[hc] at hC
  have hC:Ab Tryz.prog 93 [gnA g] (fun r=>r= .tup [.d (Ac false []),iv 8]):=hC
  show Ab _ _ _ (fun r=>r= .tup [Ay,iv 8])
  refine acQ 48 Tryz.func51 rfl rfl fun _ _ _=> ?_
  (repeat'((conv=>whnf);first|refine NBr.yes ?_|refine NBr.no ?_|refine NCall.eq hA B4 ?_|refine NCall.eq hF B4 ?_|refine NCall.eq hC B4 ?_));(all_goals(conv=>whnf))
  all_goals exact NEnd.eq leQ
 |some c=>
  obtain⟨n,hn,hk⟩:=Nu hc
  rw[hc] at hC hl
  have hC:Ab Tryz.prog 93 [gnA g] (fun r=>r= .tup [.d (Ac false c),iv 0]):=hC
  have hl:c.length≤700000:=hl
  have hK:=Ys g.k
  have hW:=Cj 2 n (Cs g.k) c (by omega) (by omega) (by omega)
  have hle:=Ao 2 n (Cs g.k) c (by omega)
  have hP:=Rs (Ae 2 n (Cs g.k) c) (by omega)
  have he:=Vr (Ae 2 n (Cs g.k) c)
  have e:gnE g=Ae 2 n (Cs g.k) c:=by unfold gnE;rw[hc,hk];rfl
  rw[e]
  generalize Rq (Ae 2 n (Cs g.k) c)=er at hP he
  obtain⟨ec,eo⟩:=er
  simp only at he
  have gc:((ec:Int) !=0)=true:=by rw[bne_iff_ne];omega
  obtain⟨k,oid,tx,by',nm,ak,av,pk,pv⟩:=g
  simp only at hk
  subst hk
  simp only at hK hW hP hle⊢
  generalize Ae 2 n (Cs (n:Int)) c=b at hW hP⊢
  cases ho:I5 b with
  |none=>
   rw[ho] at hP
   have hP:Ab Tryz.prog 95 [.d (Ac false b)] (fun r=>r= .tup [gnQ gz,erA ec eo]):=hP
   show Ab _ _ _ (fun r=>r= .tup [Ay,iv 8])
   refine acQ 48 Tryz.func51 rfl rfl fun _ _ _=> ?_
   (repeat'((conv=>whnf);first|refine NBr.no ?_|refine NBr.pos asP ?_|refine NCall.eq hA B4 ?_|refine NCall.eq hF B4 ?_|refine NCall.eq hC B4 ?_|refine NCall.eq hK rfl ?_|refine NCall.eq hW B4 ?_|refine NCall.eq hP B4 ?_|refine NFact.go ⟨by decide+kernel,by kernel_rfl⟩ ?_));(all_goals(conv=>whnf))
   all_goals exact NEnd.eq leQ
  |some v=>
   rw[ho] at hP
   have hP:Ab Tryz.prog 95 [.d (Ac false b)] (fun r=>r= .tup [gnQ v,erA 0 0]):=hP
   show Ab _ _ _ (fun r=>r= .tup [B7 0 5 b,iv 0])
   refine acQ 48 Tryz.func51 rfl rfl fun _ _ _=> ?_
   (repeat'((conv=>whnf);first|refine NBr.no ?_|refine NCall.eq hA B4 ?_|refine NCall.eq hF B4 ?_|refine NCall.eq hC B4 ?_|refine NCall.eq hK rfl ?_|refine NCall.eq hW B4 ?_|refine NCall.eq hP B4 ?_|refine NFact.go ⟨by decide+kernel,by kernel_rfl⟩ ?_));(all_goals(conv=>whnf))
   all_goals exact NEnd.eq leQ
structure Gn.mid (g:Gn):Prop where
 s:g.sm
 c:((Eb g).getD []).length≤700000
def Vs (l:List Gn):Bool:= !l.isEmpty&&l.all Sq
def Oy (l:List Gn):List UInt8:=Ae 0 16 true (l.map gnE).flatten
structure gnsM (l:List Gn):Prop where
 n:l.length≤1000000
 m:∀g∈l,g.mid
 e:(l.map gnE).flatten.length≤800000000
theorem On (l:List Gn) (hz:gnsM l):Ab Tryz.prog 61 [.d (Fs l)] (fun r=>r=Ox (Vs l) (Oy l)):=by
 obtain⟨hl,hs,hq⟩:=hz
 have hS:=L4 (l.map gnE) (by omega) (by rw[List.length_map];omega)
 refine acQ 35 Tryz.func61 rfl rfl fun _ _ _=> ?_
 (all_goals(conv=>whnf))
 refine NLoop.goA [.s 4 1 33] (fun i:Nat=>i≤l.length∧(l.take i).all Sq=true) (fun i=>l.length-i) (fun i=>⟨[(4,Dk 4 1 33 Ol ((l.take i).map gnE)),(9,.d (Fs l)),(10,iv l.length),(11,iv i)],[],[(4,(((l.take i).map gnE).length,1,33))]⟩) 0 ⟨by omega,rfl⟩ leQ ?_
 rintro i ⟨hi,ha⟩
 have hml:((l.take i).map gnE).length≤1000000:=by rw[List.length_map,List.length_take];omega
 by_cases hik:i<l.length
 ·have gi:decide ((i:Int)<l.length)=true:=decide_eq_true (by omega)
  obtain⟨x,hg⟩:∃p,l[i]?=some p:=⟨_,List.getElem?_eq_getElem hik⟩
  have hm:=hs x (List.mem_of_getElem? hg)
  have hM:=cJ x hm.s hm.c
  unfold Ox at hM
  cases hv:Sq x
  ·rw[hv,if_neg (by simp)] at hM
   rw[show Ox (Vs l) (Oy l)= .tup [Ay,iv 8] by unfold Ox Vs;rw[Vk hg hv,Bool.and_false,if_neg (by simp)]]
   (repeat'((conv=>whnf);first|refine NBr.yes ?_|refine NBr.pos asP ?_|refine NIdx.tab (fun _=>rfl) hg ?_|refine NCall.eq hM B4 ?_));(all_goals(conv=>whnf))
   all_goals exact NEnd.eq leQ
  ·rw[hv,if_pos rfl] at hM
   have hs':=Re gnE hg
   (repeat'((conv=>whnf);first|refine NBr.no ?_|refine NBr.pos asP ?_|refine NIdx.tab (fun _=>rfl) hg ?_|refine NCall.eq hM B4 ?_|refine NApp.one Ol (gnE x) ?_|(with_reducible refine NInt.i64 ?_)));(all_goals(conv=>whnf))
   refine⟨i+1,⟨by omega,Nq Sq hg hv ha⟩,by omega,?_⟩
   rw[hs']
   exact leQ
 ·have gi:decide ((i:Int)<l.length)=false:=decide_eq_false (by omega)
  obtain rfl:i=l.length:=by omega
  rw[List.take_length] at ha⊢
  by_cases h0:l=[]
  ·subst h0
   (repeat'((conv=>whnf);first|refine NBr.yes ?_|refine NBr.no ?_));(all_goals(conv=>whnf))
   all_goals exact NEnd.eq leQ
  ·have gj:(((l.map gnE).length:Int)==0)=false:=by rw[beq_eq_false_iff_ne,List.length_map];intro h;exact h0 (List.eq_nil_of_length_eq_zero (by omega))
   rw[show Ox (Vs l) (Oy l)= .tup [B7 0 5 (Oy l),iv 0] by unfold Ox Vs;rw[ha,Bool.and_true,if_pos (by cases l with|nil=>exact absurd rfl h0|cons _ _=>rfl)]]
   (repeat'((conv=>whnf);first|refine NBr.neg asP ?_|refine NCall.eq hS B4 ?_));(all_goals(conv=>whnf))
   all_goals exact NEnd.eq leQ
theorem Yu (l:List Gn) (hz:gnsM l):Ab Tryz.prog 69 [.d (Fs l)] (fun r=>r=bv (Vs l)):=by
 have hM:=On l hz
 unfold Ox at hM
 cases hv:Vs l
 all_goals
  rw[hv] at hM
  first|rw[if_pos rfl] at hM|rw[if_neg (by simp)] at hM
  refine acQ 12 Tryz.func69 rfl rfl fun _ _ _=> ?_
  (repeat'((conv=>whnf);refine NCall.eq hM B4 ?_));(all_goals(conv=>whnf))
  all_goals exact NEnd.eq leQ
theorem Rt {k:Int} {l:List UInt8} (h:Ah k l=true):G9 k (chS k l)=k∧C9 k (chS k l)=l∧Dw k (chS k l)=0:=by
 have:=rZ h
 unfold I9 at this
 rwa[if_pos h] at this
theorem Vt {k:Int} {c:List UInt8} (h:Dw k c=0):G9 k c=k∧Ah k (C9 k c)=true∧chS k (C9 k c)=c:=by
 unfold Dw at h
 unfold G9 C9
 split at h
 ·cases h
 ·rename_i hk
  split at h
  ·rename_i ho
   rw[if_neg hk,if_neg hk,if_pos ho,if_pos ho]
   unfold okD at ho
   simp only[Bool.and_eq_true,beq_iff_eq] at ho
   exact⟨rfl,ho.1,ho.2⟩
  ·cases h
theorem Tu:∀{a b:List (List UInt8)},F1 (a++b)=true→F1 a=true
 |[],_,_=>rfl
 |[_],_,_=>rfl
 |x::y::r,b,h=>by
  have h':(decide (Jh x y<0)&&F1 (y::r++b))=true:=h
  rw[Bool.and_eq_true] at h'
  rw[F1,h'.1,Tu h'.2];rfl
theorem yT {a:Att} (_:atV a=true) (hs:a.sm):∃t:Tv,t.ok∧atE a=t.enc:=by
 have k1:=H4 a.oid
 have:=hs.o
 have:=hs.v
 have k2:=Ao 0 6 false (Bj a.oid) (by omega)
 exact⟨⟨0,16,true,Ae 0 6 false (Bj a.oid)++a.val⟩,⟨by show(0:Nat)≤3;omega,by show(16:Nat)≤30;omega,by show(_++_:List UInt8).length≤_;rw[List.length_append];omega⟩,rfl⟩
theorem uS {a:Att} (h:atV a=true) (hs:a.sm):atO (atE a)=some a:=by
 obtain⟨h1,h2⟩:=Vj h
 have k1:=H4 a.oid
 have o1:=hs.o
 have o2:=hs.v
 obtain⟨y,yo,ye⟩:=(pQ h2).tv (by omega)
 obtain⟨x,hx⟩:∃x:Tv,x=⟨0,6,false,Bj a.oid⟩:=⟨_,rfl⟩
 have xo:x.ok:=by subst hx;exact⟨by show(0:Nat)≤3;omega,by show(6:Nat)≤30;omega,by show(Bj a.oid).length≤_;omega⟩
 have e:atE a=Ae 0 16 true (Bu [x,y]):=by
  unfold atE
  rw[Br,Br,←ye]
  subst hx
  show _=Ae 0 16 true (Ae 0 6 false (Bj a.oid)++(a.val++[]))
  rw[List.append_nil]
 have hl:(Bu [x,y]).length≤2147483600:=by
  have:=Ao 0 6 false (Bj a.oid) (by omega)
  rw[Br,Br,←ye]
  subst hx
  show(Ae 0 6 false (Bj a.oid)++(a.val++[])).length≤_
  simp only[List.length_append,List.length_nil];omega
 have hp:=Yk x y xo yo hl
 obtain⟨e1,e2⟩:=bR h1
 have xv:x.v=Bj a.oid:=by subst hx;rfl
 have xi:(x.el 0).isB 0 6 false=true:=by subst hx;rfl
 rw[xv,if_pos ⟨xi,e2⟩,e1,←ye,←e] at hp
 unfold atO
 rw[hp]
 simp only
 rw[if_pos h2]
theorem kR {p id s:List UInt8} (h:Yj p=some (id,s)) (hl:p.length≤2147483600):Ft id=true∧p=Ae 0 16 true (Ae 0 6 false (Bj id)++s)∧∃y:Tv,y.ok∧s=y.enc:=by
 obtain⟨c0,l2⟩:=cH h
 obtain⟨ts,t1,t2,-,-,t5⟩:=H5 c0
 have hlt:(Bu ts).length≤2147483600:=by
  have:=congrArg List.length t2
  unfold Ae at this
  rw[Fv] at this;omega
 obtain⟨q,e1,-⟩:=En (c:=0) (n:=16) ts (by omega) (by omega) t1 hlt
 rw[←t2] at e1
 rw[e1] at l2
 have l2':ts.length=2:=by rw[←Vg q ts];exact l2
 obtain⟨x,y,rfl⟩:∃x y,ts=[x,y]:=by
  match ts,l2' with
  |[x,y],_=>exact⟨x,y,rfl⟩
 have hpp:=Yk x y (t1 x (by simp)) (t1 y (by simp)) hlt
 rw[←t2,h] at hpp
 by_cases hc:(x.el 0).isB 0 6 false=true∧odC x.v=0
 ·rw[if_pos hc] at hpp
  simp only[Option.some.injEq,Prod.mk.injEq] at hpp
  obtain⟨rfl,rfl⟩:=hpp
  have hd:=bS hc.2
  have hb:=hc.1
  unfold El.isB Tv.el at hb
  simp only[Bool.and_eq_true,beq_iff_eq] at hb
  obtain⟨⟨b1,b2⟩,b3⟩:=hb
  have hxe:x.enc=Ae 0 6 false x.v:=by rw[Tv.enc,b1,b2,b3]
  refine⟨hd.1,?_,y,t1 y (by simp),rfl⟩
  rw[hd.2,←hxe,t2,Br,Br]
  show Ae 0 16 true (x.enc++(y.enc++[]))=_
  rw[List.append_nil]
 ·rw[if_neg hc] at hpp;cases hpp
theorem uT {p:List UInt8} {a:Att} (h:atO p=some a) (hl:p.length≤2147483600):atV a=true∧p=atE a:=by
 unfold atO at h
 cases hp:Yj p with
 |none=>rw[hp] at h;cases h
 |some w=>
  obtain⟨id,s⟩:=w
  rw[hp] at h
  simp only at h
  by_cases ho:Fx s=true
  ·rw[if_pos ho] at h
   obtain rfl:=Option.some.inj h
   obtain⟨h1,h2,-⟩:=kR hp hl
   exact⟨by unfold atV;rw[h1,ho];rfl,h2⟩
  ·rw[if_neg ho] at h;cases h
def Vu:List (List UInt8)→List (List UInt8)→List Att→Option (List Att)
 |[],_,out=>some out
 |p::r,ps,out=>match atO p with
  |none=>none
  |some a=>if F1 (ps++[p])=true then Vu r (ps++[p]) (out++[a]) else none
theorem Ru (b:List UInt8):∀(l:List El) (ps:List (List UInt8)) (out:List Att),(Ow b l ps out).1=Vu (l.map (elO b)) ps out
 |[],_,_=>rfl
 |x::r,ps,out=>by
  rw[Ow,List.map_cons,Vu]
  cases atO (elO b x) with
  |none=>rfl
  |some a=>
   simp only
   by_cases h:F1 (ps++[elO b x])=true
   ·rw[if_pos h,if_pos h];exact Ru b r _ _
   ·rw[if_neg h,if_neg h]
theorem Yv:∀{r:List Att} {ps:List (List UInt8)} {out:List Att},r.all atV=true→(∀a∈r,a.sm)→F1 (ps++r.map atE)=true→Vu (r.map atE) ps out=some (out++r)
 |[],_,_,_,_,_=>by simp[Vu]
 |a::r,ps,out,h,hs,ho=>by
  rw[List.all_cons,Bool.and_eq_true] at h
  rw[List.map_cons] at ho⊢
  have ho':F1 ((ps++[atE a])++r.map atE)=true:=by rw[List.append_assoc];exact ho
  rw[Vu,uS h.1 (hs a (by simp))]
  simp only
  rw[if_pos (Tu ho'),Yv h.2 (fun k hk=>hs k (by simp[hk])) ho',List.append_assoc];rfl
theorem Yw:∀{qs ps:List (List UInt8)} {out z:List Att},(∀p∈qs,p.length≤2147483600)→Vu qs ps out=some z→∃r:List Att,z=out++r∧r.all atV=true∧qs=r.map atE∧(qs≠[]→F1 (ps++qs)=true)
 |[],_,out,z,_,h=>by
  rw[Vu] at h
  obtain rfl:=Option.some.inj h
  exact⟨[],by simp,rfl,rfl,fun h=>absurd rfl h⟩
 |p::qs,ps,out,z,hl,h=>by
  rw[Vu] at h
  cases ha:atO p with
  |none=>rw[ha] at h;cases h
  |some a=>
   rw[ha] at h
   simp only at h
   by_cases ho:F1 (ps++[p])=true
   ·rw[if_pos ho] at h
    obtain⟨r,e1,e2,e3,e4⟩:=Yw (fun q hq=>hl q (by simp[hq])) h
    obtain⟨k1,k2⟩:=uT ha (hl p (by simp))
    refine⟨a::r,by rw[e1,List.append_assoc];rfl,by rw[List.all_cons,k1,e2];rfl,by rw[List.map_cons,←k2,←e3],fun _=> ?_⟩
    by_cases hq:qs=[]
    ·subst hq;exact ho
    ·have:=e4 hq
     rwa[List.append_assoc] at this
   ·rw[if_neg ho] at h;cases h
theorem uU {r:List Att} (h:r.all atV=true) (hs:∀a∈r,a.sm):∃ts:List Tv,(∀t∈ts,t.ok)∧r.map atE=ts.map Tv.enc:=
 Pb fun p hp=>by
  obtain⟨a,ha,rfl⟩:=List.mem_map.1 hp
  exact yT (List.all_eq_true.1 h a ha) (hs a ha)
theorem Yx {r:List Att} (h:E4 r=true) (hz:rdnZ r):(Gt (C6 r)).1=some r:=by
 obtain⟨h0,h1,h2⟩:=Pd h
 obtain⟨hl,hs,hq⟩:=hz
 obtain⟨ts,t1,t2⟩:=uU h1 hs
 have hf:(r.map atE).flatten=Bu ts:=by rw[t2,Dn]
 obtain⟨q,e1,e2⟩:=En (c:=0) (n:=17) ts (by omega) (by omega) t1 (by rw[←hf];omega)
 unfold Gt C6
 rw[hf,e1,pW,if_neg (by simp)]
 have hne:els q ts≠[]:=by
  intro e
  have:=congrArg List.length e
  rw[Vg] at this
  have h3:=congrArg List.length t2
  rw[List.length_map,List.length_map] at h3
  exact h0 (List.eq_nil_of_length_eq_zero (by rw[h3];exact this))
 simp only
 rw[if_neg hne,Ru,e2,←t2]
 exact Yv h1 hs h2
theorem Yy {b:List UInt8} {r:List Att} (h:(Gt b).1=some r) (hl:b.length≤2147483600):E4 r=true∧b=C6 r:=by
 unfold Gt pW at h
 by_cases h1:(An b 0 17).code≠0
 ·rw[if_pos h1] at h;cases h
 rw[if_neg h1] at h
 obtain⟨ts,t1,t2,-,-,-⟩:=H5 (Decidable.not_not.1 h1)
 have hlt:(Bu ts).length≤b.length:=by
  have:=congrArg List.length t2
  unfold Ae at this
  rw[Fv] at this;omega
 obtain⟨q,e1,e2⟩:=En (c:=0) (n:=17) ts (by omega) (by omega) t1 (by omega)
 rw[←t2] at e1 e2
 rw[e1] at h
 simp only at h
 by_cases hn:els q ts=[]
 ·rw[if_pos hn] at h;cases h
 rw[if_neg hn,Ru,e2] at h
 obtain⟨r',e3,e4,e5,e6⟩:=Yw (fun p hp=>by
  have:=Fy hp
  rw[←Dn] at this;omega) h
 rw[List.nil_append] at e3
 subst e3
 have hne:ts.map Tv.enc≠[]:=by
  intro e
  have h5:ts=[]:=by simpa using e
  subst h5;exact hn rfl
 have ho:=e6 hne
 rw[List.nil_append,e5] at ho
 refine⟨?_,?_⟩
 ·unfold E4
  rw[e4,ho]
  cases r with
  |nil=>exact absurd e5 hne
  |cons _ _=>rfl
 ·rw[t2]
  unfold C6
  rw[Dn,e5]
def nmP:List (List UInt8)→List (List Att)→Option (List (List Att))
 |[],out=>some out
 |p::r,out=>match(Gt p).1 with
  |none=>none
  |some a=>nmP r (out++[a])
theorem Vv (b:List UInt8):∀(l:List El) (out:List (List Att)),(nmL b l out).1=nmP (l.map (elO b)) out
 |[],_=>rfl
 |x::r,out=>by
  rw[nmL,List.map_cons,nmP]
  generalize Gt (elO b x)=q
  obtain⟨o,c,p⟩:=q
  cases o with
  |none=>rfl
  |some a=>exact Vv b r _
theorem fF:∀{n out:List (List Att)},n.all E4=true→(∀r∈n,rdnZ r)→nmP (n.map C6) out=some (out++n)
 |[],_,_,_=>by simp[nmP]
 |r::n,out,h,hs=>by
  rw[List.all_cons,Bool.and_eq_true] at h
  have h1:=hs r (by simp)
  rw[List.map_cons,nmP,Yx h.1 h1]
  simp only
  rw[fF h.2 (fun k hk=>hs k (by simp[hk])),List.append_assoc];rfl
theorem fG:∀{qs:List (List UInt8)} {out z:List (List Att)},(∀p∈qs,p.length≤2147483600)→nmP qs out=some z→∃n:List (List Att),z=out++n∧n.all E4=true∧qs=n.map C6
 |[],out,z,_,h=>by
  rw[nmP] at h
  obtain rfl:=Option.some.inj h
  exact⟨[],by simp,rfl,rfl⟩
 |p::qs,out,z,hl,h=>by
  rw[nmP] at h
  cases ha:(Gt p).1 with
  |none=>rw[ha] at h;cases h
  |some a=>
   rw[ha] at h
   obtain⟨n,e1,e2,e3⟩:=fG (fun q hq=>hl q (by simp[hq])) h
   obtain⟨k1,k2⟩:=Yy ha (hl p (by simp))
   exact⟨a::n,by rw[e1,List.append_assoc];rfl,by rw[List.all_cons,k1,e2];rfl,by rw[List.map_cons,←k2,←e3]⟩
theorem yU {r:List Att} (hz:rdnZ r):∃t:Tv,t.ok∧C6 r=t.enc:=by
 have hq:=hz.e
 exact⟨⟨0,17,true,(r.map atE).flatten⟩,⟨by show(0:Nat)≤3;omega,by show(17:Nat)≤30;omega,by show(r.map atE).flatten.length≤_;omega⟩,rfl⟩
theorem uV {n:List (List Att)} (h:nmV n=true) (hs:nmZ n):(nmR (nmE n)).1=some n:=by
 obtain⟨ts,t1,t2⟩:=Pb (l:=n.map C6) fun p hp=>by
  obtain⟨r,hr,rfl⟩:=List.mem_map.1 hp
  exact yU (hs.r r hr)
 have hf:(n.map C6).flatten=Bu ts:=by rw[t2,Dn]
 have he:=hs.e
 obtain⟨q,e1,e2⟩:=En (c:=0) (n:=16) ts (by omega) (by omega) t1 (by rw[←hf];omega)
 unfold nmR nmE
 rw[hf,e1,nmQ,if_neg (by simp)]
 simp only
 rw[Vv,e2,←t2]
 exact fF h hs.r
theorem uW {b:List UInt8} {n:List (List Att)} (h:(nmR b).1=some n) (hl:b.length≤2147483600):nmV n=true∧b=nmE n:=by
 unfold nmR nmQ at h
 by_cases h1:(An b 0 16).code≠0
 ·rw[if_pos h1] at h;cases h
 rw[if_neg h1] at h
 obtain⟨ts,t1,t2,-,-,-⟩:=H5 (Decidable.not_not.1 h1)
 have hlt:(Bu ts).length≤b.length:=by
  have:=congrArg List.length t2
  unfold Ae at this
  rw[Fv] at this;omega
 obtain⟨q,e1,e2⟩:=En (c:=0) (n:=16) ts (by omega) (by omega) t1 (by omega)
 rw[←t2] at e1 e2
 rw[e1] at h
 simp only at h
 rw[Vv,e2] at h
 obtain⟨n',e3,e4,e5⟩:=fG (fun p hp=>by
  have:=Fy hp
  rw[←Dn] at this;omega) h
 rw[List.nil_append] at e3
 subst e3
 refine⟨e4,?_⟩
 rw[t2]
 unfold nmE
 rw[Dn,e5]
theorem Li {ts:List Tv} (h:∀t∈ts,t.ok):Cc (Bu ts)=ts.map Tv.enc:=by
 have hp:=Kf ts (Bu ts) [] (Bu ts).length h (by rw[List.take_length];rfl) (Nat.le_refl _)
 have he:=Pa ts (Bu ts) [] (Bu ts).length (by rw[List.take_length];rfl) (Nat.le_refl _)
 rw[List.length_nil] at hp he
 unfold Cc
 rw[hp,if_neg (by simp)]
 exact he
theorem Rv {c:List UInt8} (h:Cc c≠[]):∃ts:List Tv,(∀t∈ts,t.ok)∧c=Bu ts∧Cc c=ts.map Tv.enc:=by
 by_cases h1:(Bf c 0 c.length).code≠0
 ·unfold Cc at h;rw[if_pos h1] at h;exact absurd rfl h
 ·obtain⟨ts,e1,e2,e3⟩:=Np _ c 0 c.length (Nat.le_refl _) (by omega) (by omega) (Decidable.not_not.1 h1)
  rw[List.drop_zero,Nat.sub_zero,List.take_length] at e3
  exact⟨ts,e1,e3,by rw[e3];exact Li e1⟩
theorem Lj {t:Tv} (h:t.ok) (n:Nat):Av t.enc n=if t.c=2∧t.n=n∧t.k=true then some t.v else none:=by
 unfold Av
 rw[Fw h]
 simp only
 have hi:(t.el 0).isB 2 n true=decide (t.c=2∧t.n=n∧t.k=true):=by
  unfold El.isB Tv.el
  rw[Bool.eq_iff_iff]
  simp only[Bool.and_eq_true,beq_iff_eq,decide_eq_true_eq]
  exact⟨fun⟨⟨a,b⟩,c⟩=>⟨a,c,b⟩,fun⟨a,c,b⟩=>⟨⟨a,b⟩,c⟩⟩
 have hv:(t.enc.drop (0+t.hd)).take (0+t.enc.length-(0+t.hd))=t.v:=by
  rw[Nat.zero_add,Nat.zero_add,t.body]
  exact List.take_of_length_le (by rw[t.len];omega)
 by_cases hc:t.c=2∧t.n=n∧t.k=true
 ·rw[hi,decide_eq_true hc,if_neg (by simp),if_pos hc]
  show some ((t.enc.drop (0+t.hd)).take (0+t.enc.length-(0+t.hd)))=_
  rw[hv]
 ·rw[hi,decide_eq_false hc,if_pos (by simp),if_neg hc]
theorem Gu {n:Nat} {v:List UInt8} (hn:n≤30) (hv:v.length≤2147483600):Av (Ae 2 n true v) n=some v:=by
 have:=Lj (t:=⟨2,n,true,v⟩) ⟨by show(2:Nat)≤3;omega,hn,by show v.length≤_;omega⟩ n
 rw[if_pos ⟨rfl,rfl,rfl⟩] at this
 exact this
theorem Fk {b v:List UInt8} {n:Nat} (h:Av b n=some v):b=Ae 2 n true v:=by
 unfold Av at h
 split at h
 ·cases h
 ·rename_i hh
  rw[not_or] at hh
  obtain⟨t,t1,t2,t3⟩:=Mm (Decidable.not_not.1 hh.1)
  have:=Lj t1 n
  rw[←t3] at this
  have hc:t.c=2∧t.n=n∧t.k=true:=by
   have hb:=hh.2
   rw[t2] at hb
   have hb:(t.el 0).isB 2 n true=true:=by simpa using hb
   unfold El.isB Tv.el at hb
   simp only[Bool.and_eq_true,beq_iff_eq] at hb
   exact⟨hb.1.1,hb.2,hb.1.2⟩
  rw[if_pos hc] at this
  have h':Av b n=some v:=by unfold Av;rw[if_neg (by rw[not_or];exact hh)];exact h
  rw[this] at h'
  obtain rfl:=Option.some.inj h'
  rw[t3,Tv.enc,hc.1,hc.2.1,hc.2.2]
def fiB (k:Int) (l:List UInt8):Bool:=Ah k l&&(!(l==[])&& !(k==22||k==26))
theorem yV {k:Int} {l:List UInt8} (h:Ah k l=true) (hl:l.length≤500000000):∃n:Nat,k=n∧Tv.ok ⟨0,n,false,chS k l⟩∧txE k l=Tv.enc ⟨0,n,false,chS k l⟩:=by
 obtain⟨n,h1,h2,rfl⟩:=Rh h
 have h4:=Kg h
 exact⟨n,rfl,⟨by show(0:Nat)≤3;omega,h2,by show(chS (n:Int) l).length≤_;omega⟩,by unfold txE;rw[Int.toNat_natCast];rfl⟩
theorem fH {k:Int} {l:List UInt8} (h:Ah k l=true) (hl:l.length≤500000000):Kk (txE k l)=k∧Ns (txE k l)=l∧Vh (txE k l)=true:=by
 obtain⟨n,hk,ho,he⟩:=yV h hl
 have hc:=Rt h
 generalize ht:(⟨0,n,false,chS k l⟩:Tv)=t at ho he
 have h1:=Fw ho
 have hs:Om t.enc=true:=by unfold Om;rw[h1];subst ht;rfl
 have hcon:Rg t.enc=chS k l:=by
  unfold Rg
  rw[h1]
  show(t.enc.drop (0+t.hd)).take (0+t.enc.length-(0+t.hd))=_
  rw[Nat.zero_add,Nat.zero_add,t.body,List.take_of_length_le (by rw[t.len];omega)]
  subst ht;rfl
 have hn:(Ap t.enc).x.n=n:=by rw[h1];subst ht;rfl
 rw[he]
 unfold Kk Ns Vh
 rw[hs,hcon,hn,←hk]
 exact⟨hc.1,hc.2.1,by rw[hc.2.2];rfl⟩
theorem uX {b:List UInt8} (h:Vh b=true):Ah (Kk b) (Ns b)=true∧b=txE (Kk b) (Ns b):=by
 unfold Vh at h
 rw[Bool.and_eq_true] at h
 obtain⟨hs,hd⟩:=h
 have hs':=hs
 unfold Om at hs'
 simp only[Bool.and_eq_true,beq_iff_eq] at hs'
 obtain⟨t,t1,t2,t3⟩:=Mm hs'.1
 have hcon:Rg b=t.v:=by
  unfold Rg
  rw[t2,t3]
  show(t.enc.drop (0+t.hd)).take (0+t.enc.length-(0+t.hd))=_
  rw[Nat.zero_add,Nat.zero_add,t.body,List.take_of_length_le (by rw[t.len];omega)]
 have hn:(Ap b).x.n=t.n:=by rw[t2];rfl
 have htc:t.c=0:=by have:=hs'.2.1;rw[t2] at this;exact this
 have htk:t.k=false:=by have:=hs'.2.2;rw[t2] at this;simpa[Tv.el] using this
 rw[hn,hcon] at hd
 have hd:Dw (t.n:Int) t.v=0:=by simpa using hd
 obtain⟨i1,i2,i3⟩:=Vt hd
 have hK:Kk b=(t.n:Int):=by unfold Kk;rw[if_pos hs,hn,hcon];exact i1
 have hV:Ns b=C9 (t.n:Int) t.v:=by unfold Ns;rw[if_pos hs,hn,hcon]
 rw[hK,hV]
 refine⟨i2,?_⟩
 unfold txE
 rw[i3,Int.toNat_natCast,t3,Tv.enc,htc,htk]
theorem Vw {k:Int} {l:List UInt8} (h:fiB k l=true) (hl:l.length≤500000000):D9 (txE k l)=true∧pK (txE k l)=k∧pV (txE k l)=l:=by
 have h':=h
 unfold fiB at h
 rw[Bool.and_eq_true] at h
 obtain⟨s1,s2,s3⟩:=fH h.1 hl
 have hd:D9 (txE k l)=true:=by
  unfold D9
  rw[s1,s2,s3,h.2];rfl
 refine⟨hd,?_,?_⟩
 ·unfold pK;rw[if_pos hd,s1]
 ·unfold pV;rw[if_pos hd,s2]
theorem fI {b:List UInt8} (h:D9 b=true):fiB (pK b) (pV b)=true∧b=txE (pK b) (pV b):=by
 have h':=h
 unfold D9 at h'
 rw[Bool.and_eq_true] at h'
 obtain⟨s1,s2⟩:=uX h'.1
 unfold pK pV
 rw[if_pos h,if_pos h]
 refine⟨?_,s2⟩
 unfold fiB
 rw[s1,h'.2];rfl
theorem qD {k:Int} {l:List UInt8} (hv:Ah k l=true) (h:fiB k l=false) (hl:l.length≤500000000):D9 (txE k l)=false:=by
 cases hd:D9 (txE k l) with
 |false=>rfl
 |true=>
  exfalso
  obtain⟨s1,s2,s3⟩:=fH hv hl
  unfold D9 at hd
  rw[s1,s2,s3] at hd
  unfold fiB at h
  rw[hv] at h
  rw[h] at hd;cases hd
def F3 (g:Gn):Bool:= !(g.k==5)||((zT g.ak g.av||fiB g.ak g.av)&&fiB g.pk g.pv)
def gnW (g:Gn):Bool:=Fj g&&(Ro g&&((Eb g).isSome&&F3 g))
theorem Vx {k:Int} {l:List UInt8}:zT k l=true↔k=0∧l=[]:=by unfold zT;simp
theorem Yz {n:Nat} {c:List UInt8} (hn:n≤8) (hl:c.length≤2147483600):I5 (Ae 2 n (Cs n) c)=if okP (rdP n c)=true then some (rdP n c).1 else none:=by
 obtain⟨t,ht⟩:∃t:Tv,t=⟨2,n,Cs n,c⟩:=⟨_,rfl⟩
 have hOk:t.ok:=by subst ht;exact⟨by show(2:Nat)≤3;omega,by show n≤30;omega,by show c.length≤_;omega⟩
 have he:Ae 2 n (Cs n) c=t.enc:=by subst ht;rfl
 have hv:t.v=c:=by subst ht;rfl
 have htag:Mp (t.el 0)=true:=by
  unfold Mp;subst ht
  show((2:Nat)==2&&(decide (n≤8)&&(Cs n==Cs n)))=true
  rw[decide_eq_true hn];simp
 have hn':(t.el 0).n=n:=by subst ht;rfl
 have hb:(t.enc.drop (t.el 0).body).take ((t.el 0).stop-(t.el 0).body)=c:=by
  show(t.enc.drop (0+t.hd)).take (0+t.enc.length-(0+t.hd))=_
  rw[Nat.zero_add,Nat.zero_add,t.body,List.take_of_length_le (by rw[t.len];omega),hv]
 rw[he]
 unfold I5
 rw[Fw hOk]
 cases ho:okP (rdP n c)
 ·rw[if_neg (by simp)]
  exact(fE htag (by rw[hn',hb];exact ho)).1
 ·rw[if_pos rfl]
  have:=Yt (b:=t.enc) htag (by rw[hn',hb];exact ho)
  rw[this,hn',hb]
theorem qE {b:List UInt8} {g:Gn} (h:I5 b=some g):∃n:Nat,∃c:List UInt8,n≤8∧c.length≤b.length∧b=Ae 2 n (Cs n) c∧okP (rdP n c)=true∧g=(rdP n c).1:=by
 unfold I5 Rp at h
 by_cases h1:(Ap b).code≠0
 ·rw[if_pos h1] at h;cases h
 rw[if_neg h1] at h
 by_cases h2:Mp (Ap b).x=false
 ·rw[if_pos h2] at h;cases h
 rw[if_neg h2] at h
 obtain⟨t,t1,t2,t3⟩:=Mm (Decidable.not_not.1 h1)
 have hb:(b.drop (Ap b).x.body).take ((Ap b).x.stop-(Ap b).x.body)=t.v:=by
  rw[t2,t3]
  show(t.enc.drop (0+t.hd)).take (0+t.enc.length-(0+t.hd))=_
  rw[Nat.zero_add,Nat.zero_add,t.body,List.take_of_length_le (by rw[t.len];omega)]
 have hn:(Ap b).x.n=t.n:=by rw[t2];rfl
 rw[hb,hn] at h
 have htag:Mp (Ap b).x=true:=by simpa using h2
 rw[t2] at htag
 unfold Mp at htag
 simp only[Bool.and_eq_true,beq_iff_eq,decide_eq_true_eq] at htag
 obtain⟨a1,a2,a3⟩:=htag
 have a1:t.c=2:=a1
 have a2:t.n≤8:=a2
 have a3:t.k=Cs t.n:=a3
 by_cases h3:okP (rdP t.n t.v)=true
 ·rw[if_pos h3] at h
  refine⟨t.n,t.v,a2,by rw[t3,t.len];omega,?_,h3,(Option.some.inj h).symm⟩
  rw[t3,Tv.enc,a1,a3]
 ·rw[if_neg h3] at h;cases h
theorem fJ {c d n m:Nat} {j k:Bool} {u v:List UInt8} (hc:c≤3) (hn:n≤30) (hd:d≤3) (hm:m≤30) (hu:u.length≤500000000) (hv:v.length≤500000000):Cc (Ae c n j u++Ae d m k v)=[Ae c n j u,Ae d m k v]:=by
 have:=Li (ts:=[⟨c,n,j,u⟩,⟨d,m,k,v⟩]) (fun t ht=>by
  rcases List.mem_cons.1 ht with rfl|ht
  ·exact⟨hc,hn,by show u.length≤_;omega⟩
  ·rw[List.mem_singleton.1 ht];exact⟨hd,hm,by show v.length≤_;omega⟩)
 rw[Br,Br] at this
 show Cc (Tv.enc ⟨c,n,j,u⟩++Tv.enc ⟨d,m,k,v⟩)=_
 have e:Bu ([]:List Tv)=[]:=rfl
 rw[e,List.append_nil] at this
 exact this
theorem yW {c n:Nat} {j:Bool} {u:List UInt8} (hc:c≤3) (hn:n≤30) (hu:u.length≤500000000):Cc (Ae c n j u)=[Ae c n j u]:=by
 have:=Li (ts:=[⟨c,n,j,u⟩]) (fun t ht=>by
  rw[List.mem_singleton.1 ht];exact⟨hc,hn,by show u.length≤_;omega⟩)
 rw[Br] at this
 have e:Bu ([]:List Tv)=[]:=rfl
 rw[e,List.append_nil] at this
 exact this
theorem uY {oid by':List UInt8} (h:Ft oid=true) (hl:oid.length≤3000000) (hb:by'.length≤3000000):Kl 0 (Ae 0 6 false (Bj oid)++Ae 2 0 true by')=(⟨0,oid,[],by',[],0,[],0,[]⟩,true):=by
 have k1:=H4 oid
 unfold Kl
 rw[fJ (by omega) (by omega) (by omega) (by omega) (by omega) (by omega)]
 show So 0 _ _=_
 obtain⟨t,ht⟩:∃t:Tv,t=⟨0,6,false,Bj oid⟩:=⟨_,rfl⟩
 have hOk:t.ok:=by subst ht;exact⟨by show(0:Nat)≤3;omega,by show 6≤30;omega,by show(Bj oid).length≤_;omega⟩
 have he:Ae 0 6 false (Bj oid)=t.enc:=by subst ht;rfl
 have hv:t.v=Bj oid:=by subst ht;rfl
 have hi:(t.el 0).isB 0 6 false=true:=by subst ht;rfl
 have hin:=Gu (n:=0) (v:=by') (by omega) (by omega)
 obtain⟨e1,e2⟩:=bR h
 unfold So
 rw[he,Fw hOk]
 simp only
 rw[hi,if_neg (by simp)]
 have hd:t.enc.drop (t.el 0).body=Bj oid:=by
  show t.enc.drop (0+t.hd)=_
  rw[Nat.zero_add,t.body,hv]
 rw[hd,e1,e2,hin,D2 hin]
 rfl
theorem uZ {c:List UInt8} (_:c.length≤800000) (h:(Kl 0 c).2=true):∃oid by':List UInt8,Kl 0 c=(⟨0,oid,[],by',[],0,[],0,[]⟩,true)∧Ft oid=true∧c=Ae 0 6 false (Bj oid)++Ae 2 0 true by':=by
 unfold Kl at h⊢
 by_cases hn:Cc c=[]
 ·rw[hn] at h;cases h
 obtain⟨ts,t1,t2,t3⟩:=Rv hn
 match hs:Cc c with
 |[]=>exact absurd hs hn
 |[x]=>rw[hs] at h;cases h
 |x::y::z::r=>rw[hs] at h;cases h
 |[p,q]=>
  rw[hs] at h t3
  have h:(So 0 p q).2=true:=h
  show∃oid by',So 0 p q=_∧_
  obtain⟨x,y,rfl⟩:∃x y,ts=[x,y]:=by
   match ts,congrArg List.length t3 with
   |[x,y],_=>exact⟨x,y,rfl⟩
  simp only[List.map_cons,List.map_nil,List.cons.injEq,and_true] at t3
  obtain⟨rfl,rfl⟩:=t3
  have x1:=t1 x (by simp)
  have y1:=t1 y (by simp)
  unfold So at h⊢
  rw[Fw x1] at h⊢
  simp only at h⊢
  by_cases hc:(0:Nat)≠0∨(x.el 0).isB 0 6 false=false
  ·rw[if_pos hc] at h;cases h
  rw[if_neg hc] at h⊢
  have hd:x.enc.drop (x.el 0).body=x.v:=by
   show x.enc.drop (0+x.hd)=_
   rw[Nat.zero_add,x.body]
  rw[hd] at h⊢
  simp only[Bool.and_eq_true,beq_iff_eq] at h
  obtain⟨h1,h2⟩:=h
  obtain⟨v,hv⟩:=Option.isSome_iff_exists.1 h1
  have hod:odC x.v=0:=by omega
  obtain⟨o1,o2⟩:=bS hod
  have hb:(x.el 0).isB 0 6 false=true:=by
   rw[not_or] at hc;simpa using hc.2
  unfold El.isB Tv.el at hb
  simp only[Bool.and_eq_true,beq_iff_eq] at hb
  refine⟨odT x.v,v,?_,o1,?_⟩
  ·rw[hv,D2 hv,hod];rfl
  ·rw[o2,←Fk hv,t2,Br,Br]
   have e:x.enc=Ae 0 6 false x.v:=by rw[Tv.enc,hb.1.1,hb.2,hb.1.2]
   rw[←e]
   show x.enc++(y.enc++[])=_
   rw[List.append_nil]
theorem fK {K:Int} {V:List UInt8} (ak:Int) (av:List UInt8) (hv:Ah K V=true) (hl:V.length≤3000000):Iv 5 (Ae 2 1 true (txE K V)) ak av=(⟨5,[],[],[],[],ak,av,pK (txE K V),pV (txE K V)⟩,fiB K V):=by
 have h4:=G6 hv hl
 have hin:=Gu (n:=1) (v:=txE K V) (by omega) (by omega)
 unfold Iv
 rw[hin,D2 hin]
 have:D9 (txE K V)=fiB K V:=by
  cases hf:fiB K V
  ·exact qD hv hf (by omega)
  ·exact(Vw hf (by omega)).1
 rw[this];rfl
theorem Nv {k:Int} {l:List UInt8} (h:fiB k l=true):Ah k l=true:=by
 unfold fiB at h;rw[Bool.and_eq_true] at h;exact h.1
theorem fL {g:Gn} {c:List UInt8} (hk:g.k=5) (hc:Sp g=some c) (ha:g.av.length≤3000000) (hp:g.pv.length≤3000000):(H8 5 c).2=((zT g.ak g.av||fiB g.ak g.av)&&fiB g.pk g.pv)∧(((zT g.ak g.av||fiB g.ak g.av)&&fiB g.pk g.pv)=true→H8 5 c=(⟨5,[],[],[],[],g.ak,g.av,g.pk,g.pv⟩,true)):=by
 obtain⟨k,oid,tx,by',nm,ak,av,pk,pv⟩:=g
 unfold Sp at hc
 simp only at hk hc ha hp⊢
 by_cases hh:((zT ak av||Ah ak av)&&Ah pk pv)=true
 ·rw[if_pos hh] at hc
  rw[Bool.and_eq_true] at hh
  obtain⟨h1,h2⟩:=hh
  have hl2:=G6 h2 hp
  obtain rfl:=Option.some.inj hc
  have fin:fiB pk pv=true→(⟨5,[],[],[],[],ak,av,pK (txE pk pv),pV (txE pk pv)⟩:Gn)=⟨5,[],[],[],[],ak,av,pk,pv⟩:=fun h=>by
   obtain⟨-,q1,q2⟩:=Vw h (by omega)
   rw[q1,q2]
  cases hz:zT ak av
  ·rw[hz,Bool.false_or] at h1
   have hl1:=G6 h1 ha
   rw[if_neg (by simp),Bool.false_or]
   unfold H8
   rw[fJ (by omega) (by omega) (by omega) (by omega) (by omega) (by omega)]
   have hin:=Gu (n:=0) (v:=txE ak av) (by omega) (by omega)
   show(if(Av (Ae 2 0 true (txE ak av)) 0).isSome&&D9 (inn (Ae 2 0 true (txE ak av)) 0) then Iv 5 (Ae 2 1 true (txE pk pv)) (pK (inn (Ae 2 0 true (txE ak av)) 0)) (pV (inn (Ae 2 0 true (txE ak av)) 0)) else(gz,false)).2=_∧(_→(if(Av (Ae 2 0 true (txE ak av)) 0).isSome&&D9 (inn (Ae 2 0 true (txE ak av)) 0) then Iv 5 (Ae 2 1 true (txE pk pv)) (pK (inn (Ae 2 0 true (txE ak av)) 0)) (pV (inn (Ae 2 0 true (txE ak av)) 0)) else(gz,false))=_)
   rw[hin,D2 hin]
   cases hf:fiB ak av
   ·rw[qD h1 hf (by omega),if_neg (by simp)]
    exact⟨rfl,fun h=>by cases h⟩
   ·obtain⟨d1,d2,d3⟩:=Vw hf (by omega)
    rw[d1,d2,d3,if_pos (by rfl),fK _ _ h2 hp]
    exact⟨rfl,fun h=>by
     have h:fiB pk pv=true:=h
     rw[fin h,h]⟩
  ·obtain⟨z1,z2⟩:=Vx.1 hz
   subst z1 z2
   rw[if_pos rfl,Bool.true_or,List.nil_append]
   unfold H8
   rw[yW (by omega) (by omega) (by omega)]
   show(Iv 5 _ 0 []).2=_∧(_→Iv 5 _ 0 []=_)
   rw[fK _ _ h2 hp]
   exact⟨rfl,fun h=>by
    have h:fiB pk pv=true:=h
    rw[fin h,h]⟩
 ·rw[if_neg hh] at hc;cases hc
theorem Y0 {q:List UInt8} {ak:Int} {av:List UInt8} (h:(Iv 5 q ak av).2=true):∃(K:Int) (V:List UInt8),Iv 5 q ak av=(⟨5,[],[],[],[],ak,av,K,V⟩,true)∧fiB K V=true∧q=Ae 2 1 true (txE K V):=by
 unfold Iv at h⊢
 simp only[Bool.and_eq_true] at h
 obtain⟨v,hv⟩:=Option.isSome_iff_exists.1 h.1
 have hd:=h.2
 rw[D2 hv] at hd
 obtain⟨d1,d2⟩:=fI hd
 refine⟨pK v,pV v,?_,d1,by rw[←d2];exact Fk hv⟩
 rw[hv,D2 hv,hd];rfl
theorem vA {c:List UInt8} (h:(H8 5 c).2=true):∃g:Gn,H8 5 c=(g,true)∧g=⟨5,[],[],[],[],g.ak,g.av,g.pk,g.pv⟩∧Sp g=some c∧((zT g.ak g.av||fiB g.ak g.av)&&fiB g.pk g.pv)=true:=by
 unfold H8 at h⊢
 by_cases hn:Cc c=[]
 ·rw[hn] at h;cases h
 obtain⟨ts,t1,t2,t3⟩:=Rv hn
 have hfl:c=(Cc c).flatten:=by rw[t3,←Dn];exact t2
 match hs:Cc c with
 |[]=>exact absurd hs hn
 |x::y::z::r=>rw[hs] at h;cases h
 |[q]=>
  rw[hs] at h hfl
  have h:(Iv 5 q 0 []).2=true:=h
  obtain⟨K,V,e1,e2,e3⟩:=Y0 h
  refine⟨⟨5,[],[],[],[],0,[],K,V⟩,e1,rfl,?_,by rw[e2];rfl⟩
  unfold Sp
  have e4:=Nv e2
  rw[show((zT 0 []||Ah 0 [])&&Ah K V)=true by rw[e4];rfl,if_pos rfl]
  have e5:zT 0 []=true:=rfl
  simp only
  rw[e5,if_pos rfl,List.nil_append,←e3,hfl];simp
 |[p,q]=>
  rw[hs] at h hfl
  have h:(if(Av p 0).isSome&&D9 (inn p 0) then Iv 5 q (pK (inn p 0)) (pV (inn p 0)) else(gz,false)).2=true:=h
  show∃g:Gn,(if(Av p 0).isSome&&D9 (inn p 0) then Iv 5 q (pK (inn p 0)) (pV (inn p 0)) else(gz,false))=(g,true)∧_
  by_cases hc:((Av p 0).isSome&&D9 (inn p 0))=true
  ·rw[if_pos hc] at h⊢
   rw[Bool.and_eq_true] at hc
   obtain⟨v,hv⟩:=Option.isSome_iff_exists.1 hc.1
   have hd:=hc.2
   rw[D2 hv] at hd h⊢
   obtain⟨d1,d2⟩:=fI hd
   obtain⟨K,V,e1,e2,e3⟩:=Y0 h
   refine⟨⟨5,[],[],[],[],pK v,pV v,K,V⟩,e1,rfl,?_,by rw[e2,d1];simp⟩
   have e4:=Nv e2
   have e5:=Nv d1
   have e6:zT (pK v) (pV v)=false:=by
    cases hz:zT (pK v) (pV v) with
    |false=>rfl
    |true=>
     obtain⟨z1,z2⟩:=Vx.1 hz
     rw[z1] at e5
     obtain⟨m,m1,m2,m3⟩:=Rh e5
     omega
   unfold Sp
   simp only
   rw[e4,e5,e6]
   show some (Ae 2 0 true (txE (pK v) (pV v))++Ae 2 1 true (txE K V))=some c
   rw[←d2,←Fk hv,←e3,hfl];simp
  ·rw[if_neg hc] at h;cases h
theorem C7 (g:Gn):Fj g=true↔(g.k=0∨g.k=8∨g.oid=[])∧(g.k=1∨g.k=2∨g.k=6∨g.tx=[])∧(g.k=0∨g.k=3∨g.k=7∨g.by'=[])∧(g.k=4∨g.nm=[])∧(g.k=5∨(g.ak=0∧g.av=[])∧(g.pk=0∧g.pv=[])):=by
 unfold Fj alB
 simp only[Bool.and_eq_true,Bool.or_eq_true,beq_iff_eq,Vx]
 have l0:∀{α:Type} (l:List α),((l.length:Int)=0↔l=[]):=fun l=>⟨fun h=>List.eq_nil_of_length_eq_zero (by omega),fun h=>by rw[h];rfl⟩
 rw[l0,l0]
 constructor
 ·rintro⟨h1,h2,h3,h4,h5⟩
  refine⟨?_,?_,?_,h4,h5⟩
  ·rcases h1 with(h|h)|h<;>simp[h]
  ·rcases h2 with(h|h|h)|h<;>simp[h]
  ·rcases h3 with(h|h|h)|h<;>simp[h]
 ·rintro⟨h1,h2,h3,h4,h5⟩
  refine⟨?_,?_,?_,h4,h5⟩
  ·rcases h1 with h|h|h<;>simp[h]
  ·rcases h2 with h|h|h|h<;>simp[h]
  ·rcases h3 with h|h|h|h<;>simp[h]
theorem vB {g:Gn} {n:Nat} {c:List UInt8} (hk:g.k=n) (ha:Fj g=true) (hc:Eb g=some c) (hp:F3 g=true) (hs:g.sm):rdP n c=(g,true):=by
 obtain⟨k,oid,tx,by',nm,ak,av,pk,pv⟩:=g
 obtain⟨s1,s2,s3,s4,s5,s6⟩:=hs
 simp only at hk s1 s2 s3 s4 s5 s6
 subst hk
 rw[C7] at ha
 obtain⟨a1,a2,a3,a4,a5⟩:=ha
 simp only at a1 a2 a3 a4 a5
 unfold Eb at hc
 simp only at hc
 rcases(by
  obtain⟨m,hm,e⟩:=Nu (g:=⟨(n:Int),oid,tx,by',nm,ak,av,pk,pv⟩) (c:=c) hc
  simp only at e
  omega:n=0∨n=1∨n=2∨n=3∨n=4∨n=5∨n=6∨n=7∨n=8) with rfl|rfl|rfl|rfl|rfl|rfl|rfl|rfl|rfl
 ·obtain rfl:tx=[]:=by simpa using a2
  obtain rfl:nm=[]:=by simpa using a4
  obtain⟨⟨rfl,rfl⟩,rfl,rfl⟩:(ak=0∧av=[])∧pk=0∧pv=[]:=by simpa using a5
  rw[if_pos (by rfl)] at hc
  by_cases ho:Ft oid=true
  ·rw[if_pos ho] at hc
   obtain rfl:=Option.some.inj hc
   exact uY ho s1 s3
  ·rw[if_neg ho] at hc;cases hc
 ·obtain rfl:oid=[]:=by simpa using a1
  obtain rfl:by'=[]:=by simpa using a3
  obtain rfl:nm=[]:=by simpa using a4
  obtain⟨⟨rfl,rfl⟩,rfl,rfl⟩:(ak=0∧av=[])∧pk=0∧pv=[]:=by simpa using a5
  rw[if_neg (by decide),if_pos (by decide)] at hc
  by_cases ho:Ah 22 tx=true
  ·rw[if_pos ho] at hc
   obtain rfl:=Option.some.inj hc
   obtain⟨-,e2,e3⟩:=Rt ho
   show((⟨1,[],C9 22 (chS 22 tx),[],[],0,[],0,[]⟩:Gn),Dw 22 (chS 22 tx)==0)=_
   rw[e2,e3];rfl
  ·rw[if_neg ho] at hc;cases hc
 ·obtain rfl:oid=[]:=by simpa using a1
  obtain rfl:by'=[]:=by simpa using a3
  obtain rfl:nm=[]:=by simpa using a4
  obtain⟨⟨rfl,rfl⟩,rfl,rfl⟩:(ak=0∧av=[])∧pk=0∧pv=[]:=by simpa using a5
  rw[if_neg (by decide),if_pos (by decide)] at hc
  by_cases ho:Ah 22 tx=true
  ·rw[if_pos ho] at hc
   obtain rfl:=Option.some.inj hc
   obtain⟨-,e2,e3⟩:=Rt ho
   show((⟨2,[],C9 22 (chS 22 tx),[],[],0,[],0,[]⟩:Gn),Dw 22 (chS 22 tx)==0)=_
   rw[e2,e3];rfl
  ·rw[if_neg ho] at hc;cases hc
 ·obtain rfl:oid=[]:=by simpa using a1
  obtain rfl:tx=[]:=by simpa using a2
  obtain rfl:nm=[]:=by simpa using a4
  obtain⟨⟨rfl,rfl⟩,rfl,rfl⟩:(ak=0∧av=[])∧pk=0∧pv=[]:=by simpa using a5
  rw[if_neg (by decide),if_neg (by decide),if_pos (by decide)] at hc
  obtain rfl:=Option.some.inj hc
  rfl
 ·obtain rfl:oid=[]:=by simpa using a1
  obtain rfl:tx=[]:=by simpa using a2
  obtain rfl:by'=[]:=by simpa using a3
  obtain⟨⟨rfl,rfl⟩,rfl,rfl⟩:(ak=0∧av=[])∧pk=0∧pv=[]:=by simpa using a5
  rw[if_neg (by decide),if_neg (by decide),if_neg (by decide),if_pos (by rfl)] at hc
  by_cases ho:nmV nm=true
  ·rw[if_pos ho] at hc
   obtain rfl:=Option.some.inj hc
   have:=uV ho s4
   show Mn 4 (nmE nm)=_
   unfold Mn
   generalize nmR (nmE nm)=q at this
   obtain⟨o,cc,p⟩:=q
   simp only at this
   subst this
   rfl
  ·rw[if_neg ho] at hc;cases hc
 ·obtain rfl:oid=[]:=by simpa using a1
  obtain rfl:tx=[]:=by simpa using a2
  obtain rfl:by'=[]:=by simpa using a3
  obtain rfl:nm=[]:=by simpa using a4
  rw[if_neg (by decide),if_neg (by decide),if_neg (by decide),if_neg (by decide),if_pos (by rfl)] at hc
  exact(fL (g:=⟨((5:Nat):Int),[],[],[],[],ak,av,pk,pv⟩) rfl hc s5 s6).2 hp
 ·obtain rfl:oid=[]:=by simpa using a1
  obtain rfl:by'=[]:=by simpa using a3
  obtain rfl:nm=[]:=by simpa using a4
  obtain⟨⟨rfl,rfl⟩,rfl,rfl⟩:(ak=0∧av=[])∧pk=0∧pv=[]:=by simpa using a5
  rw[if_neg (by decide),if_pos (by decide)] at hc
  by_cases ho:Ah 22 tx=true
  ·rw[if_pos ho] at hc
   obtain rfl:=Option.some.inj hc
   obtain⟨-,e2,e3⟩:=Rt ho
   show((⟨6,[],C9 22 (chS 22 tx),[],[],0,[],0,[]⟩:Gn),Dw 22 (chS 22 tx)==0)=_
   rw[e2,e3];rfl
  ·rw[if_neg ho] at hc;cases hc
 ·obtain rfl:oid=[]:=by simpa using a1
  obtain rfl:tx=[]:=by simpa using a2
  obtain rfl:nm=[]:=by simpa using a4
  obtain⟨⟨rfl,rfl⟩,rfl,rfl⟩:(ak=0∧av=[])∧pk=0∧pv=[]:=by simpa using a5
  rw[if_neg (by decide),if_neg (by decide),if_pos (by decide)] at hc
  obtain rfl:=Option.some.inj hc
  rfl
 ·obtain rfl:tx=[]:=by simpa using a2
  obtain rfl:by'=[]:=by simpa using a3
  obtain rfl:nm=[]:=by simpa using a4
  obtain⟨⟨rfl,rfl⟩,rfl,rfl⟩:(ak=0∧av=[])∧pk=0∧pv=[]:=by simpa using a5
  rw[if_neg (by decide),if_neg (by decide),if_neg (by decide),if_neg (by decide),if_neg (by decide),if_pos (by rfl)] at hc
  by_cases ho:Ft oid=true
  ·rw[if_pos ho] at hc
   obtain rfl:=Option.some.inj hc
   obtain⟨e1,e2⟩:=bR ho
   show((⟨8,odT (Bj oid),[],[],[],0,[],0,[]⟩:Gn),(odC (Bj oid):Int)==0)=_
   rw[e1,e2];rfl
  ·rw[if_neg ho] at hc;cases hc
theorem vC {n:Nat} {c:List UInt8} (hn:n≤8) (hl:c.length≤800000) (h:(rdP n c).2=true):(rdP n c).1.k=n∧Fj (rdP n c).1=true∧Eb (rdP n c).1=some c∧F3 (rdP n c).1=true:=by
 rcases(by omega:n=0∨n=1∨n=2∨n=3∨n=4∨n=5∨n=6∨n=7∨n=8) with rfl|rfl|rfl|rfl|rfl|rfl|rfl|rfl|rfl
 ·obtain⟨oid,by',e1,e2,e3⟩:=uZ hl (show(Kl 0 c).2=true from h)
  show(Kl 0 c).1.k=_∧Fj (Kl 0 c).1=true∧Eb (Kl 0 c).1=some c∧F3 (Kl 0 c).1=true
  rw[e1]
  refine⟨rfl,by rw[C7];simp,?_,rfl⟩
  unfold Eb
  rw[if_pos rfl]
  simp only
  rw[if_pos e2,e3]
 ·have hd:Dw 22 c=0:=by simpa[rdP] using h
  obtain⟨-,i2,i3⟩:=Vt hd
  refine⟨rfl,by rw[C7];simp[rdP],?_,rfl⟩
  show(if Ah 22 (C9 22 c)=true then some (chS 22 (C9 22 c)) else none)=_
  rw[if_pos i2,i3]
 ·have hd:Dw 22 c=0:=by simpa[rdP] using h
  obtain⟨-,i2,i3⟩:=Vt hd
  refine⟨rfl,by rw[C7];simp[rdP],?_,rfl⟩
  show(if Ah 22 (C9 22 c)=true then some (chS 22 (C9 22 c)) else none)=_
  rw[if_pos i2,i3]
 ·exact⟨rfl,by rw[C7];simp[rdP],rfl,rfl⟩
 ·have h':(Mn 4 c).2=true:=h
  have hi:=fun n hh=>uW (b:=c) (n:=n) hh (by omega)
  show(Mn 4 c).1.k=_∧Fj (Mn 4 c).1=true∧Eb (Mn 4 c).1=some c∧F3 (Mn 4 c).1=true
  unfold Mn at h'⊢
  generalize nmR c=q at h' hi⊢
  obtain⟨o,cc,p⟩:=q
  cases o with
  |none=>cases h'
  |some nm=>
   obtain⟨i1,i2⟩:=hi nm rfl
   refine⟨rfl,by rw[C7];simp,?_,rfl⟩
   show(if nmV nm=true then some (nmE nm) else none)=_
   rw[if_pos i1,←i2]
 ·obtain⟨g,e1,e2,e3,e4⟩:=vA (show(H8 5 c).2=true from h)
  show(H8 5 c).1.k=_∧Fj (H8 5 c).1=true∧Eb (H8 5 c).1=some c∧F3 (H8 5 c).1=true
  rw[e1]
  have hk:g.k=5:=by rw[e2]
  refine⟨hk,by rw[C7,e2];simp,?_,?_⟩
  ·show Eb g=some c
   unfold Eb
   rw[hk,if_neg (by decide),if_neg (by decide),if_neg (by decide),if_neg (by decide),if_pos rfl]
   exact e3
  ·show F3 g=true
   unfold F3;rw[e4];simp
 ·have hd:Dw 22 c=0:=by simpa[rdP] using h
  obtain⟨-,i2,i3⟩:=Vt hd
  refine⟨rfl,by rw[C7];simp[rdP],?_,rfl⟩
  show(if Ah 22 (C9 22 c)=true then some (chS 22 (C9 22 c)) else none)=_
  rw[if_pos i2,i3]
 ·exact⟨rfl,by rw[C7];simp[rdP],rfl,rfl⟩
 ·have hd:odC c=0:=by
   have h:((odC c:Int)==0)=true:=h
   rw[beq_iff_eq] at h;omega
  obtain⟨o1,o2⟩:=bS hd
  refine⟨rfl,by rw[C7];simp[rdP],?_,rfl⟩
  show(if Ft (odT c)=true then some (Bj (odT c)) else none)=_
  rw[if_pos o1,o2]
theorem Mq (g:Gn):gnW g=true↔Fj g=true∧Ro g=true∧(∃c,Eb g=some c)∧F3 g=true:=by
 unfold gnW
 simp only[Bool.and_eq_true,Option.isSome_iff_exists]
theorem Y1 {g:Gn} (h:gnW g=true) (hs:g.mid):I5 (gnE g)=some g:=by
 obtain⟨h1,h2,⟨c,h3⟩,h4⟩:=(Mq g).1 h
 obtain⟨n,hn,hk⟩:=Nu h3
 have hl:=hs.c
 rw[h3] at hl
 have hl:c.length≤700000:=hl
 have e:gnE g=Ae 2 n (Cs n) c:=by unfold gnE;rw[h3,hk];rfl
 have hr:=vB hk h1 h3 h4 hs.s
 rw[e,Yz hn (by omega),hr]
 have:okP (g,true)=true:=by unfold okP;rw[h2];rfl
 rw[if_pos this]
theorem qF {b:List UInt8} {g:Gn} (h:I5 b=some g) (hl:b.length≤800000):gnW g=true∧b=gnE g:=by
 obtain⟨n,c,hn,hc,hb,ho,rfl⟩:=qE h
 unfold okP at ho
 rw[Bool.and_eq_true] at ho
 obtain⟨i1,i2,i3,i4⟩:=vC hn (by omega) ho.1
 refine⟨(Mq _).2 ⟨i2,ho.2,⟨c,i3⟩,i4⟩,?_⟩
 unfold gnE
 rw[i1,i3];exact hb
theorem yX {g:Gn} (hs:g.mid):Sq g=gnW g:=by
 cases hw:gnW g
 ·cases hv:Sq g with
  |false=>rfl
  |true=>
   exfalso
   unfold Sq at hv
   simp only[Bool.and_eq_true] at hv
   obtain⟨v1,v2,v3,v4⟩:=hv
   obtain⟨c,h3⟩:=Option.isSome_iff_exists.1 v3
   obtain⟨n,hn,hk⟩:=Nu h3
   have hp:F3 g=false:=by
    unfold gnW at hw;rw[v1,v2,v3] at hw;exact hw
   have h5:g.k=5:=by
    unfold F3 at hp
    simp only[Bool.or_eq_false_iff,Bool.not_eq_false',beq_iff_eq] at hp
    exact hp.1
   have hl:=hs.c
   rw[h3] at hl
   have hl:c.length≤700000:=hl
   have e:gnE g=Ae 2 5 (Cs (5:Nat)) c:=by unfold gnE;rw[h3,h5];rfl
   have hc:Sp g=some c:=by
    unfold Eb at h3
    rw[h5,if_neg (by decide),if_neg (by decide),if_neg (by decide),if_neg (by decide),if_pos rfl] at h3
    exact h3
   have hq:=(fL h5 hc hs.s.a hs.s.p).1
   have:((zT g.ak g.av||fiB g.ak g.av)&&fiB g.pk g.pv)=false:=by
    unfold F3 at hp;rw[h5] at hp;exact hp
   rw[this] at hq
   rw[e,Yz (by omega) (by omega)] at v4
   have ho:okP (rdP 5 c)=false:=by
    show((H8 5 c).2&&Ro (H8 5 c).1)=false
    rw[hq];rfl
   rw[ho] at v4;cases v4
 ·obtain⟨h1,h2,⟨c,h3⟩,h4⟩:=(Mq g).1 hw
  unfold Sq
  rw[Y1 hw hs,h1,h2,h3];rfl
end Go.Proofs.YtgpaehhbdbgeaaaGreatDoor
