/- MP: the texts GenM GenR DnP GenL GenX GenY, one behind the other. No condition but what each lemma says. -/
import Derived.Test.YtjakkpcpommojaaGreatDoorMO
import Derived.Test.YtjakkpcpommojaaGreatDoorMM
import Derived.Test.YtjakkpcpommojaaGreatDoorGEncPlain
set_option maxRecDepth 100000
set_option maxHeartbeats 16000000
namespace Go.Proofs.YtjakkpcpommojaaGreatDoor
open Go.RowKit
def rdP (n:Nat) (c:List UInt8):Gn×Bool:=match n with
 |0=>M8 0 c
 |1=>(⟨1,[],Eo 22 c,[],[],0,[],0,[]⟩,Fi 22 c==0)
 |2=>(⟨2,[],Eo 22 c,[],[],0,[],0,[]⟩,Fi 22 c==0)
 |3=>(⟨3,[],[],c,[],0,[],0,[]⟩,true)
 |4=>Pl 4 c
 |5=>Kg 5 c
 |6=>(⟨6,[],Eo 22 c,[],[],0,[],0,[]⟩,Fi 22 c==0)
 |7=>(⟨7,[],[],c,[],0,[],0,[]⟩,true)
 |8=>(⟨8,odT c,[],[],[],0,[],0,[]⟩,(odC c:Int)==0)
 |_=>(gz,false)
def Pn (x:El):Bool:=x.c==2&&(decide (x.n≤8)&&(x.k==Dw x.n))
def okP (p:Gn×Bool):Bool:=p.2&&Rz p.1
def Uv (b:List UInt8) (r:ElR):Option Gn:=if r.code≠0 then none else if Pn r.x=false then none else if okP (rdP r.x.n ((b.drop r.x.body).take (r.x.stop-r.x.body)))=true then some (rdP r.x.n ((b.drop r.x.body).take (r.x.stop-r.x.body))).1 else none
def Le (b:List UInt8):Option Gn:=Uv b (A8 b)
def Z3 (r:ElR):Nat×Nat:=if r.code≠0 then(r.code,r.off) else if Pn r.x=false then(3,0) else(6,r.x.body)
def Uw (b:List UInt8):Nat×Nat:=Z3 (A8 b)
theorem Ux {b:List UInt8} {x:El} (h:Pn x=false):Uv b ⟨x,0,0⟩=none∧Z3 ⟨x,0,0⟩=(3,0):=by
 refine⟨?_,?_⟩
 ·unfold Uv;rw[if_neg (by simp),if_pos h]
 ·unfold Z3;rw[if_neg (by simp),if_pos h]
theorem nB {b:List UInt8} {x:El} (h:Pn x=true) (h2:okP (rdP x.n ((b.drop x.body).take (x.stop-x.body)))=false):Uv b ⟨x,0,0⟩=none∧Z3 ⟨x,0,0⟩=(6,x.body):=by
 refine⟨?_,?_⟩
 ·unfold Uv;simp only;rw[if_neg (by simp),if_neg (by rw[h];simp),if_neg (by rw[h2];simp)]
 ·unfold Z3;rw[if_neg (by simp),if_neg (by rw[h];simp)]
theorem eG {b:List UInt8} {x:El} (h:Pn x=true) (h2:okP (rdP x.n ((b.drop x.body).take (x.stop-x.body)))=true):Uv b ⟨x,0,0⟩=some (rdP x.n ((b.drop x.body).take (x.stop-x.body))).1:=by
 unfold Uv;simp only;rw[if_neg (by simp),if_neg (by rw[h];simp),if_pos h2]
def gnR (o:Option Gn) (e:Nat×Nat):AV:=match o with
 |some g=> .tup [gnQ g,erA 0 0]
 |none=> .tup [gnQ gz,erA e.1 e.2]
theorem Z4 (b:List UInt8):(Uw b).1≠0∧(Uw b).2≤b.length:=by
 have hF:=Dm b
 unfold Uw Z3
 by_cases h1:(A8 b).code≠0
 ·rw[if_pos h1];exact⟨h1,hF.2.2.1⟩
 rw[if_neg h1]
 split
 ·exact⟨by simp,Nat.zero_le _⟩
 ·have:=hF.1 (Decidable.not_not.1 h1)
  exact⟨by simp,by show(A8 b).x.body≤_;omega⟩
theorem DP (k:Int) (c:List UInt8):(M8 k c).1.by'.length≤c.length:=by
 have hm:=fun p=>Oa (c:=c) (p:=p)
 unfold M8
 generalize Dc c=l at hm
 match l with
 |[]=>exact Nat.zero_le _
 |[x]=>exact Nat.zero_le _
 |x::y::z::r=>exact Nat.zero_le _
 |[p,q]=>
  show(Wa k p q).1.by'.length≤_
  unfold Wa
  split
  ·exact Nat.zero_le _
  ·have:=hm q (by simp)
   have:=Pm q 0
   show(inn q 0).length≤_
   omega
theorem DQ (k:Int) (c:List UInt8):(Kg k c).1.by'=[]:=by
 unfold Kg
 match Dc c with
 |[]=>rfl
 |[q]=>rfl
 |x::y::z::r=>rfl
 |[p,q]=>
  show(if(Bn p 0).isSome&&Fx (inn p 0) then Kv k q (pK (inn p 0)) (pV (inn p 0)) else(gz,false)).1.by'=[]
  split<;>rfl
theorem DR (k:Int) (c:List UInt8):(Pl k c).1.by'=[]:=by
 unfold Pl;split<;>rfl
theorem xV {C:Cx} {o:Oper} {σ:AS} {t:Nat} {x y:Operand} {k:Int} (h:rdF k=none) (ho:o.op= .lookup 162 x y true) (hd:o.dst=some t) (ht:t<C.N) (hx:σ.eval x=some rdA) (hy:σ.eval y=some (iv k)):
 LA Tryz.prog C o ⟨[],some (t,.tup [.d (.v .nilFunc),bv false]),none,none,[],[],[],[]⟩ σ:=by
 have:=H8 ho hd ht hx hy
 unfold fnA at this
 rwa[h] at this
def MP:Nat→FuncId
 |0=>154
 |3=>156
 |4=>157
 |5=>158
 |7=>156
 |8=>159
 |_=>155
theorem DS {n:Nat} (hn:n≤8) (c:List UInt8) (hl:c.length≤800000):Ab Tryz.prog (MP n) [ptA n c] (fun r=>r=gbA (rdP n c))∧(rdP n c).1.by'.length≤100000000:=by
 have l0:([]:List UInt8).length≤100000000:=by simp
 rcases(by omega:n=0∨n=1∨n=2∨n=3∨n=4∨n=5∨n=6∨n=7∨n=8) with rfl|rfl|rfl|rfl|rfl|rfl|rfl|rfl|rfl
 ·exact⟨xT 0 c hl,by have:=DP 0 c;show(M8 0 _).1.by'.length≤_;omega⟩
 ·exact⟨Qw 1 c (by omega),l0⟩
 ·exact⟨Qw 2 c (by omega),l0⟩
 ·exact⟨Ut 3 c (by omega),by show c.length≤_;omega⟩
 ·exact⟨xS 4 c hl,by show(Pl 4 _).1.by'.length≤_;rw[DR];exact l0⟩
 ·exact⟨xU 5 c hl,by show(Kg 5 _).1.by'.length≤_;rw[DQ];exact l0⟩
 ·exact⟨Qw 6 c (by omega),l0⟩
 ·exact⟨Ut 7 c (by omega),by show c.length≤_;omega⟩
 ·exact⟨eE 8 c (by omega),l0⟩
theorem Fv {p:Prop} (h:p:=by first|rfl|(simp only[AV.gives,AV.ren,AV.give,D.un,D.uns,Aj,Ak,List.nil_append,List.append_nil,List.cons_append,Ap,A0,Bk,A7,Ay,Bj,Bs,Bg,A9];first|done|rfl)):p:=h
theorem xW (b:List UInt8) (hb:b.length≤800000) (x:El) (hx:x.body≤x.stop∧x.stop≤b.length) (hn:x.n≤8) (hO:Ab Tryz.prog 61 [.d (Ag false b)] (fun r=>r=erR ⟨x,0,0⟩)):Ab Tryz.prog 92 [.d (Ag false b)] (fun r=>r=gnR (Uv b ⟨x,0,0⟩) (Z3 ⟨x,0,0⟩)):=by
 obtain⟨c,n,k,p,body,stop⟩:=x
 simp only at hx hn
 have hlc:((b.drop body).take (stop-body)).length≤b.length:=by rw[List.length_take,List.length_drop];omega
 obtain⟨hR,hl⟩:=DS hn ((b.drop body).take (stop-body)) (by omega)
 have gt:Pn ⟨c,n,k,p,body,stop⟩=(c==2&&(true&&(k==Dw n))):=by unfold Pn;rw[decide_eq_true hn]
 obtain⟨con,hcon,hK⟩:∃con:Bool,Dw (n:Int)=con∧Ab Tryz.prog 91 [iv n] (fun r=>r=bv con):=⟨_,rfl,eF n⟩
 rw[hcon] at gt
 rcases(by omega:n=0∨n=1∨n=2∨n=3∨n=4∨n=5∨n=6∨n=7∨n=8) with rfl|rfl|rfl|rfl|rfl|rfl|rfl|rfl|rfl
 all_goals cases con
 all_goals try(exact absurd hcon (by decide))
 all_goals
  clear hn hcon
  cases hc:(c==2)
  ·have e:=Ux (b:=b) (gt.trans (by rw[hc];rfl))
   rw[e.1,e.2]
   have g1:((c:Int) !=2)=true:=by rw[bne_iff_ne];rw[beq_eq_false_iff_ne] at hc;omega
   refine acQ 70 Tryz.func92 rfl rfl fun _ _ _=> ?_
   (repeat'((conv=>whnf);first|refine Ac ?_|refine Ae ?_|refine At asP ?_|refine Aa hO Fv ?_|refine Aa F8 rfl ?_|refine NLa.mk ⟨_,H8 rfl rfl (ltN rfl) rfl rfl,?_⟩|refine zF ?_|exact zE))
  have g1:((c:Int) !=2)=false:=by rw[bne_eq_false_iff_eq];rw[beq_iff_eq] at hc;omega
  cases k
  all_goals try
   have hk:=gt.trans (show _=false by rw[hc];rfl)
   have e:=Ux (b:=b) hk
   rw[e.1,e.2]
   refine acQ 70 Tryz.func92 rfl rfl fun _ _ _=> ?_
   (repeat'((conv=>whnf);first|refine Ac ?_|refine Ae ?_|refine Av asP ?_|refine Aa hO Fv ?_|refine Aa F8 rfl ?_|refine Aa hK rfl ?_|refine NLa.mk ⟨_,H8 rfl rfl (ltN rfl) rfl rfl,?_⟩|refine zF ?_|exact zE))
  have ht:=gt.trans (show _=true by rw[hc];rfl)
  have eN:=nB (b:=b) ht
  have eY:=eG (b:=b) ht
  simp only at eN eY
  generalize rdP _ ((b.drop body).take (stop-body))=q at hR hl eN eY
  obtain⟨g,ok⟩:=q
  simp only at hl eN eY
  have hT:=Xo g hl
  simp only[gbA] at hR
  cases ok
  ·rw[(eN rfl).1,(eN rfl).2]
   refine acQ 70 Tryz.func92 rfl rfl fun _ _ _=> ?_
   (repeat'((conv=>whnf);first|refine Ac ?_|refine Ae ?_|refine Av asP ?_|refine Aa hO Fv ?_|refine Aa F8 rfl ?_|refine Aa hK rfl ?_|refine NSl.slice (body) (stop) ?_|refine Aa hR Fv ?_|refine NLa.mk ⟨_,H8 rfl rfl (ltN rfl) rfl rfl,?_⟩|refine zF ?_|exact zE))
  cases hfi:Rz g
  ·rw[hfi] at hT
   have e:=eN (show(true&&Rz g)=false by rw[hfi];rfl)
   rw[e.1,e.2]
   refine acQ 70 Tryz.func92 rfl rfl fun _ _ _=> ?_
   (repeat'((conv=>whnf);first|refine Ac ?_|refine Ae ?_|refine Av asP ?_|refine Aa hO Fv ?_|refine Aa F8 rfl ?_|refine Aa hK rfl ?_|refine NSl.slice (body) (stop) ?_|refine Aa hR Fv ?_|refine Aa hT Fv ?_|refine NLa.mk ⟨_,H8 rfl rfl (ltN rfl) rfl rfl,?_⟩|refine zF ?_|exact zE))
  ·rw[hfi] at hT
   rw[eY (show(true&&Rz g)=true by rw[hfi];rfl)]
   refine acQ 70 Tryz.func92 rfl rfl fun _ _ _=> ?_
   (repeat'((conv=>whnf);first|refine Ae ?_|refine Av asP ?_|refine Aa hO Fv ?_|refine Aa F8 rfl ?_|refine Aa hK rfl ?_|refine NSl.slice (body) (stop) ?_|refine Aa hR Fv ?_|refine Aa hT Fv ?_|refine NLa.mk ⟨_,H8 rfl rfl (ltN rfl) rfl rfl,?_⟩|refine zF ?_|exact zE))
theorem Uy (b:List UInt8) (hb:b.length≤800000):Ab Tryz.prog 92 [.d (Ag false b)] (fun r=>r=gnR (Le b) (Uw b)):=by
 have hO:=Kp b (by omega)
 have hF:=Dm b
 unfold Le Uw
 generalize A8 b=r at hO hF⊢
 obtain⟨x,c,o⟩:=r
 by_cases h1:c=0
 ·subst h1
  obtain⟨f1,f2,f3,f4,f5⟩:=hF.1 rfl
  simp only at f1 f2 f3 f4 f5
  subst f5
  have hx:x.body≤x.stop∧x.stop≤b.length:=by omega
  by_cases hn:x.n≤8
  ·exact xW b hb x hx hn hO
  ·have gt:Pn x=false:=by unfold Pn;rw[decide_eq_false hn];simp
   have e:=Ux (b:=b) gt
   rw[e.1,e.2]
   obtain⟨c,n,k,p,body,stop⟩:=x
   simp only at hn
   have hr:rdF (n:Int)=none:=by
    unfold rdF
    rw[if_neg (by omega),if_neg (by omega),if_neg (by omega),if_neg (by omega),if_neg (by omega),if_neg (by omega)]
   show Ab _ _ _ (fun r=>r= .tup [gnQ gz,erA 3 0])
   refine acQ 70 Tryz.func92 rfl rfl fun _ _ _=> ?_
   (repeat'((conv=>whnf);first|refine Ac ?_|refine Ae ?_|refine Aa hO Fv ?_|refine Aa F8 rfl ?_|refine NLa.mk ⟨_,xV hr rfl rfl (ltN rfl) rfl rfl,?_⟩|refine zF ?_|exact zE))
 ·have gc:((c:Int) !=0)=true:=by rw[bne_iff_ne];omega
  rw[show Uv b ⟨x,c,o⟩=none by unfold Uv;rw[if_pos h1],show Z3 ⟨x,c,o⟩=(c,o) by unfold Z3;rw[if_pos h1]]
  show Ab _ _ _ (fun r=>r= .tup [gnQ gz,erA c o])
  refine acQ 70 Tryz.func92 rfl rfl fun _ _ _=> ?_
  (repeat'((conv=>whnf);first|refine At asP ?_|refine Aa hO Fv ?_|refine zF ?_|exact zE))
def gnE (g:Gn):List UInt8:=Ah 2 g.k.toNat (Dw g.k) ((D8 g).getD [])
def Wb (g:Gn):Bool:=Cg g&&(Rz g&&((D8 g).isSome&&(Le (gnE g)).isSome))
def L6 (o:Bool) (b:List UInt8):AV:=if o=true then .tup [A4 0 5 b,iv 0] else .tup [Ax,iv 8]
theorem Qx {g:Gn} {c:List UInt8} (h:D8 g=some c):∃n:Nat,n≤8∧g.k=n:=by
 unfold D8 at h
 by_cases h0:g.k=0
 ·exact⟨0,by omega,h0⟩
 rw[if_neg h0] at h
 by_cases h1:g.k=1∨g.k=2∨g.k=6
 ·exact⟨g.k.toNat,by omega,by omega⟩
 rw[if_neg h1] at h
 by_cases h2:g.k=3∨g.k=7
 ·exact⟨g.k.toNat,by omega,by omega⟩
 rw[if_neg h2] at h
 by_cases h3:g.k=4
 ·exact⟨4,by omega,h3⟩
 rw[if_neg h3] at h
 by_cases h4:g.k=5
 ·exact⟨5,by omega,h4⟩
 rw[if_neg h4] at h
 by_cases h5:g.k=8
 ·exact⟨8,by omega,h5⟩
 rw[if_neg h5] at h;cases h
theorem C6 {p:Prop} (h:p:=by first|rfl|(simp only[AV.gives,AV.ren,AV.give,D.un,D.uns,Aj,Ak,List.nil_append,List.append_nil,List.cons_append,Ap,A0,Bk,A7,Ay,Bj,Bs,Bg,A9,Bx,A5];first|done|rfl)):p:=h
theorem kE (g:Gn) (hs:g.sm) (hl:((D8 g).getD []).length≤700000):Ab Tryz.prog 62 [gnA g] (fun r=>r=L6 (Wb g) (gnE g)):=by
 have hA:=rZ g
 have hF:=Xo g (by have:=hs.b;omega)
 have hC:=Z2 g hs
 unfold Wb L6
 cases ha:Cg g
 ·rw[ha] at hA
  show Ab _ _ _ (fun r=>r= .tup [Ax,iv 8])
  refine acQ 48 Tryz.func62 rfl rfl fun _ _ _=> ?_
  (repeat'((conv=>whnf);first|refine Ac ?_|refine Aa hA C6 ?_|exact zE))
 rw[ha] at hA
 cases hf:Rz g
 ·rw[hf] at hF
  show Ab _ _ _ (fun r=>r= .tup [Ax,iv 8])
  refine acQ 48 Tryz.func62 rfl rfl fun _ _ _=> ?_
  (repeat'((conv=>whnf);first|refine Ac ?_|refine Ae ?_|refine Aa hA C6 ?_|refine Aa hF C6 ?_|exact zE))
 rw[hf] at hF
 cases hc:D8 g with
 |none=>
  rw[hc] at hC
  have hC:Ab Tryz.prog 90 [gnA g] (fun r=>r= .tup [.d (Ag false []),iv 8]):=hC
  show Ab _ _ _ (fun r=>r= .tup [Ax,iv 8])
  refine acQ 48 Tryz.func62 rfl rfl fun _ _ _=> ?_
  (repeat'((conv=>whnf);first|refine Ac ?_|refine Ae ?_|refine Aa hA C6 ?_|refine Aa hF C6 ?_|refine Aa hC C6 ?_|exact zE))
 |some c=>
  obtain⟨n,hn,hk⟩:=Qx hc
  rw[hc] at hC hl
  have hC:Ab Tryz.prog 90 [gnA g] (fun r=>r= .tup [.d (Ag false c),iv 0]):=hC
  have hl:c.length≤700000:=hl
  have hK:=eF g.k
  have hW:=Dk 2 n (Dw g.k) c (by omega) (by omega) (by omega)
  have hle:=Aq 2 n (Dw g.k) c (by omega)
  have hP:=Uy (Ah 2 n (Dw g.k) c) (by omega)
  have he:=Z4 (Ah 2 n (Dw g.k) c)
  have e:gnE g=Ah 2 n (Dw g.k) c:=by unfold gnE;rw[hc,hk];rfl
  rw[e]
  generalize Uw (Ah 2 n (Dw g.k) c)=er at hP he
  obtain⟨ec,eo⟩:=er
  simp only at he
  have gc:((ec:Int) !=0)=true:=by rw[bne_iff_ne];omega
  obtain⟨k,oid,tx,by',nm,ak,av,pk,pv⟩:=g
  simp only at hk
  subst hk
  simp only at hK hW hP hle⊢
  generalize Ah 2 n (Dw (n:Int)) c=b at hW hP⊢
  cases ho:Le b with
  |none=>
   rw[ho] at hP
   have hP:Ab Tryz.prog 92 [.d (Ag false b)] (fun r=>r= .tup [gnQ gz,erA ec eo]):=hP
   show Ab _ _ _ (fun r=>r= .tup [Ax,iv 8])
   refine acQ 48 Tryz.func62 rfl rfl fun _ _ _=> ?_
   (repeat'((conv=>whnf);first|refine Ae ?_|refine At asP ?_|refine Aa hA C6 ?_|refine Aa hF C6 ?_|refine Aa hC C6 ?_|refine Aa hK rfl ?_|refine Aa hW C6 ?_|refine Aa hP C6 ?_|refine zF ?_|exact zE))
  |some v=>
   rw[ho] at hP
   have hP:Ab Tryz.prog 92 [.d (Ag false b)] (fun r=>r= .tup [gnQ v,erA 0 0]):=hP
   show Ab _ _ _ (fun r=>r= .tup [A4 0 5 b,iv 0])
   refine acQ 48 Tryz.func62 rfl rfl fun _ _ _=> ?_
   (repeat'((conv=>whnf);first|refine Ae ?_|refine Aa hA C6 ?_|refine Aa hF C6 ?_|refine Aa hC C6 ?_|refine Aa hK rfl ?_|refine Aa hW C6 ?_|refine Aa hP C6 ?_|refine zF ?_|exact zE))
structure Gn.mid (g:Gn):Prop where
 s:g.sm
 c:((D8 g).getD []).length≤700000
def Z5 (l:List Gn):Bool:= !l.isEmpty&&l.all Wb
def R0 (l:List Gn):List UInt8:=Ah 0 16 true (l.map gnE).flatten
structure gnsM (l:List Gn):Prop where
 n:l.length≤1000000
 m:∀g∈l,g.mid
 e:(l.map gnE).flatten.length≤800000000
theorem Rs (l:List Gn) (hz:gnsM l):Ab Tryz.prog 36 [.d (E4 l)] (fun r=>r=L6 (Z5 l) (R0 l)):=by
 obtain⟨hl,hs,hq⟩:=hz
 have hS:=Mm (l.map gnE) (by omega) (by rw[List.length_map];omega)
 refine acQ 35 Tryz.func36 rfl rfl fun _ _ _=> ?_
 (all_goals(conv=>whnf))
 refine Ba [.s 4 1 29] (fun i:Nat=>i≤l.length∧(l.take i).all Wb=true) (fun i=>l.length-i) (fun i=>⟨[(4,Bx 4 1 29 Ct ((l.take i).map gnE)),(9,.d (E4 l)),(10,iv l.length),(11,iv i)],[],[(4,(((l.take i).map gnE).length,1,29))]⟩) 0 ⟨by omega,rfl⟩ leQ ?_
 rintro i ⟨hi,ha⟩
 have hml:((l.take i).map gnE).length≤1000000:=by rw[List.length_map,List.length_take];omega
 by_cases hik:i<l.length
 ·have gi:decide ((i:Int)<l.length)=true:=decide_eq_true (by omega)
  obtain⟨x,hg⟩:∃p,l[i]?=some p:=⟨_,List.getElem?_eq_getElem hik⟩
  have hm:=hs x (List.mem_of_getElem? hg)
  have hM:=kE x hm.s hm.c
  unfold L6 at hM
  cases hv:Wb x
  ·rw[hv,if_neg (by simp)] at hM
   rw[show L6 (Z5 l) (R0 l)= .tup [Ax,iv 8] by unfold L6 Z5;rw[Zy hg hv,Bool.and_false,if_neg (by simp)]]
   (repeat'((conv=>whnf);first|refine Ac ?_|refine At asP ?_|refine NIdx.tab (fun _=>rfl) hg ?_|refine Aa hM C6 ?_|exact zE))
  ·rw[hv,if_pos rfl] at hM
   have hs':=Hp gnE hg
   (repeat'((conv=>whnf);first|refine Ae ?_|refine At asP ?_|refine NIdx.tab (fun _=>rfl) hg ?_|refine Aa hM C6 ?_|refine A3 Ct (gnE x) ?_|(with_reducible refine NInt.i64 ?_)));(all_goals(conv=>whnf))
   refine⟨i+1,⟨by omega,Gb Wb hg hv ha⟩,by omega,?_⟩
   rw[hs']
   exact leQ
 ·have gi:decide ((i:Int)<l.length)=false:=decide_eq_false (by omega)
  obtain rfl:i=l.length:=by omega
  rw[List.take_length] at ha⊢
  by_cases h0:l=[]
  ·subst h0
   (repeat'((conv=>whnf);first|refine Ac ?_|refine Ae ?_|exact zE))
  ·have gj:(((l.map gnE).length:Int)==0)=false:=by rw[beq_eq_false_iff_ne,List.length_map];intro h;exact h0 (List.eq_nil_of_length_eq_zero (by omega))
   rw[show L6 (Z5 l) (R0 l)= .tup [A4 0 5 (R0 l),iv 0] by unfold L6 Z5;rw[ha,Bool.and_true,if_pos (by cases l with|nil=>exact absurd rfl h0|cons _ _=>rfl)]]
   (repeat'((conv=>whnf);first|refine Av asP ?_|refine Aa hS C6 ?_|exact zE))
theorem eH (l:List Gn) (hz:gnsM l):Ab Tryz.prog 44 [.d (E4 l)] (fun r=>r=bv (Z5 l)):=by
 have hM:=Rs l hz
 unfold L6 at hM
 cases hv:Z5 l
 all_goals
  rw[hv] at hM
  first|rw[if_pos rfl] at hM|rw[if_neg (by simp)] at hM
  refine acQ 12 Tryz.func44 rfl rfl fun _ _ _=> ?_
  (repeat'((conv=>whnf);refine Aa hM C6 ?_));(all_goals(conv=>whnf))
  all_goals exact zE
theorem Uz {k:Int} {l:List UInt8} (h:Al k l=true):Jc k (chS k l)=k∧Eo k (chS k l)=l∧Fi k (chS k l)=0:=by
 have:=BD h
 unfold Gh at this
 rwa[if_pos h] at this
theorem Z6 {k:Int} {c:List UInt8} (h:Fi k c=0):Jc k c=k∧Al k (Eo k c)=true∧chS k (Eo k c)=c:=by
 unfold Fi at h
 unfold Jc Eo
 split at h
 ·cases h
 ·rename_i hk
  split at h
  ·rename_i ho
   rw[if_neg hk,if_neg hk,if_pos ho,if_pos ho]
   unfold okD at ho
   simp only[Bool.and_eq_true,beq_iff_eq] at ho
   exact⟨rfl,ho.1,ho.2⟩
  ·cases h
theorem Xp:∀{a b:List (List UInt8)},Gp (a++b)=true→Gp a=true
 |[],_,_=>rfl
 |[_],_,_=>rfl
 |x::y::r,b,h=>by
  have h':(decide (Ev x y<0)&&Gp (y::r++b))=true:=h
  rw[Bool.and_eq_true] at h'
  rw[Gp,h'.1,Xp h'.2];rfl
theorem IZ {a:Att} (_:atV a=true) (hs:a.sm):∃t:Tv,t.ok∧atE a=t.enc:=by
 have k1:=Fs a.oid
 have:=hs.o
 have:=hs.v
 have k2:=Aq 0 6 false (Bm a.oid) (by omega)
 exact⟨⟨0,16,true,Ah 0 6 false (Bm a.oid)++a.val⟩,⟨by show(0:Nat)≤3;omega,by show(16:Nat)≤30;omega,by show(_++_:List UInt8).length≤_;rw[List.length_append];omega⟩,rfl⟩
theorem DT {a:Att} (h:atV a=true) (hs:a.sm):atO (atE a)=some a:=by
 obtain⟨h1,h2⟩:=Zx h
 have k1:=Fs a.oid
 have o1:=hs.o
 have o2:=hs.v
 obtain⟨y,yo,ye⟩:=(xM h2).tv (by omega)
 obtain⟨x,hx⟩:∃x:Tv,x=⟨0,6,false,Bm a.oid⟩:=⟨_,rfl⟩
 have xo:x.ok:=by subst hx;exact⟨by show(0:Nat)≤3;omega,by show(6:Nat)≤30;omega,by show(Bm a.oid).length≤_;omega⟩
 have e:atE a=Ah 0 16 true (Cm [x,y]):=by
  unfold atE
  rw[Cy,Cy,←ye]
  subst hx
  show _=Ah 0 16 true (Ah 0 6 false (Bm a.oid)++(a.val++[]))
  rw[List.append_nil]
 have hl:(Cm [x,y]).length≤2147483600:=by
  have:=Aq 0 6 false (Bm a.oid) (by omega)
  rw[Cy,Cy,←ye]
  subst hx
  show(Ah 0 6 false (Bm a.oid)++(a.val++[])).length≤_
  simp only[List.length_append,List.length_nil];omega
 have hp:=dX x y xo yo hl
 obtain⟨e1,e2⟩:=jL h1
 have xv:x.v=Bm a.oid:=by subst hx;rfl
 have xi:(x.el 0).isB 0 6 false=true:=by subst hx;rfl
 rw[xv,if_pos ⟨xi,e2⟩,e1,←ye,←e] at hp
 unfold atO
 rw[hp]
 simp only
 rw[if_pos h2]
theorem sA {p id s:List UInt8} (h:dW p=some (id,s)) (hl:p.length≤2147483600):Ej id=true∧p=Ah 0 16 true (Ah 0 6 false (Bm id)++s)∧∃y:Tv,y.ok∧s=y.enc:=by
 obtain⟨c0,l2⟩:=kC h
 obtain⟨ts,t1,t2,-,-,t5⟩:=Kc c0
 have hlt:(Cm ts).length≤2147483600:=by
  have:=congrArg List.length t2
  unfold Ah at this
  rw[Hl] at this;omega
 obtain⟨q,e1,-⟩:=Eu (c:=0) (n:=16) ts (by omega) (by omega) t1 hlt
 rw[←t2] at e1
 rw[e1] at l2
 have l2':ts.length=2:=by rw[←Sh q ts];exact l2
 obtain⟨x,y,rfl⟩:∃x y,ts=[x,y]:=by
  match ts,l2' with
  |[x,y],_=>exact⟨x,y,rfl⟩
 have hpp:=dX x y (t1 x (by simp)) (t1 y (by simp)) hlt
 rw[←t2,h] at hpp
 by_cases hc:(x.el 0).isB 0 6 false=true∧odC x.v=0
 ·rw[if_pos hc] at hpp
  simp only[Option.some.injEq,Prod.mk.injEq] at hpp
  obtain⟨rfl,rfl⟩:=hpp
  have hd:=jM hc.2
  have hb:=hc.1
  unfold El.isB Tv.el at hb
  simp only[Bool.and_eq_true,beq_iff_eq] at hb
  obtain⟨⟨b1,b2⟩,b3⟩:=hb
  have hxe:x.enc=Ah 0 6 false x.v:=by rw[Tv.enc,b1,b2,b3]
  refine⟨hd.1,?_,y,t1 y (by simp),rfl⟩
  rw[hd.2,←hxe,t2,Cy,Cy]
  show Ah 0 16 true (x.enc++(y.enc++[]))=_
  rw[List.append_nil]
 ·rw[if_neg hc] at hpp;cases hpp
theorem DU {p:List UInt8} {a:Att} (h:atO p=some a) (hl:p.length≤2147483600):atV a=true∧p=atE a:=by
 unfold atO at h
 cases hp:dW p with
 |none=>rw[hp] at h;cases h
 |some w=>
  obtain⟨id,s⟩:=w
  rw[hp] at h
  simp only at h
  by_cases ho:Es s=true
  ·rw[if_pos ho] at h
   obtain rfl:=Option.some.inj h
   obtain⟨h1,h2,-⟩:=sA hp hl
   exact⟨by unfold atV;rw[h1,ho];rfl,h2⟩
  ·rw[if_neg ho] at h;cases h
def Z7:List (List UInt8)→List (List UInt8)→List Att→Option (List Att)
 |[],_,out=>some out
 |p::r,ps,out=>match atO p with
  |none=>none
  |some a=>if Gp (ps++[p])=true then Z7 r (ps++[p]) (out++[a]) else none
theorem U0 (b:List UInt8):∀(l:List El) (ps:List (List UInt8)) (out:List Att),(Ry b l ps out).1=Z7 (l.map (elO b)) ps out
 |[],_,_=>rfl
 |x::r,ps,out=>by
  rw[Ry,List.map_cons,Z7]
  cases atO (elO b x) with
  |none=>rfl
  |some a=>
   simp only
   by_cases h:Gp (ps++[elO b x])=true
   ·rw[if_pos h,if_pos h];exact U0 b r _ _
   ·rw[if_neg h,if_neg h]
theorem eI:∀{r:List Att} {ps:List (List UInt8)} {out:List Att},r.all atV=true→(∀a∈r,a.sm)→Gp (ps++r.map atE)=true→Z7 (r.map atE) ps out=some (out++r)
 |[],_,_,_,_,_=>by simp[Z7]
 |a::r,ps,out,h,hs,ho=>by
  rw[List.all_cons,Bool.and_eq_true] at h
  rw[List.map_cons] at ho⊢
  have ho':Gp ((ps++[atE a])++r.map atE)=true:=by rw[List.append_assoc];exact ho
  rw[Z7,DT h.1 (hs a (by simp))]
  simp only
  rw[if_pos (Xp ho'),eI h.2 (fun k hk=>hs k (by simp[hk])) ho',List.append_assoc];rfl
theorem eJ:∀{qs ps:List (List UInt8)} {out z:List Att},(∀p∈qs,p.length≤2147483600)→Z7 qs ps out=some z→∃r:List Att,z=out++r∧r.all atV=true∧qs=r.map atE∧(qs≠[]→Gp (ps++qs)=true)
 |[],_,out,z,_,h=>by
  rw[Z7] at h
  obtain rfl:=Option.some.inj h
  exact⟨[],by simp,rfl,rfl,fun h=>absurd rfl h⟩
 |p::qs,ps,out,z,hl,h=>by
  rw[Z7] at h
  cases ha:atO p with
  |none=>rw[ha] at h;cases h
  |some a=>
   rw[ha] at h
   simp only at h
   by_cases ho:Gp (ps++[p])=true
   ·rw[if_pos ho] at h
    obtain⟨r,e1,e2,e3,e4⟩:=eJ (fun q hq=>hl q (by simp[hq])) h
    obtain⟨k1,k2⟩:=DU ha (hl p (by simp))
    refine⟨a::r,by rw[e1,List.append_assoc];rfl,by rw[List.all_cons,k1,e2];rfl,by rw[List.map_cons,←k2,←e3],fun _=> ?_⟩
    by_cases hq:qs=[]
    ·subst hq;exact ho
    ·have:=e4 hq
     rwa[List.append_assoc] at this
   ·rw[if_neg ho] at h;cases h
theorem DV {r:List Att} (h:r.all atV=true) (hs:∀a∈r,a.sm):∃ts:List Tv,(∀t∈ts,t.ok)∧r.map atE=ts.map Tv.enc:=
 Mx fun p hp=>by
  obtain⟨a,ha,rfl⟩:=List.mem_map.1 hp
  exact IZ (List.all_eq_true.1 h a ha) (hs a ha)
theorem eK {r:List Att} (h:Eg r=true) (hz:rdnZ r):(Ir (C8 r)).1=some r:=by
 obtain⟨h0,h1,h2⟩:=Sj h
 obtain⟨hl,hs,hq⟩:=hz
 obtain⟨ts,t1,t2⟩:=DV h1 hs
 have hf:(r.map atE).flatten=Cm ts:=by rw[t2,Ef]
 obtain⟨q,e1,e2⟩:=Eu (c:=0) (n:=17) ts (by omega) (by omega) t1 (by rw[←hf];omega)
 unfold Ir C8
 rw[hf,e1,xQ,if_neg (by simp)]
 have hne:els q ts≠[]:=by
  intro e
  have:=congrArg List.length e
  rw[Sh] at this
  have h3:=congrArg List.length t2
  rw[List.length_map,List.length_map] at h3
  exact h0 (List.eq_nil_of_length_eq_zero (by rw[h3];exact this))
 simp only
 rw[if_neg hne,U0,e2,←t2]
 exact eI h1 hs h2
theorem eL {b:List UInt8} {r:List Att} (h:(Ir b).1=some r) (hl:b.length≤2147483600):Eg r=true∧b=C8 r:=by
 unfold Ir xQ at h
 by_cases h1:(Aw b 0 17).code≠0
 ·rw[if_pos h1] at h;cases h
 rw[if_neg h1] at h
 obtain⟨ts,t1,t2,-,-,-⟩:=Kc (Decidable.not_not.1 h1)
 have hlt:(Cm ts).length≤b.length:=by
  have:=congrArg List.length t2
  unfold Ah at this
  rw[Hl] at this;omega
 obtain⟨q,e1,e2⟩:=Eu (c:=0) (n:=17) ts (by omega) (by omega) t1 (by omega)
 rw[←t2] at e1 e2
 rw[e1] at h
 simp only at h
 by_cases hn:els q ts=[]
 ·rw[if_pos hn] at h;cases h
 rw[if_neg hn,U0,e2] at h
 obtain⟨r',e3,e4,e5,e6⟩:=eJ (fun p hp=>by
  have:=Ho hp
  rw[←Ef] at this;omega) h
 rw[List.nil_append] at e3
 subst e3
 have hne:ts.map Tv.enc≠[]:=by
  intro e
  have h5:ts=[]:=by simpa using e
  subst h5;exact hn rfl
 have ho:=e6 hne
 rw[List.nil_append,e5] at ho
 refine⟨?_,?_⟩
 ·unfold Eg
  rw[e4,ho]
  cases r with
  |nil=>exact absurd e5 hne
  |cons _ _=>rfl
 ·rw[t2]
  unfold C8
  rw[Ef,e5]
def nmP:List (List UInt8)→List (List Att)→Option (List (List Att))
 |[],out=>some out
 |p::r,out=>match(Ir p).1 with
  |none=>none
  |some a=>nmP r (out++[a])
theorem Z8 (b:List UInt8):∀(l:List El) (out:List (List Att)),(nmL b l out).1=nmP (l.map (elO b)) out
 |[],_=>rfl
 |x::r,out=>by
  rw[nmL,List.map_cons,nmP]
  generalize Ir (elO b x)=q
  obtain⟨o,c,p⟩:=q
  cases o with
  |none=>rfl
  |some a=>exact Z8 b r _
theorem nC:∀{n out:List (List Att)},n.all Eg=true→(∀r∈n,rdnZ r)→nmP (n.map C8) out=some (out++n)
 |[],_,_,_=>by simp[nmP]
 |r::n,out,h,hs=>by
  rw[List.all_cons,Bool.and_eq_true] at h
  have h1:=hs r (by simp)
  rw[List.map_cons,nmP,eK h.1 h1]
  simp only
  rw[nC h.2 (fun k hk=>hs k (by simp[hk])),List.append_assoc];rfl
theorem nD:∀{qs:List (List UInt8)} {out z:List (List Att)},(∀p∈qs,p.length≤2147483600)→nmP qs out=some z→∃n:List (List Att),z=out++n∧n.all Eg=true∧qs=n.map C8
 |[],out,z,_,h=>by
  rw[nmP] at h
  obtain rfl:=Option.some.inj h
  exact⟨[],by simp,rfl,rfl⟩
 |p::qs,out,z,hl,h=>by
  rw[nmP] at h
  cases ha:(Ir p).1 with
  |none=>rw[ha] at h;cases h
  |some a=>
   rw[ha] at h
   obtain⟨n,e1,e2,e3⟩:=nD (fun q hq=>hl q (by simp[hq])) h
   obtain⟨k1,k2⟩:=eL ha (hl p (by simp))
   exact⟨a::n,by rw[e1,List.append_assoc];rfl,by rw[List.all_cons,k1,e2];rfl,by rw[List.map_cons,←k2,←e3]⟩
theorem JA {r:List Att} (hz:rdnZ r):∃t:Tv,t.ok∧C8 r=t.enc:=by
 have hq:=hz.e
 exact⟨⟨0,17,true,(r.map atE).flatten⟩,⟨by show(0:Nat)≤3;omega,by show(17:Nat)≤30;omega,by show(r.map atE).flatten.length≤_;omega⟩,rfl⟩
theorem DW {n:List (List Att)} (h:nmV n=true) (hs:nmZ n):(nmR (nmE n)).1=some n:=by
 obtain⟨ts,t1,t2⟩:=Mx (l:=n.map C8) fun p hp=>by
  obtain⟨r,hr,rfl⟩:=List.mem_map.1 hp
  exact JA (hs.r r hr)
 have hf:(n.map C8).flatten=Cm ts:=by rw[t2,Ef]
 have he:=hs.e
 obtain⟨q,e1,e2⟩:=Eu (c:=0) (n:=16) ts (by omega) (by omega) t1 (by rw[←hf];omega)
 unfold nmR nmE
 rw[hf,e1,nmQ,if_neg (by simp)]
 simp only
 rw[Z8,e2,←t2]
 exact nC h hs.r
theorem DX {b:List UInt8} {n:List (List Att)} (h:(nmR b).1=some n) (hl:b.length≤2147483600):nmV n=true∧b=nmE n:=by
 unfold nmR nmQ at h
 by_cases h1:(Aw b 0 16).code≠0
 ·rw[if_pos h1] at h;cases h
 rw[if_neg h1] at h
 obtain⟨ts,t1,t2,-,-,-⟩:=Kc (Decidable.not_not.1 h1)
 have hlt:(Cm ts).length≤b.length:=by
  have:=congrArg List.length t2
  unfold Ah at this
  rw[Hl] at this;omega
 obtain⟨q,e1,e2⟩:=Eu (c:=0) (n:=16) ts (by omega) (by omega) t1 (by omega)
 rw[←t2] at e1 e2
 rw[e1] at h
 simp only at h
 rw[Z8,e2] at h
 obtain⟨n',e3,e4,e5⟩:=nD (fun p hp=>by
  have:=Ho hp
  rw[←Ef] at this;omega) h
 rw[List.nil_append] at e3
 subst e3
 refine⟨e4,?_⟩
 rw[t2]
 unfold nmE
 rw[Ef,e5]
theorem Oc {ts:List Tv} (h:∀t∈ts,t.ok):Dc (Cm ts)=ts.map Tv.enc:=by
 have hp:=Mv ts (Cm ts) [] (Cm ts).length h (by rw[List.take_length];rfl) (Nat.le_refl _)
 have he:=Sg ts (Cm ts) [] (Cm ts).length (by rw[List.take_length];rfl) (Nat.le_refl _)
 rw[List.length_nil] at hp he
 unfold Dc
 rw[hp,if_neg (by simp)]
 exact he
theorem U1 {c:List UInt8} (h:Dc c≠[]):∃ts:List Tv,(∀t∈ts,t.ok)∧c=Cm ts∧Dc c=ts.map Tv.enc:=by
 by_cases h1:(Ci c 0 c.length).code≠0
 ·unfold Dc at h;rw[if_pos h1] at h;exact absurd rfl h
 ·obtain⟨ts,e1,e2,e3⟩:=Qs _ c 0 c.length (Nat.le_refl _) (by omega) (by omega) (Decidable.not_not.1 h1)
  rw[List.drop_zero,Nat.sub_zero,List.take_length] at e3
  exact⟨ts,e1,e3,by rw[e3];exact Oc e1⟩
theorem Od {t:Tv} (h:t.ok) (n:Nat):Bn t.enc n=if t.c=2∧t.n=n∧t.k=true then some t.v else none:=by
 unfold Bn
 rw[Hm h]
 simp only
 have hi:(t.el 0).isB 2 n true=decide (t.c=2∧t.n=n∧t.k=true):=by
  unfold El.isB Tv.el
  rw[Bool.eq_iff_iff]
  simp only[Bool.and_eq_true,beq_iff_eq,decide_eq_true_eq]
  exact⟨fun⟨⟨a,b⟩,c⟩=>⟨a,c,b⟩,fun⟨a,c,b⟩=>⟨⟨a,b⟩,c⟩⟩
 have hv:(t.enc.drop (0+t.hd)).take (0+t.enc.length-(0+t.hd))=t.v:=by
  rw[Nat.zero_add,Nat.zero_add,t.body]
  exact List.take_of_length_le (by rw[t.len];omega)
 by_cases hc:t.c=2∧t.n=n∧t.k=true
 ·rw[hi,decide_eq_true hc,if_neg (by simp),if_pos hc]
  show some ((t.enc.drop (0+t.hd)).take (0+t.enc.length-(0+t.hd)))=_
  rw[hv]
 ·rw[hi,decide_eq_false hc,if_pos (by simp),if_neg hc]
theorem Is {n:Nat} {v:List UInt8} (hn:n≤30) (hv:v.length≤2147483600):Bn (Ah 2 n true v) n=some v:=by
 have:=Od (t:=⟨2,n,true,v⟩) ⟨by show(2:Nat)≤3;omega,hn,by show v.length≤_;omega⟩ n
 rw[if_pos ⟨rfl,rfl,rfl⟩] at this
 exact this
theorem G8 {b v:List UInt8} {n:Nat} (h:Bn b n=some v):b=Ah 2 n true v:=by
 unfold Bn at h
 split at h
 ·cases h
 ·rename_i hh
  rw[not_or] at hh
  obtain⟨t,t1,t2,t3⟩:=Pk (Decidable.not_not.1 hh.1)
  have:=Od t1 n
  rw[←t3] at this
  have hc:t.c=2∧t.n=n∧t.k=true:=by
   have hb:=hh.2
   rw[t2] at hb
   have hb:(t.el 0).isB 2 n true=true:=by simpa using hb
   unfold El.isB Tv.el at hb
   simp only[Bool.and_eq_true,beq_iff_eq] at hb
   exact⟨hb.1.1,hb.2,hb.1.2⟩
  rw[if_pos hc] at this
  have h':Bn b n=some v:=by unfold Bn;rw[if_neg (by rw[not_or];exact hh)];exact h
  rw[this] at h'
  obtain rfl:=Option.some.inj h'
  rw[t3,Tv.enc,hc.1,hc.2.1,hc.2.2]
def fiB (k:Int) (l:List UInt8):Bool:=Al k l&&(!(l==[])&& !(k==22||k==26))
theorem JB {k:Int} {l:List UInt8} (h:Al k l=true) (hl:l.length≤500000000):∃n:Nat,k=n∧Tv.ok ⟨0,n,false,chS k l⟩∧txE k l=Tv.enc ⟨0,n,false,chS k l⟩:=by
 obtain⟨n,h1,h2,rfl⟩:=Uq h
 have h4:=G7 h
 exact⟨n,rfl,⟨by show(0:Nat)≤3;omega,h2,by show(chS (n:Int) l).length≤_;omega⟩,by unfold txE;rw[Int.toNat_natCast];rfl⟩
theorem nE {k:Int} {l:List UInt8} (h:Al k l=true) (hl:l.length≤500000000):M7 (txE k l)=k∧Qt (txE k l)=l∧Zv (txE k l)=true:=by
 obtain⟨n,hk,ho,he⟩:=JB h hl
 have hc:=Uz h
 generalize ht:(⟨0,n,false,chS k l⟩:Tv)=t at ho he
 have h1:=Hm ho
 have hs:Rr t.enc=true:=by unfold Rr;rw[h1];subst ht;rfl
 have hcon:Up t.enc=chS k l:=by
  unfold Up
  rw[h1]
  show(t.enc.drop (0+t.hd)).take (0+t.enc.length-(0+t.hd))=_
  rw[Nat.zero_add,Nat.zero_add,t.body,List.take_of_length_le (by rw[t.len];omega)]
  subst ht;rfl
 have hn:(A8 t.enc).x.n=n:=by rw[h1];subst ht;rfl
 rw[he]
 unfold M7 Qt Zv
 rw[hs,hcon,hn,←hk]
 exact⟨hc.1,hc.2.1,by rw[hc.2.2];rfl⟩
theorem DY {b:List UInt8} (h:Zv b=true):Al (M7 b) (Qt b)=true∧b=txE (M7 b) (Qt b):=by
 unfold Zv at h
 rw[Bool.and_eq_true] at h
 obtain⟨hs,hd⟩:=h
 have hs':=hs
 unfold Rr at hs'
 simp only[Bool.and_eq_true,beq_iff_eq] at hs'
 obtain⟨t,t1,t2,t3⟩:=Pk hs'.1
 have hcon:Up b=t.v:=by
  unfold Up
  rw[t2,t3]
  show(t.enc.drop (0+t.hd)).take (0+t.enc.length-(0+t.hd))=_
  rw[Nat.zero_add,Nat.zero_add,t.body,List.take_of_length_le (by rw[t.len];omega)]
 have hn:(A8 b).x.n=t.n:=by rw[t2];rfl
 have htc:t.c=0:=by have:=hs'.2.1;rw[t2] at this;exact this
 have htk:t.k=false:=by have:=hs'.2.2;rw[t2] at this;simpa[Tv.el] using this
 rw[hn,hcon] at hd
 have hd:Fi (t.n:Int) t.v=0:=by simpa using hd
 obtain⟨i1,i2,i3⟩:=Z6 hd
 have hK:M7 b=(t.n:Int):=by unfold M7;rw[if_pos hs,hn,hcon];exact i1
 have hV:Qt b=Eo (t.n:Int) t.v:=by unfold Qt;rw[if_pos hs,hn,hcon]
 rw[hK,hV]
 refine⟨i2,?_⟩
 unfold txE
 rw[i3,Int.toNat_natCast,t3,Tv.enc,htc,htk]
theorem Z9 {k:Int} {l:List UInt8} (h:fiB k l=true) (hl:l.length≤500000000):Fx (txE k l)=true∧pK (txE k l)=k∧pV (txE k l)=l:=by
 have h':=h
 unfold fiB at h
 rw[Bool.and_eq_true] at h
 obtain⟨s1,s2,s3⟩:=nE h.1 hl
 have hd:Fx (txE k l)=true:=by
  unfold Fx
  rw[s1,s2,s3,h.2];rfl
 refine⟨hd,?_,?_⟩
 ·unfold pK;rw[if_pos hd,s1]
 ·unfold pV;rw[if_pos hd,s2]
theorem nF {b:List UInt8} (h:Fx b=true):fiB (pK b) (pV b)=true∧b=txE (pK b) (pV b):=by
 have h':=h
 unfold Fx at h'
 rw[Bool.and_eq_true] at h'
 obtain⟨s1,s2⟩:=DY h'.1
 unfold pK pV
 rw[if_pos h,if_pos h]
 refine⟨?_,s2⟩
 unfold fiB
 rw[s1,h'.2];rfl
theorem xX {k:Int} {l:List UInt8} (hv:Al k l=true) (h:fiB k l=false) (hl:l.length≤500000000):Fx (txE k l)=false:=by
 cases hd:Fx (txE k l) with
 |false=>rfl
 |true=>
  exfalso
  obtain⟨s1,s2,s3⟩:=nE hv hl
  unfold Fx at hd
  rw[s1,s2,s3] at hd
  unfold fiB at h
  rw[hv] at h
  rw[h] at hd;cases hd
def G9 (g:Gn):Bool:= !(g.k==5)||((zT g.ak g.av||fiB g.ak g.av)&&fiB g.pk g.pv)
def gnW (g:Gn):Bool:=Cg g&&(Rz g&&((D8 g).isSome&&G9 g))
theorem U2 {k:Int} {l:List UInt8}:zT k l=true↔k=0∧l=[]:=by unfold zT;simp
theorem eM {n:Nat} {c:List UInt8} (hn:n≤8) (hl:c.length≤2147483600):Le (Ah 2 n (Dw n) c)=if okP (rdP n c)=true then some (rdP n c).1 else none:=by
 obtain⟨t,ht⟩:∃t:Tv,t=⟨2,n,Dw n,c⟩:=⟨_,rfl⟩
 have hOk:t.ok:=by subst ht;exact⟨by show(2:Nat)≤3;omega,by show n≤30;omega,by show c.length≤_;omega⟩
 have he:Ah 2 n (Dw n) c=t.enc:=by subst ht;rfl
 have hv:t.v=c:=by subst ht;rfl
 have htag:Pn (t.el 0)=true:=by
  unfold Pn;subst ht
  show((2:Nat)==2&&(decide (n≤8)&&(Dw n==Dw n)))=true
  rw[decide_eq_true hn];simp
 have hn':(t.el 0).n=n:=by subst ht;rfl
 have hb:(t.enc.drop (t.el 0).body).take ((t.el 0).stop-(t.el 0).body)=c:=by
  show(t.enc.drop (0+t.hd)).take (0+t.enc.length-(0+t.hd))=_
  rw[Nat.zero_add,Nat.zero_add,t.body,List.take_of_length_le (by rw[t.len];omega),hv]
 rw[he]
 unfold Le
 rw[Hm hOk]
 cases ho:okP (rdP n c)
 ·rw[if_neg (by simp)]
  exact(nB htag (by rw[hn',hb];exact ho)).1
 ·rw[if_pos rfl]
  have:=eG (b:=t.enc) htag (by rw[hn',hb];exact ho)
  rw[this,hn',hb]
theorem xY {b:List UInt8} {g:Gn} (h:Le b=some g):∃n:Nat,∃c:List UInt8,n≤8∧c.length≤b.length∧b=Ah 2 n (Dw n) c∧okP (rdP n c)=true∧g=(rdP n c).1:=by
 unfold Le Uv at h
 by_cases h1:(A8 b).code≠0
 ·rw[if_pos h1] at h;cases h
 rw[if_neg h1] at h
 by_cases h2:Pn (A8 b).x=false
 ·rw[if_pos h2] at h;cases h
 rw[if_neg h2] at h
 obtain⟨t,t1,t2,t3⟩:=Pk (Decidable.not_not.1 h1)
 have hb:(b.drop (A8 b).x.body).take ((A8 b).x.stop-(A8 b).x.body)=t.v:=by
  rw[t2,t3]
  show(t.enc.drop (0+t.hd)).take (0+t.enc.length-(0+t.hd))=_
  rw[Nat.zero_add,Nat.zero_add,t.body,List.take_of_length_le (by rw[t.len];omega)]
 have hn:(A8 b).x.n=t.n:=by rw[t2];rfl
 rw[hb,hn] at h
 have htag:Pn (A8 b).x=true:=by simpa using h2
 rw[t2] at htag
 unfold Pn at htag
 simp only[Bool.and_eq_true,beq_iff_eq,decide_eq_true_eq] at htag
 obtain⟨a1,a2,a3⟩:=htag
 have a1:t.c=2:=a1
 have a2:t.n≤8:=a2
 have a3:t.k=Dw t.n:=a3
 by_cases h3:okP (rdP t.n t.v)=true
 ·rw[if_pos h3] at h
  refine⟨t.n,t.v,a2,by rw[t3,t.len];omega,?_,h3,(Option.some.inj h).symm⟩
  rw[t3,Tv.enc,a1,a3]
 ·rw[if_neg h3] at h;cases h
theorem nG {c d n m:Nat} {j k:Bool} {u v:List UInt8} (hc:c≤3) (hn:n≤30) (hd:d≤3) (hm:m≤30) (hu:u.length≤500000000) (hv:v.length≤500000000):Dc (Ah c n j u++Ah d m k v)=[Ah c n j u,Ah d m k v]:=by
 have:=Oc (ts:=[⟨c,n,j,u⟩,⟨d,m,k,v⟩]) (fun t ht=>by
  rcases List.mem_cons.1 ht with rfl|ht
  ·exact⟨hc,hn,by show u.length≤_;omega⟩
  ·rw[List.mem_singleton.1 ht];exact⟨hd,hm,by show v.length≤_;omega⟩)
 rw[Cy,Cy] at this
 show Dc (Tv.enc ⟨c,n,j,u⟩++Tv.enc ⟨d,m,k,v⟩)=_
 have e:Cm ([]:List Tv)=[]:=rfl
 rw[e,List.append_nil] at this
 exact this
theorem JC {c n:Nat} {j:Bool} {u:List UInt8} (hc:c≤3) (hn:n≤30) (hu:u.length≤500000000):Dc (Ah c n j u)=[Ah c n j u]:=by
 have:=Oc (ts:=[⟨c,n,j,u⟩]) (fun t ht=>by
  rw[List.mem_singleton.1 ht];exact⟨hc,hn,by show u.length≤_;omega⟩)
 rw[Cy] at this
 have e:Cm ([]:List Tv)=[]:=rfl
 rw[e,List.append_nil] at this
 exact this
theorem DZ {oid by':List UInt8} (h:Ej oid=true) (hl:oid.length≤3000000) (hb:by'.length≤3000000):M8 0 (Ah 0 6 false (Bm oid)++Ah 2 0 true by')=(⟨0,oid,[],by',[],0,[],0,[]⟩,true):=by
 have k1:=Fs oid
 unfold M8
 rw[nG (by omega) (by omega) (by omega) (by omega) (by omega) (by omega)]
 show Wa 0 _ _=_
 obtain⟨t,ht⟩:∃t:Tv,t=⟨0,6,false,Bm oid⟩:=⟨_,rfl⟩
 have hOk:t.ok:=by subst ht;exact⟨by show(0:Nat)≤3;omega,by show 6≤30;omega,by show(Bm oid).length≤_;omega⟩
 have he:Ah 0 6 false (Bm oid)=t.enc:=by subst ht;rfl
 have hv:t.v=Bm oid:=by subst ht;rfl
 have hi:(t.el 0).isB 0 6 false=true:=by subst ht;rfl
 have hin:=Is (n:=0) (v:=by') (by omega) (by omega)
 obtain⟨e1,e2⟩:=jL h
 unfold Wa
 rw[he,Hm hOk]
 simp only
 rw[hi,if_neg (by simp)]
 have hd:t.enc.drop (t.el 0).body=Bm oid:=by
  show t.enc.drop (0+t.hd)=_
  rw[Nat.zero_add,t.body,hv]
 rw[hd,e1,e2,hin,Ft hin]
 rfl
theorem EA {c:List UInt8} (_:c.length≤800000) (h:(M8 0 c).2=true):∃oid by':List UInt8,M8 0 c=(⟨0,oid,[],by',[],0,[],0,[]⟩,true)∧Ej oid=true∧c=Ah 0 6 false (Bm oid)++Ah 2 0 true by':=by
 unfold M8 at h⊢
 by_cases hn:Dc c=[]
 ·rw[hn] at h;cases h
 obtain⟨ts,t1,t2,t3⟩:=U1 hn
 match hs:Dc c with
 |[]=>exact absurd hs hn
 |[x]=>rw[hs] at h;cases h
 |x::y::z::r=>rw[hs] at h;cases h
 |[p,q]=>
  rw[hs] at h t3
  have h:(Wa 0 p q).2=true:=h
  show∃oid by',Wa 0 p q=_∧_
  obtain⟨x,y,rfl⟩:∃x y,ts=[x,y]:=by
   match ts,congrArg List.length t3 with
   |[x,y],_=>exact⟨x,y,rfl⟩
  simp only[List.map_cons,List.map_nil,List.cons.injEq,and_true] at t3
  obtain⟨rfl,rfl⟩:=t3
  have x1:=t1 x (by simp)
  have y1:=t1 y (by simp)
  unfold Wa at h⊢
  rw[Hm x1] at h⊢
  simp only at h⊢
  by_cases hc:(0:Nat)≠0∨(x.el 0).isB 0 6 false=false
  ·rw[if_pos hc] at h;cases h
  rw[if_neg hc] at h⊢
  have hd:x.enc.drop (x.el 0).body=x.v:=by
   show x.enc.drop (0+x.hd)=_
   rw[Nat.zero_add,x.body]
  rw[hd] at h⊢
  simp only[Bool.and_eq_true,beq_iff_eq] at h
  obtain⟨h1,h2⟩:=h
  obtain⟨v,hv⟩:=Option.isSome_iff_exists.1 h1
  have hod:odC x.v=0:=by omega
  obtain⟨o1,o2⟩:=jM hod
  have hb:(x.el 0).isB 0 6 false=true:=by
   rw[not_or] at hc;simpa using hc.2
  unfold El.isB Tv.el at hb
  simp only[Bool.and_eq_true,beq_iff_eq] at hb
  refine⟨odT x.v,v,?_,o1,?_⟩
  ·rw[hv,Ft hv,hod];rfl
  ·rw[o2,←G8 hv,t2,Cy,Cy]
   have e:x.enc=Ah 0 6 false x.v:=by rw[Tv.enc,hb.1.1,hb.2,hb.1.2]
   rw[←e]
   show x.enc++(y.enc++[])=_
   rw[List.append_nil]
theorem nH {K:Int} {V:List UInt8} (ak:Int) (av:List UInt8) (hv:Al K V=true) (hl:V.length≤3000000):Kv 5 (Ah 2 1 true (txE K V)) ak av=(⟨5,[],[],[],[],ak,av,pK (txE K V),pV (txE K V)⟩,fiB K V):=by
 have h4:=He hv hl
 have hin:=Is (n:=1) (v:=txE K V) (by omega) (by omega)
 unfold Kv
 rw[hin,Ft hin]
 have:Fx (txE K V)=fiB K V:=by
  cases hf:fiB K V
  ·exact xX hv hf (by omega)
  ·exact(Z9 hf (by omega)).1
 rw[this];rfl
theorem Qy {k:Int} {l:List UInt8} (h:fiB k l=true):Al k l=true:=by
 unfold fiB at h;rw[Bool.and_eq_true] at h;exact h.1
theorem nI {g:Gn} {c:List UInt8} (hk:g.k=5) (hc:Ob g=some c) (ha:g.av.length≤3000000) (hp:g.pv.length≤3000000):(Kg 5 c).2=((zT g.ak g.av||fiB g.ak g.av)&&fiB g.pk g.pv)∧(((zT g.ak g.av||fiB g.ak g.av)&&fiB g.pk g.pv)=true→Kg 5 c=(⟨5,[],[],[],[],g.ak,g.av,g.pk,g.pv⟩,true)):=by
 obtain⟨k,oid,tx,by',nm,ak,av,pk,pv⟩:=g
 unfold Ob at hc
 simp only at hk hc ha hp⊢
 by_cases hh:((zT ak av||Al ak av)&&Al pk pv)=true
 ·rw[if_pos hh] at hc
  rw[Bool.and_eq_true] at hh
  obtain⟨h1,h2⟩:=hh
  have hl2:=He h2 hp
  obtain rfl:=Option.some.inj hc
  have fin:fiB pk pv=true→(⟨5,[],[],[],[],ak,av,pK (txE pk pv),pV (txE pk pv)⟩:Gn)=⟨5,[],[],[],[],ak,av,pk,pv⟩:=fun h=>by
   obtain⟨-,q1,q2⟩:=Z9 h (by omega)
   rw[q1,q2]
  cases hz:zT ak av
  ·rw[hz,Bool.false_or] at h1
   have hl1:=He h1 ha
   rw[if_neg (by simp),Bool.false_or]
   unfold Kg
   rw[nG (by omega) (by omega) (by omega) (by omega) (by omega) (by omega)]
   have hin:=Is (n:=0) (v:=txE ak av) (by omega) (by omega)
   show(if(Bn (Ah 2 0 true (txE ak av)) 0).isSome&&Fx (inn (Ah 2 0 true (txE ak av)) 0) then Kv 5 (Ah 2 1 true (txE pk pv)) (pK (inn (Ah 2 0 true (txE ak av)) 0)) (pV (inn (Ah 2 0 true (txE ak av)) 0)) else(gz,false)).2=_∧(_→(if(Bn (Ah 2 0 true (txE ak av)) 0).isSome&&Fx (inn (Ah 2 0 true (txE ak av)) 0) then Kv 5 (Ah 2 1 true (txE pk pv)) (pK (inn (Ah 2 0 true (txE ak av)) 0)) (pV (inn (Ah 2 0 true (txE ak av)) 0)) else(gz,false))=_)
   rw[hin,Ft hin]
   cases hf:fiB ak av
   ·rw[xX h1 hf (by omega),if_neg (by simp)]
    exact⟨rfl,fun h=>by cases h⟩
   ·obtain⟨d1,d2,d3⟩:=Z9 hf (by omega)
    rw[d1,d2,d3,if_pos (by rfl),nH _ _ h2 hp]
    exact⟨rfl,fun h=>by
     have h:fiB pk pv=true:=h
     rw[fin h,h]⟩
  ·obtain⟨z1,z2⟩:=U2.1 hz
   subst z1 z2
   rw[if_pos rfl,Bool.true_or,List.nil_append]
   unfold Kg
   rw[JC (by omega) (by omega) (by omega)]
   show(Kv 5 _ 0 []).2=_∧(_→Kv 5 _ 0 []=_)
   rw[nH _ _ h2 hp]
   exact⟨rfl,fun h=>by
    have h:fiB pk pv=true:=h
    rw[fin h,h]⟩
 ·rw[if_neg hh] at hc;cases hc
theorem eO {q:List UInt8} {ak:Int} {av:List UInt8} (h:(Kv 5 q ak av).2=true):∃(K:Int) (V:List UInt8),Kv 5 q ak av=(⟨5,[],[],[],[],ak,av,K,V⟩,true)∧fiB K V=true∧q=Ah 2 1 true (txE K V):=by
 unfold Kv at h⊢
 simp only[Bool.and_eq_true] at h
 obtain⟨v,hv⟩:=Option.isSome_iff_exists.1 h.1
 have hd:=h.2
 rw[Ft hv] at hd
 obtain⟨d1,d2⟩:=nF hd
 refine⟨pK v,pV v,?_,d1,by rw[←d2];exact G8 hv⟩
 rw[hv,Ft hv,hd];rfl
theorem EB {c:List UInt8} (h:(Kg 5 c).2=true):∃g:Gn,Kg 5 c=(g,true)∧g=⟨5,[],[],[],[],g.ak,g.av,g.pk,g.pv⟩∧Ob g=some c∧((zT g.ak g.av||fiB g.ak g.av)&&fiB g.pk g.pv)=true:=by
 unfold Kg at h⊢
 by_cases hn:Dc c=[]
 ·rw[hn] at h;cases h
 obtain⟨ts,t1,t2,t3⟩:=U1 hn
 have hfl:c=(Dc c).flatten:=by rw[t3,←Ef];exact t2
 match hs:Dc c with
 |[]=>exact absurd hs hn
 |x::y::z::r=>rw[hs] at h;cases h
 |[q]=>
  rw[hs] at h hfl
  have h:(Kv 5 q 0 []).2=true:=h
  obtain⟨K,V,e1,e2,e3⟩:=eO h
  refine⟨⟨5,[],[],[],[],0,[],K,V⟩,e1,rfl,?_,by rw[e2];rfl⟩
  unfold Ob
  have e4:=Qy e2
  rw[show((zT 0 []||Al 0 [])&&Al K V)=true by rw[e4];rfl,if_pos rfl]
  have e5:zT 0 []=true:=rfl
  simp only
  rw[e5,if_pos rfl,List.nil_append,←e3,hfl];simp
 |[p,q]=>
  rw[hs] at h hfl
  have h:(if(Bn p 0).isSome&&Fx (inn p 0) then Kv 5 q (pK (inn p 0)) (pV (inn p 0)) else(gz,false)).2=true:=h
  show∃g:Gn,(if(Bn p 0).isSome&&Fx (inn p 0) then Kv 5 q (pK (inn p 0)) (pV (inn p 0)) else(gz,false))=(g,true)∧_
  by_cases hc:((Bn p 0).isSome&&Fx (inn p 0))=true
  ·rw[if_pos hc] at h⊢
   rw[Bool.and_eq_true] at hc
   obtain⟨v,hv⟩:=Option.isSome_iff_exists.1 hc.1
   have hd:=hc.2
   rw[Ft hv] at hd h⊢
   obtain⟨d1,d2⟩:=nF hd
   obtain⟨K,V,e1,e2,e3⟩:=eO h
   refine⟨⟨5,[],[],[],[],pK v,pV v,K,V⟩,e1,rfl,?_,by rw[e2,d1];simp⟩
   have e4:=Qy e2
   have e5:=Qy d1
   have e6:zT (pK v) (pV v)=false:=by
    cases hz:zT (pK v) (pV v) with
    |false=>rfl
    |true=>
     obtain⟨z1,z2⟩:=U2.1 hz
     rw[z1] at e5
     obtain⟨m,m1,m2,m3⟩:=Uq e5
     omega
   unfold Ob
   simp only
   rw[e4,e5,e6]
   show some (Ah 2 0 true (txE (pK v) (pV v))++Ah 2 1 true (txE K V))=some c
   rw[←d2,←G8 hv,←e3,hfl];simp
  ·rw[if_neg hc] at h;cases h
theorem Eh (g:Gn):Cg g=true↔(g.k=0∨g.k=8∨g.oid=[])∧(g.k=1∨g.k=2∨g.k=6∨g.tx=[])∧(g.k=0∨g.k=3∨g.k=7∨g.by'=[])∧(g.k=4∨g.nm=[])∧(g.k=5∨(g.ak=0∧g.av=[])∧(g.pk=0∧g.pv=[])):=by
 unfold Cg alB
 simp only[Bool.and_eq_true,Bool.or_eq_true,beq_iff_eq,U2]
 have l0:∀{α:Type} (l:List α),((l.length:Int)=0↔l=[]):=fun l=>⟨fun h=>List.eq_nil_of_length_eq_zero (by omega),fun h=>by rw[h];rfl⟩
 rw[l0,l0]
 constructor
 ·rintro⟨h1,h2,h3,h4,h5⟩
  refine⟨?_,?_,?_,h4,h5⟩
  ·rcases h1 with(h|h)|h<;>simp[h]
  ·rcases h2 with(h|h|h)|h<;>simp[h]
  ·rcases h3 with(h|h|h)|h<;>simp[h]
 ·rintro⟨h1,h2,h3,h4,h5⟩
  refine⟨?_,?_,?_,h4,h5⟩
  ·rcases h1 with h|h|h<;>simp[h]
  ·rcases h2 with h|h|h|h<;>simp[h]
  ·rcases h3 with h|h|h|h<;>simp[h]
theorem EC {g:Gn} {n:Nat} {c:List UInt8} (hk:g.k=n) (ha:Cg g=true) (hc:D8 g=some c) (hp:G9 g=true) (hs:g.sm):rdP n c=(g,true):=by
 obtain⟨k,oid,tx,by',nm,ak,av,pk,pv⟩:=g
 obtain⟨s1,s2,s3,s4,s5,s6⟩:=hs
 simp only at hk s1 s2 s3 s4 s5 s6
 subst hk
 rw[Eh] at ha
 obtain⟨a1,a2,a3,a4,a5⟩:=ha
 simp only at a1 a2 a3 a4 a5
 unfold D8 at hc
 simp only at hc
 rcases(by
  obtain⟨m,hm,e⟩:=Qx (g:=⟨(n:Int),oid,tx,by',nm,ak,av,pk,pv⟩) (c:=c) hc
  simp only at e
  omega:n=0∨n=1∨n=2∨n=3∨n=4∨n=5∨n=6∨n=7∨n=8) with rfl|rfl|rfl|rfl|rfl|rfl|rfl|rfl|rfl
 ·obtain rfl:tx=[]:=by simpa using a2
  obtain rfl:nm=[]:=by simpa using a4
  obtain⟨⟨rfl,rfl⟩,rfl,rfl⟩:(ak=0∧av=[])∧pk=0∧pv=[]:=by simpa using a5
  rw[if_pos (by rfl)] at hc
  by_cases ho:Ej oid=true
  ·rw[if_pos ho] at hc
   obtain rfl:=Option.some.inj hc
   exact DZ ho s1 s3
  ·rw[if_neg ho] at hc;cases hc
 ·obtain rfl:oid=[]:=by simpa using a1
  obtain rfl:by'=[]:=by simpa using a3
  obtain rfl:nm=[]:=by simpa using a4
  obtain⟨⟨rfl,rfl⟩,rfl,rfl⟩:(ak=0∧av=[])∧pk=0∧pv=[]:=by simpa using a5
  rw[if_neg (by decide),if_pos (by decide)] at hc
  by_cases ho:Al 22 tx=true
  ·rw[if_pos ho] at hc
   obtain rfl:=Option.some.inj hc
   obtain⟨-,e2,e3⟩:=Uz ho
   show((⟨1,[],Eo 22 (chS 22 tx),[],[],0,[],0,[]⟩:Gn),Fi 22 (chS 22 tx)==0)=_
   rw[e2,e3];rfl
  ·rw[if_neg ho] at hc;cases hc
 ·obtain rfl:oid=[]:=by simpa using a1
  obtain rfl:by'=[]:=by simpa using a3
  obtain rfl:nm=[]:=by simpa using a4
  obtain⟨⟨rfl,rfl⟩,rfl,rfl⟩:(ak=0∧av=[])∧pk=0∧pv=[]:=by simpa using a5
  rw[if_neg (by decide),if_pos (by decide)] at hc
  by_cases ho:Al 22 tx=true
  ·rw[if_pos ho] at hc
   obtain rfl:=Option.some.inj hc
   obtain⟨-,e2,e3⟩:=Uz ho
   show((⟨2,[],Eo 22 (chS 22 tx),[],[],0,[],0,[]⟩:Gn),Fi 22 (chS 22 tx)==0)=_
   rw[e2,e3];rfl
  ·rw[if_neg ho] at hc;cases hc
 ·obtain rfl:oid=[]:=by simpa using a1
  obtain rfl:tx=[]:=by simpa using a2
  obtain rfl:nm=[]:=by simpa using a4
  obtain⟨⟨rfl,rfl⟩,rfl,rfl⟩:(ak=0∧av=[])∧pk=0∧pv=[]:=by simpa using a5
  rw[if_neg (by decide),if_neg (by decide),if_pos (by decide)] at hc
  obtain rfl:=Option.some.inj hc
  rfl
 ·obtain rfl:oid=[]:=by simpa using a1
  obtain rfl:tx=[]:=by simpa using a2
  obtain rfl:by'=[]:=by simpa using a3
  obtain⟨⟨rfl,rfl⟩,rfl,rfl⟩:(ak=0∧av=[])∧pk=0∧pv=[]:=by simpa using a5
  rw[if_neg (by decide),if_neg (by decide),if_neg (by decide),if_pos (by rfl)] at hc
  by_cases ho:nmV nm=true
  ·rw[if_pos ho] at hc
   obtain rfl:=Option.some.inj hc
   have:=DW ho s4
   show Pl 4 (nmE nm)=_
   unfold Pl
   generalize nmR (nmE nm)=q at this
   obtain⟨o,cc,p⟩:=q
   simp only at this
   subst this
   rfl
  ·rw[if_neg ho] at hc;cases hc
 ·obtain rfl:oid=[]:=by simpa using a1
  obtain rfl:tx=[]:=by simpa using a2
  obtain rfl:by'=[]:=by simpa using a3
  obtain rfl:nm=[]:=by simpa using a4
  rw[if_neg (by decide),if_neg (by decide),if_neg (by decide),if_neg (by decide),if_pos (by rfl)] at hc
  exact(nI (g:=⟨((5:Nat):Int),[],[],[],[],ak,av,pk,pv⟩) rfl hc s5 s6).2 hp
 ·obtain rfl:oid=[]:=by simpa using a1
  obtain rfl:by'=[]:=by simpa using a3
  obtain rfl:nm=[]:=by simpa using a4
  obtain⟨⟨rfl,rfl⟩,rfl,rfl⟩:(ak=0∧av=[])∧pk=0∧pv=[]:=by simpa using a5
  rw[if_neg (by decide),if_pos (by decide)] at hc
  by_cases ho:Al 22 tx=true
  ·rw[if_pos ho] at hc
   obtain rfl:=Option.some.inj hc
   obtain⟨-,e2,e3⟩:=Uz ho
   show((⟨6,[],Eo 22 (chS 22 tx),[],[],0,[],0,[]⟩:Gn),Fi 22 (chS 22 tx)==0)=_
   rw[e2,e3];rfl
  ·rw[if_neg ho] at hc;cases hc
 ·obtain rfl:oid=[]:=by simpa using a1
  obtain rfl:tx=[]:=by simpa using a2
  obtain rfl:nm=[]:=by simpa using a4
  obtain⟨⟨rfl,rfl⟩,rfl,rfl⟩:(ak=0∧av=[])∧pk=0∧pv=[]:=by simpa using a5
  rw[if_neg (by decide),if_neg (by decide),if_pos (by decide)] at hc
  obtain rfl:=Option.some.inj hc
  rfl
 ·obtain rfl:tx=[]:=by simpa using a2
  obtain rfl:by'=[]:=by simpa using a3
  obtain rfl:nm=[]:=by simpa using a4
  obtain⟨⟨rfl,rfl⟩,rfl,rfl⟩:(ak=0∧av=[])∧pk=0∧pv=[]:=by simpa using a5
  rw[if_neg (by decide),if_neg (by decide),if_neg (by decide),if_neg (by decide),if_neg (by decide),if_pos (by rfl)] at hc
  by_cases ho:Ej oid=true
  ·rw[if_pos ho] at hc
   obtain rfl:=Option.some.inj hc
   obtain⟨e1,e2⟩:=jL ho
   show((⟨8,odT (Bm oid),[],[],[],0,[],0,[]⟩:Gn),(odC (Bm oid):Int)==0)=_
   rw[e1,e2];rfl
  ·rw[if_neg ho] at hc;cases hc
theorem ED {n:Nat} {c:List UInt8} (hn:n≤8) (hl:c.length≤800000) (h:(rdP n c).2=true):(rdP n c).1.k=n∧Cg (rdP n c).1=true∧D8 (rdP n c).1=some c∧G9 (rdP n c).1=true:=by
 rcases(by omega:n=0∨n=1∨n=2∨n=3∨n=4∨n=5∨n=6∨n=7∨n=8) with rfl|rfl|rfl|rfl|rfl|rfl|rfl|rfl|rfl
 ·obtain⟨oid,by',e1,e2,e3⟩:=EA hl (show(M8 0 c).2=true from h)
  show(M8 0 c).1.k=_∧Cg (M8 0 c).1=true∧D8 (M8 0 c).1=some c∧G9 (M8 0 c).1=true
  rw[e1]
  refine⟨rfl,by rw[Eh];simp,?_,rfl⟩
  unfold D8
  rw[if_pos rfl]
  simp only
  rw[if_pos e2,e3]
 ·have hd:Fi 22 c=0:=by simpa[rdP] using h
  obtain⟨-,i2,i3⟩:=Z6 hd
  refine⟨rfl,by rw[Eh];simp[rdP],?_,rfl⟩
  show(if Al 22 (Eo 22 c)=true then some (chS 22 (Eo 22 c)) else none)=_
  rw[if_pos i2,i3]
 ·have hd:Fi 22 c=0:=by simpa[rdP] using h
  obtain⟨-,i2,i3⟩:=Z6 hd
  refine⟨rfl,by rw[Eh];simp[rdP],?_,rfl⟩
  show(if Al 22 (Eo 22 c)=true then some (chS 22 (Eo 22 c)) else none)=_
  rw[if_pos i2,i3]
 ·exact⟨rfl,by rw[Eh];simp[rdP],rfl,rfl⟩
 ·have h':(Pl 4 c).2=true:=h
  have hi:=fun n hh=>DX (b:=c) (n:=n) hh (by omega)
  show(Pl 4 c).1.k=_∧Cg (Pl 4 c).1=true∧D8 (Pl 4 c).1=some c∧G9 (Pl 4 c).1=true
  unfold Pl at h'⊢
  generalize nmR c=q at h' hi⊢
  obtain⟨o,cc,p⟩:=q
  cases o with
  |none=>cases h'
  |some nm=>
   obtain⟨i1,i2⟩:=hi nm rfl
   refine⟨rfl,by rw[Eh];simp,?_,rfl⟩
   show(if nmV nm=true then some (nmE nm) else none)=_
   rw[if_pos i1,←i2]
 ·obtain⟨g,e1,e2,e3,e4⟩:=EB (show(Kg 5 c).2=true from h)
  show(Kg 5 c).1.k=_∧Cg (Kg 5 c).1=true∧D8 (Kg 5 c).1=some c∧G9 (Kg 5 c).1=true
  rw[e1]
  have hk:g.k=5:=by rw[e2]
  refine⟨hk,by rw[Eh,e2];simp,?_,?_⟩
  ·show D8 g=some c
   unfold D8
   rw[hk,if_neg (by decide),if_neg (by decide),if_neg (by decide),if_neg (by decide),if_pos rfl]
   exact e3
  ·show G9 g=true
   unfold G9;rw[e4];simp
 ·have hd:Fi 22 c=0:=by simpa[rdP] using h
  obtain⟨-,i2,i3⟩:=Z6 hd
  refine⟨rfl,by rw[Eh];simp[rdP],?_,rfl⟩
  show(if Al 22 (Eo 22 c)=true then some (chS 22 (Eo 22 c)) else none)=_
  rw[if_pos i2,i3]
 ·exact⟨rfl,by rw[Eh];simp[rdP],rfl,rfl⟩
 ·have hd:odC c=0:=by
   have h:((odC c:Int)==0)=true:=h
   rw[beq_iff_eq] at h;omega
  obtain⟨o1,o2⟩:=jM hd
  refine⟨rfl,by rw[Eh];simp[rdP],?_,rfl⟩
  show(if Ej (odT c)=true then some (Bm (odT c)) else none)=_
  rw[if_pos o1,o2]
theorem Po (g:Gn):gnW g=true↔Cg g=true∧Rz g=true∧(∃c,D8 g=some c)∧G9 g=true:=by
 unfold gnW
 simp only[Bool.and_eq_true,Option.isSome_iff_exists]
theorem eP {g:Gn} (h:gnW g=true) (hs:g.mid):Le (gnE g)=some g:=by
 obtain⟨h1,h2,⟨c,h3⟩,h4⟩:=(Po g).1 h
 obtain⟨n,hn,hk⟩:=Qx h3
 have hl:=hs.c
 rw[h3] at hl
 have hl:c.length≤700000:=hl
 have e:gnE g=Ah 2 n (Dw n) c:=by unfold gnE;rw[h3,hk];rfl
 have hr:=EC hk h1 h3 h4 hs.s
 rw[e,eM hn (by omega),hr]
 have:okP (g,true)=true:=by unfold okP;rw[h2];rfl
 rw[if_pos this]
theorem xZ {b:List UInt8} {g:Gn} (h:Le b=some g) (hl:b.length≤800000):gnW g=true∧b=gnE g:=by
 obtain⟨n,c,hn,hc,hb,ho,rfl⟩:=xY h
 unfold okP at ho
 rw[Bool.and_eq_true] at ho
 obtain⟨i1,i2,i3,i4⟩:=ED hn (by omega) ho.1
 refine⟨(Po _).2 ⟨i2,ho.2,⟨c,i3⟩,i4⟩,?_⟩
 unfold gnE
 rw[i1,i3];exact hb
theorem JD {g:Gn} (hs:g.mid):Wb g=gnW g:=by
 cases hw:gnW g
 ·cases hv:Wb g with
  |false=>rfl
  |true=>
   exfalso
   unfold Wb at hv
   simp only[Bool.and_eq_true] at hv
   obtain⟨v1,v2,v3,v4⟩:=hv
   obtain⟨c,h3⟩:=Option.isSome_iff_exists.1 v3
   obtain⟨n,hn,hk⟩:=Qx h3
   have hp:G9 g=false:=by
    unfold gnW at hw;rw[v1,v2,v3] at hw;exact hw
   have h5:g.k=5:=by
    unfold G9 at hp
    simp only[Bool.or_eq_false_iff,Bool.not_eq_false',beq_iff_eq] at hp
    exact hp.1
   have hl:=hs.c
   rw[h3] at hl
   have hl:c.length≤700000:=hl
   have e:gnE g=Ah 2 5 (Dw (5:Nat)) c:=by unfold gnE;rw[h3,h5];rfl
   have hc:Ob g=some c:=by
    unfold D8 at h3
    rw[h5,if_neg (by decide),if_neg (by decide),if_neg (by decide),if_neg (by decide),if_pos rfl] at h3
    exact h3
   have hq:=(nI h5 hc hs.s.a hs.s.p).1
   have:((zT g.ak g.av||fiB g.ak g.av)&&fiB g.pk g.pv)=false:=by
    unfold G9 at hp;rw[h5] at hp;exact hp
   rw[this] at hq
   rw[e,eM (by omega) (by omega)] at v4
   have ho:okP (rdP 5 c)=false:=by
    show((Kg 5 c).2&&Rz (Kg 5 c).1)=false
    rw[hq];rfl
   rw[ho] at v4;cases v4
 ·obtain⟨h1,h2,⟨c,h3⟩,h4⟩:=(Po g).1 hw
  unfold Wb
  rw[eP hw hs,h1,h2,h3];rfl
end Go.Proofs.YtjakkpcpommojaaGreatDoor
