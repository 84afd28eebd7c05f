/- MP: the texts GenM GenR DnP GenL GenX GenY, one behind the other. No condition but what each lemma says. -/
import Derived.Test.YtbedjionhmaafaaGreatDoorMO
set_option linter.all false
set_option maxRecDepth 100000
set_option maxHeartbeats 16000000
namespace Go.Proofs.YtbedjionhmaafaaGreatDoor
open Go.RowKit
variable {b c l v:List UInt8} {x:El} {k:Int} {n:Nat} {g:Gn} {a:Att} {r:List Att}
def rdP (n:Nat) (c:List UInt8):Gn×Bool:=match n with
 |0=>T8 0 c
 |1=>(⟨1,[],Ke 22 c,[],[],0,[],0,[]⟩,Lz 22 c==0)
 |2=>(⟨2,[],Ke 22 c,[],[],0,[],0,[]⟩,Lz 22 c==0)
 |3=>(⟨3,[],[],c,[],0,[],0,[]⟩,true)
 |4=>Wq 4 c
 |5=>Rg 5 c
 |6=>(⟨6,[],Ke 22 c,[],[],0,[],0,[]⟩,Lz 22 c==0)
 |7=>(⟨7,[],[],c,[],0,[],0,[]⟩,true)
 |8=>(⟨8,odT c,[],[],[],0,[],0,[]⟩,(odC c:Int)==0)
 |_=>(gz,false)
def Ws (x:El):Bool:=x.c==2&&(decide (x.n≤8)&&(x.k==Jq x.n))
def okP (p:Gn×Bool):Bool:=p.2&&cC p.1
def cE (b:List UInt8) (r:ElR):Option Gn:=if r.code≠0 then none else if Ws r.x=false then none else if okP (rdP r.x.n ((b.drop r.x.body).take (r.x.stop-r.x.body)))=true then some (rdP r.x.n ((b.drop r.x.body).take (r.x.stop-r.x.body))).1 else none
def Ks (b:List UInt8):Option Gn:=cE b (Em b)
def kH (r:ElR):Nat×Nat:=if r.code≠0 then(r.code,r.off) else if Ws r.x=false then(3,0) else(6,r.x.body)
def U5 (b:List UInt8):Nat×Nat:=kH (Em b)
theorem cF (h:Ws x=false):cE b ⟨x,0,0⟩=none∧kH ⟨x,0,0⟩=(3,0):=by
 refine⟨?_,?_⟩
 ·unfold cE;rw[Ai Ab,Aj h]
 ·unfold kH;rw[Ai Ab,Aj h]
theorem zK (h:Ws x=true) (d:okP (rdP x.n ((b.drop x.body).take (x.stop-x.body)))=false):cE b ⟨x,0,0⟩=none∧kH ⟨x,0,0⟩=(6,x.body):=by
 refine⟨?_,?_⟩
 ·unfold cE;simp only;rw[Ai Ab,Ai (by rw[h];simp),Ai (by rw[d];simp)]
 ·unfold kH;rw[Ai Ab,Ai (by rw[h];simp)]
theorem oW (h:Ws x=true) (d:okP (rdP x.n ((b.drop x.body).take (x.stop-x.body)))=true):cE b ⟨x,0,0⟩=some (rdP x.n ((b.drop x.body).take (x.stop-x.body))).1:=by
 unfold cE;simp only;rw[Ai Ab,Ai (by rw[h];simp),Aj d]
def gnR (o:Option Gn) (e:Nat×Nat):AV:=match o with
 |some g=> .tup [gnQ g,erA 0 0]
 |none=> .tup [gnQ gz,erA e.1 e.2]
theorem T0 (b:List UInt8):(U5 b).1≠0∧(U5 b).2≤b.length:=by
 have e:=Fa b
 unfold U5 kH
 by_cases d:(Em b).code≠0
 ·rw[Aj d];exact⟨d,e.2.2.1⟩
 rw[Ai d]
 split
 ·exact⟨Ab,Nat.zero_le _⟩
 ·have:=e.1 (As.1 d)
  exact⟨Ab,by show(Em b).x.body≤_;omega⟩
theorem WJ (k:Int) (c:List UInt8):(T8 k c).1.by'.length≤c.length:=by
 have d:=fun p=>U4 (c:=c) (p:=p)
 unfold T8
 generalize H8 c=l at d
 match l with
 |[]=>exact Nat.zero_le _
 |[x]=>exact Nat.zero_le _
 |x::y::z::r=>exact Nat.zero_le _
 |[p,q]=>
  show(eQ k p q).1.by'.length≤_
  unfold eQ
  split
  ·exact Nat.zero_le _
  ·have:=d q Ab
   have:=Wr q 0
   show(inn q 0).length≤_
   omega
theorem WK (k:Int) (c:List UInt8):(Rg k c).1.by'=[]:=by
 unfold Rg
 match H8 c with
 |[]=>rfl
 |[q]=>rfl
 |x::y::z::r=>rfl
 |[p,q]=>
  show(if(Gj p 0).isSome&&L0 (inn p 0) then Rf k q (pK (inn p 0)) (pV (inn p 0)) else(gz,false)).1.by'=[]
  split<;>rfl
theorem WL (k:Int) (c:List UInt8):(Wq k c).1.by'=[]:=by
 unfold Wq;split<;>rfl
theorem OD {C:Cx} {o:Oper} {σ:AS} {t:Nat} {x y:Operand} (h:rdF k=none) (e:o.op= .lookup 535 x y true) (j:o.dst=some t) (f:t<C.N) (i:σ.eval x=some rdA) (d:σ.eval y=some (iv k)):
 LA Tryz.prog C o ⟨[],some (t,.tup [.d (.v .nilFunc),bv false]),none,none,[],[],[],[]⟩ σ:=by
 have:=Of e j f i d
 unfold fnA at this
 rwa[h] at this
def n5:Nat→FuncId
 |0=>387
 |3=>389
 |4=>390
 |5=>391
 |7=>389
 |8=>392
 |_=>388
theorem WM (f:n≤8) (c:List UInt8) (e:c.length≤800000):aC (n5 n) [ptA n c] (gbA (rdP n c))∧(rdP n c).1.by'.length≤100000000:=by
 have d:([]:List UInt8).length≤100000000:=Ab
 rcases(by omega:n=0∨n=1∨n=2∨n=3∨n=4∨n=5∨n=6∨n=7∨n=8) with rfl|rfl|rfl|rfl|rfl|rfl|rfl|rfl|rfl
 ·exact⟨OB 0 c e,by have:=WJ 0 c;show(T8 0 _).1.by'.length≤_;omega⟩
 ·exact⟨X2 1 c Aa,d⟩
 ·exact⟨X2 2 c Aa,d⟩
 ·exact⟨cA 3 c Aa,by show c.length≤_;omega⟩
 ·exact⟨OA 4 c e,by show(Wq 4 _).1.by'.length≤_;rw[WL];exact d⟩
 ·exact⟨OC 5 c e,by show(Rg 5 _).1.by'.length≤_;rw[WK];exact d⟩
 ·exact⟨X2 6 c Aa,d⟩
 ·exact⟨cA 7 c Aa,by show c.length≤_;omega⟩
 ·exact⟨oU 8 c Aa,d⟩
theorem Lf {p:Prop} (h:p:=by first|rfl|(simp only[D8,AV.ren,AV.give,D.un,Ef,D7,D6,Ap,Am,Ak,Ea,Ed,G2,F8,Ex,Gv,Ha,I4,Fi];first|done|rfl)):p:=h
theorem OE (b:List UInt8) (J:b.length≤800000) (x:El) (E:x.body≤x.stop∧x.stop≤b.length) (y:x.n≤8) (s:aC 69 [.d (By false b)] (erR ⟨x,0,0⟩)):aC 262 [.d (By false b)] (gnR (cE b ⟨x,0,0⟩) (kH ⟨x,0,0⟩)):=by
 obtain⟨c,n,k,p,d,f⟩:=x
 simp only at E y
 have I:((b.drop d).take (f-d)).length≤b.length:=by rw[Ec,Eh];omega
 obtain⟨t,A⟩:=WM y ((b.drop d).take (f-d)) Aa
 have gt:Ws ⟨c,n,k,p,d,f⟩=(c==2&&(true&&(k==Jq n))):=by unfold Ws;rw[Aq y]
 obtain⟨i,h,u⟩:∃i:Bool,Jq (n:Int)=i∧aC 337 [iv n] (bv i):=⟨_,rfl,oV n⟩
 rw[h] at gt
 rcases(by omega:n=0∨n=1∨n=2∨n=3∨n=4∨n=5∨n=6∨n=7∨n=8) with rfl|rfl|rfl|rfl|rfl|rfl|rfl|rfl|rfl
 all_goals cases i
 all_goals try(exact Bg h Ae)
 all_goals
  clear y h
  cases o:(c==2)
  ·have e:=cF (b:=b) (gt.trans (by rw[o];rfl))
   rw[e.1,e.2]
   have H:((c:Int) !=2)=true:=by rw[Av];rw[An] at o;omega
   refine acQ 70 Tryz.func262 rfl rfl fun _ _ _=> ?_
   (repeat'((conv=>whnf);first|refine Ej ?_|refine Ee ?_|refine Gp asP ?_|refine Al s Lf ?_|refine Al Lp rfl ?_|refine NLa.mk ⟨_,Of rfl rfl (ltN rfl) rfl rfl,?_⟩|refine zF ?_|exact zE))
  have H:((c:Int) !=2)=false:=by rw[B1];rw[A9] at o;omega
  cases k
  all_goals try
   have C:=gt.trans (show _=false by rw[o];rfl)
   have e:=cF (b:=b) C
   rw[e.1,e.2]
   refine acQ 70 Tryz.func262 rfl rfl fun _ _ _=> ?_
   (repeat'((conv=>whnf);first|refine Ej ?_|refine Ee ?_|refine He asP ?_|refine Al s Lf ?_|refine Al Lp rfl ?_|refine Al u rfl ?_|refine NLa.mk ⟨_,Of rfl rfl (ltN rfl) rfl rfl,?_⟩|refine zF ?_|exact zE))
  have B:=gt.trans (show _=true by rw[o];rfl)
  have m:=zK (b:=b) B
  have w:=oW (b:=b) B
  simp only at m w
  generalize rdP _ ((b.drop d).take (f-d))=q at t A m w
  obtain⟨g,F⟩:=q
  simp only at A m w
  have z:=gQ g A
  simp only[gbA] at t
  cases F
  ·rw[(m rfl).1,(m rfl).2]
   refine acQ 70 Tryz.func262 rfl rfl fun _ _ _=> ?_
   (repeat'((conv=>whnf);first|refine Ej ?_|refine Ee ?_|refine He asP ?_|refine Al s Lf ?_|refine Al Lp rfl ?_|refine Al u rfl ?_|refine NSl.slice (d) (f) ?_|refine Al t Lf ?_|refine NLa.mk ⟨_,Of rfl rfl (ltN rfl) rfl rfl,?_⟩|refine zF ?_|exact zE))
  cases j:cC g
  ·rw[j] at z
   have e:=m (show(true&&cC g)=false by rw[j];rfl)
   rw[e.1,e.2]
   refine acQ 70 Tryz.func262 rfl rfl fun _ _ _=> ?_
   (repeat'((conv=>whnf);first|refine Ej ?_|refine Ee ?_|refine He asP ?_|refine Al s Lf ?_|refine Al Lp rfl ?_|refine Al u rfl ?_|refine NSl.slice (d) (f) ?_|refine Al t Lf ?_|refine Al z Lf ?_|refine NLa.mk ⟨_,Of rfl rfl (ltN rfl) rfl rfl,?_⟩|refine zF ?_|exact zE))
  ·rw[j] at z
   rw[w (show(true&&cC g)=true by rw[j];rfl)]
   refine acQ 70 Tryz.func262 rfl rfl fun _ _ _=> ?_
   (repeat'((conv=>whnf);first|refine Ej ?_|refine Ee ?_|refine He asP ?_|refine Al s Lf ?_|refine Al Lp rfl ?_|refine Al u rfl ?_|refine NSl.slice (d) (f) ?_|refine Al t Lf ?_|refine Al z Lf ?_|refine NLa.mk ⟨_,Of rfl rfl (ltN rfl) rfl rfl,?_⟩|refine zF ?_|exact zE))
theorem Oz (b:List UInt8) (A:b.length≤800000):aC 262 [.d (By false b)] (gnR (Ks b) (U5 b)):=by
 have d:=Hj b Aa
 have q:=Fa b
 unfold Ks U5
 generalize Em b=r at d q⊢
 obtain⟨x,c,o⟩:=r
 by_cases f:c=0
 ·subst f
  obtain⟨t,s,w,z,j⟩:=q.1 rfl
  simp only at t s w z j
  subst j
  have y:x.body≤x.stop∧x.stop≤b.length:=Aa
  by_cases h:x.n≤8
  ·exact OE b A x y h d
  ·have gt:Ws x=false:=by unfold Ws;rw[Ao h];simp
   have e:=cF (b:=b) gt
   rw[e.1,e.2]
   obtain⟨c,n,k,p,i,m⟩:=x
   simp only at h
   have u:rdF (n:Int)=none:=by
    unfold rdF
    rw[Ai Aa,Ai Aa,Ai Aa,Ai Aa,Ai Aa,Ai Aa]
   show Es _ _ _ (fun r=>r= .tup [gnQ gz,erA 3 0])
   refine acQ 70 Tryz.func262 rfl rfl fun _ _ _=> ?_
   (repeat'((conv=>whnf);first|refine Ej ?_|refine Ee ?_|refine Al d Lf ?_|refine Al Lp rfl ?_|refine NLa.mk ⟨_,OD u rfl rfl (ltN rfl) rfl rfl,?_⟩|refine zF ?_|exact zE))
 ·have B:((c:Int) !=0)=true:=by rw[Av];omega
  rw[show cE b ⟨x,c,o⟩=none by unfold cE;rw[Aj f],show kH ⟨x,c,o⟩=(c,o) by unfold kH;rw[Aj f]]
  show Es _ _ _ (fun r=>r= .tup [gnQ gz,erA c o])
  refine acQ 70 Tryz.func262 rfl rfl fun _ _ _=> ?_
  (repeat'((conv=>whnf);first|refine Gp asP ?_|refine Al d Lf ?_|refine zF ?_|exact zE))
def gnE (g:Gn):List UInt8:=Ei 2 g.k.toNat (Jq g.k) ((Nx g).getD [])
def eR (g:Gn):Bool:=Mz g&&(cC g&&((Nx g).isSome&&(Ks (gnE g)).isSome))
def kI (o:Bool) (b:List UInt8):AV:=if o=true then .tup [Hp 0 5 b,iv 0] else .tup [Ff,iv 8]
theorem kJ (h:Nx g=some c):∃n:Nat,n≤8∧g.k=n:=by
 unfold Nx at h
 by_cases i:g.k=0
 ·exact⟨0,Aa,i⟩
 rw[Ai i] at h
 by_cases j:g.k=1∨g.k=2∨g.k=6
 ·exact⟨g.k.toNat,Aa,Aa⟩
 rw[Ai j] at h
 by_cases m:g.k=3∨g.k=7
 ·exact⟨g.k.toNat,Aa,Aa⟩
 rw[Ai m] at h
 by_cases d:g.k=4
 ·exact⟨4,Aa,d⟩
 rw[Ai d] at h
 by_cases e:g.k=5
 ·exact⟨5,Aa,e⟩
 rw[Ai e] at h
 by_cases f:g.k=8
 ·exact⟨8,Aa,f⟩
 rw[Ai f] at h;cases h
theorem H3 {p:Prop} (h:p:=by first|rfl|(simp only[D8,AV.ren,AV.give,D.un,Ef,D7,D6,Ap,Am,Ak,Ea,Ed,G2,F8,Ex,Gv,Ha,I4,Fi,Fy,E8];first|done|rfl)):p:=h
theorem vD (g:Gn) (A:g.sm) (s:((Nx g).getD []).length≤700000):aC 261 [gnA g] (kI (eR g) (gnE g)):=by
 have h:=FX g
 have i:=gQ g (by have:=A.b;omega)
 have f:=kG g A
 unfold eR kI
 cases t:Mz g
 ·rw[t] at h
  show Es _ _ _ (fun r=>r= .tup [Ff,iv 8])
  refine acQ 48 Tryz.func261 rfl rfl fun _ _ _=> ?_
  (repeat'((conv=>whnf);first|refine Ej ?_|refine Al h H3 ?_|exact zE))
 rw[t] at h
 cases u:cC g
 ·rw[u] at i
  show Es _ _ _ (fun r=>r= .tup [Ff,iv 8])
  refine acQ 48 Tryz.func261 rfl rfl fun _ _ _=> ?_
  (repeat'((conv=>whnf);first|refine Ej ?_|refine Ee ?_|refine Al h H3 ?_|refine Al i H3 ?_|exact zE))
 rw[u] at i
 cases j:Nx g with
 |none=>
  rw[j] at f
  have f:aC 336 [gnA g] (.tup [.d (By false []),iv 8]):=f
  show Es _ _ _ (fun r=>r= .tup [Ff,iv 8])
  refine acQ 48 Tryz.func261 rfl rfl fun _ _ _=> ?_
  (repeat'((conv=>whnf);first|refine Ej ?_|refine Ee ?_|refine Al h H3 ?_|refine Al i H3 ?_|refine Al f H3 ?_|exact zE))
 |some c=>
  obtain⟨n,K,p⟩:=kJ j
  rw[j] at f s
  have f:aC 336 [gnA g] (.tup [.d (By false c),iv 0]):=f
  have s:c.length≤700000:=s
  have o:=oV g.k
  have m:=J1 2 n (Jq g.k) c Aa Aa Aa
  have q:=Ga 2 n (Jq g.k) c Aa
  have d:=Oz (Ei 2 n (Jq g.k) c) Aa
  have z:=T0 (Ei 2 n (Jq g.k) c)
  have e:gnE g=Ei 2 n (Jq g.k) c:=by unfold gnE;rw[j,p];rfl
  rw[e]
  generalize U5 (Ei 2 n (Jq g.k) c)=er at d z
  obtain⟨y,C⟩:=er
  simp only at z
  have H:((y:Int) !=0)=true:=by rw[Av];omega
  obtain⟨k,B,I,E,F,M,J,pk,L⟩:=g
  simp only at p
  subst p
  simp only at o m d q⊢
  generalize Ei 2 n (Jq (n:Int)) c=b at m d⊢
  cases w:Ks b with
  |none=>
   rw[w] at d
   have d:aC 262 [.d (By false b)] (.tup [gnQ gz,erA y C]):=d
   show Es _ _ _ (fun r=>r= .tup [Ff,iv 8])
   refine acQ 48 Tryz.func261 rfl rfl fun _ _ _=> ?_
   (repeat'((conv=>whnf);first|refine Ej ?_|refine Ee ?_|refine Gp asP ?_|refine Al h H3 ?_|refine Al i H3 ?_|refine Al f H3 ?_|refine Al o rfl ?_|refine Al m H3 ?_|refine Al d H3 ?_|refine zF ?_|exact zE))
  |some v=>
   rw[w] at d
   have d:aC 262 [.d (By false b)] (.tup [gnQ v,erA 0 0]):=d
   show Es _ _ _ (fun r=>r= .tup [Hp 0 5 b,iv 0])
   refine acQ 48 Tryz.func261 rfl rfl fun _ _ _=> ?_
   (repeat'((conv=>whnf);first|refine Ee ?_|refine Al h H3 ?_|refine Al i H3 ?_|refine Al f H3 ?_|refine Al o rfl ?_|refine Al m H3 ?_|refine Al d H3 ?_|refine zF ?_|exact zE))
structure Gn.mid (g:Gn):Prop where
 s:g.sm
 c:((Nx g).getD []).length≤700000
def kK (l:List Gn):Bool:= !l.isEmpty&&l.all eR
def eS (l:List Gn):List UInt8:=Ei 0 16 true (l.map gnE).flatten
structure gnsM (l:List Gn):Prop where
 n:l.length≤1000000
 m:∀g∈l,g.mid
 e:(l.map gnE).flatten.length≤800000000
theorem rz (l:List Gn) (y:gnsM l):aC 200 [.d (Uz l)] (kI (kK l) (eS l)):=by
 obtain⟨B,u,A⟩:=y
 have z:=L8 (l.map gnE) Aa (by rw[Ba];omega)
 refine acQ 35 Tryz.func200 rfl rfl fun _ _ _=> ?_
 (all_goals(conv=>whnf))
 refine F2 [.s 4 1 22] (fun i:Nat=>i≤l.length∧(l.take i).all eR=true) (fun i=>l.length-i) (fun i=>⟨[(4,Fy 4 1 22 Iw ((l.take i).map gnE)),(9,.d (Uz l)),(10,iv l.length),(11,iv i)],[],[(4,(((l.take i).map gnE).length,1,22))]⟩) 0 ⟨Aa,rfl⟩ leQ ?_
 rintro i ⟨E,o⟩
 have t:((l.take i).map gnE).length≤1000000:=by rw[Ba,Ec];omega
 by_cases m:i<l.length
 ·have w:decide ((i:Int)<l.length)=true:=Aq Aa
  obtain⟨x,d⟩:∃p,l[i]?=some p:=⟨_,Ev m⟩
  have s:=u x (F9 d)
  have e:=vD x s.s s.c
  unfold kI at e
  cases f:eR x
  ·rw[f,Ai Ab] at e
   rw[show kI (kK l) (eS l)= .tup [Ff,iv 8] by unfold kI kK;rw[kB d f,Dt,Ai Ab]]
   (repeat'((conv=>whnf);first|refine Ej ?_|refine Ee ?_|refine Gp asP ?_|refine NIdx.tab (fun _=>rfl) d ?_|refine Al e H3 ?_|exact zE))
  ·rw[f,Aj rfl] at e
   have q:=Wo gnE d
   (repeat'((conv=>whnf);first|refine Ej ?_|refine Ee ?_|refine Gp asP ?_|refine NIdx.tab (fun _=>rfl) d ?_|refine Al e H3 ?_|refine E4 Iw (gnE x) ?_|refine zI ?_));(all_goals(conv=>whnf))
   refine⟨i+1,⟨Aa,Og eR d f o⟩,Aa,?_⟩
   rw[q]
   exact leQ
 ·have w:decide ((i:Int)<l.length)=false:=Ao Aa
  obtain rfl:i=l.length:=Aa
  rw[Bv] at o⊢
  by_cases j:l=[]
  ·subst j
   (repeat'((conv=>whnf);first|refine Ej ?_|refine Ee ?_|exact zE))
  ·have C:(((l.map gnE).length:Int)==0)=false:=by rw[An,Ba];intro h;exact j (Bn Aa)
   rw[show kI (kK l) (eS l)= .tup [Hp 0 5 (eS l),iv 0] by unfold kI kK;rw[o,Di,Aj (by cases l with|nil=>exact Bg rfl j|cons _ _=>rfl)]]
   (repeat'((conv=>whnf);first|refine He asP ?_|refine Al z H3 ?_|exact zE))
theorem oY (l:List Gn) (e:gnsM l):aC 363 [.d (Uz l)] (bv (kK l)):=by
 have d:=rz l e
 unfold kI at d
 cases f:kK l
 all_goals
  rw[f] at d
  first|rw[Aj rfl] at d|rw[Ai Ab] at d
  refine acQ 12 Tryz.func363 rfl rfl fun _ _ _=> ?_
  (repeat'((conv=>whnf);refine Al d H3 ?_));(all_goals(conv=>whnf))
  all_goals exact zE
theorem cG (h:Ey k l=true):Rx k (chS k l)=k∧Ke k (chS k l)=l∧Lz k (chS k l)=0:=by
 have:=TI h
 unfold Sh at this
 rwa[Aj h] at this
theorem kL (h:Lz k c=0):Rx k c=k∧Ey k (Ke k c)=true∧chS k (Ke k c)=c:=by
 unfold Lz at h
 unfold Rx Ke
 split at h
 ·cases h
 ·rename_i e
  split at h
  ·rename_i d
   rw[Ai e,Ai e,Aj d,Aj d]
   unfold okD at d
   grind
  ·cases h
theorem gR:∀{a b:List (List UInt8)},Mw (a++b)=true→Mw a=true
 |[],_,_=>rfl
 |[_],_,_=>rfl
 |x::y::r,b,h=>by
  have d:(decide (Ss x y<0)&&Mw (y::r++b))=true:=h
  rw[Et] at d
  rw[Mw,d.1,gR d.2];rfl
theorem eu (_:atV a=true) (d:a.sm):∃t:Tv,t.ok∧atE a=t.enc:=by
 have f:=Ma a.oid
 have:=d.o
 have:=d.v
 have e:=Ga 0 6 false (Gs a.oid) Aa
 exact⟨⟨0,16,true,Ei 0 6 false (Gs a.oid)++a.val⟩,⟨by show(0:Nat)≤3;omega,by show(16:Nat)≤30;omega,by grind⟩,rfl⟩
theorem WN (h:atV a=true) (m:a.sm):atO (atE a)=some a:=by
 obtain⟨o,j⟩:=kA h
 have A:=Ma a.oid
 have C:=m.o
 have B:=m.v
 obtain⟨y,s,f⟩:=(NT j).tv Aa
 obtain⟨x,d⟩:∃x:Tv,x=⟨0,6,false,Gs a.oid⟩:=⟨_,rfl⟩
 have p:x.ok:=by subst d;exact⟨by show(0:Nat)≤3;omega,by show(6:Nat)≤30;omega,by show(Gs a.oid).length≤_;omega⟩
 have e:atE a=Ei 0 16 true (tvsE [x,y]):=by
  unfold atE
  rw[Fm,Fm,←f]
  subst d
  show _=Ei 0 16 true (Ei 0 6 false (Gs a.oid)++(a.val++[]))
  rw[Am]
 have t:(tvsE [x,y]).length≤2147483600:=by
  have:=Ga 0 6 false (Gs a.oid) Aa
  rw[Fm,Fm,←f]
  subst d
  show(Ei 0 6 false (Gs a.oid)++(a.val++[])).length≤_
  simp only[En,Ax];omega
 have i:=oN x y p s t
 obtain⟨z,u⟩:=uI o
 have q:x.v=Gs a.oid:=by subst d;rfl
 have w:(x.el 0).isB 0 6 false=true:=by subst d;rfl
 rw[q,Aj ⟨w,u⟩,z,←f,←e] at i
 unfold atO
 rw[i]
 simp only
 rw[Aj j]
theorem FY {p id s:List UInt8} (h:Qp p=some (id,s)) (F:p.length≤2147483600):H7 id=true∧p=Ei 0 16 true (Ei 0 6 false (Gs id)++s)∧∃y:Tv,y.ok∧s=y.enc:=by
 obtain⟨E,u⟩:=vA h
 obtain⟨ts,f,j,-,-,H⟩:=J2 E
 have e:(tvsE ts).length≤2147483600:=by
  have:=Cf List.length j
  unfold Ei at this
  rw[L9] at this;omega
 obtain⟨q,w,-⟩:=Lu (c:=0) (n:=16) ts Aa Aa f e
 rw[←j] at w
 rw[w] at u
 have m:ts.length=2:=by rw[←i7 q ts];exact u
 obtain⟨x,y,rfl⟩:∃x y,ts=[x,y]:=by
  match ts,m with
  |[x,y],_=>exact⟨x,y,rfl⟩
 have d:=oN x y (f x Ab) (f y Ab) e
 rw[←j,h] at d
 by_cases i:(x.el 0).isB 0 6 false=true∧odC x.v=0
 ·rw[Aj i] at d
  simp only[A7,Prod.mk.injEq] at d
  obtain⟨rfl,rfl⟩:=d
  have z:=bA i.2
  have t:=i.1
  unfold El.isB Tv.el at t
  simp only[Et,A9] at t
  obtain⟨⟨A,B⟩,C⟩:=t
  have o:x.enc=Ei 0 6 false x.v:=by rw[Tv.enc,A,B,C]
  refine⟨z.1,?_,y,f y Ab,rfl⟩
  rw[z.2,←o,j,Fm,Fm]
  show Ei 0 16 true (x.enc++(y.enc++[]))=_
  rw[Am]
 ·rw[Ai i] at d;cases d
theorem WO {p:List UInt8} (h:atO p=some a) (j:p.length≤2147483600):atV a=true∧p=atE a:=by
 unfold atO at h
 cases d:Qp p with
 |none=>rw[d] at h;cases h
 |some w=>
  obtain⟨id,s⟩:=w
  rw[d] at h
  simp only at h
  by_cases e:Gt s=true
  ·rw[Aj e] at h
   obtain rfl:=Az h
   obtain⟨f,i,-⟩:=FY d j
   exact⟨by unfold atV;rw[f,e];rfl,i⟩
  ·rw[Ai e] at h;cases h
def kM:List (List UInt8)→List (List UInt8)→List Att→Option (List Att)
 |[],_,out=>some out
 |p::r,ps,out=>match atO p with
  |none=>none
  |some a=>if Mw (ps++[p])=true then kM r (ps++[p]) (out++[a]) else none
theorem cH (b:List UInt8):∀(l:List El) (ps:List (List UInt8)) (d:List Att),(Y8 b l ps d).1=kM (l.map (elO b)) ps d
 |[],_,_=>rfl
 |x::r,ps,d=>by
  rw[Y8,Bc,kM]
  cases atO (elO b x) with
  |none=>rfl
  |some a=>
   simp only
   by_cases h:Mw (ps++[elO b x])=true
   ·rw[Aj h,Aj h];exact cH b r _ _
   ·rw[Ai h,Ai h]
theorem oZ:∀{r:List Att} {ps:List (List UInt8)} {d:List Att},r.all atV=true→(∀a∈r,a.sm)→Mw (ps++r.map atE)=true→kM (r.map atE) ps d=some (d++r)
 |[],_,_,_,_,_=>by simp[kM]
 |a::r,ps,d,h,hs,ho=>by
  rw[List.all_cons,Et] at h
  rw[Bc] at ho⊢
  have e:Mw ((ps++[atE a])++r.map atE)=true:=by rw[Bt];exact ho
  rw[kM,WN h.1 (hs a Ab)]
  simp only
  rw[Aj (gR e),oZ h.2 (fun k f=>hs k (by simp[f])) e,Bt];rfl
theorem pA:∀{e ps:List (List UInt8)} {d z:List Att},(∀p∈e,p.length≤2147483600)→kM e ps d=some z→∃r:List Att,z=d++r∧r.all atV=true∧e=r.map atE∧(e≠[]→Mw (ps++e)=true)
 |[],_,d,z,_,h=>by
  rw[kM] at h
  simp_all
 |p::e,ps,d,z,hl,h=>by
  rw[kM] at h
  cases i:atO p with
  |none=>rw[i] at h;cases h
  |some a=>
   rw[i] at h
   simp only at h
   by_cases j:Mw (ps++[p])=true
   ·rw[Aj j] at h
    obtain⟨r,u,s,m,o⟩:=pA (fun q f=>hl q (by simp[f])) h
    obtain⟨t,w⟩:=WO i (hl p Ab)
    refine⟨a::r,by rw[u,Bt];rfl,by rw[List.all_cons,t,s];rfl,by rw[Bc,←w,←m],fun _=> ?_⟩
    by_cases f:e=[]
    ·subst f;exact j
    ·have:=o f
     rwa[Bt] at this
   ·rw[Ai j] at h;cases h
theorem WP (h:r.all atV=true) (f:∀a∈r,a.sm):∃ts:List Tv,(∀t∈ts,t.ok)∧r.map atE=ts.map Tv.enc:=
 jW fun p d=>by
  obtain⟨a,e,rfl⟩:=Cl.1 d
  grind [eu,List.all_eq_true]
theorem OF (h:My r=true) (y:rdnZ r):(Pf (Ka r)).1=some r:=by
 obtain⟨s,i,w⟩:=Zo h
 obtain⟨z,o,A⟩:=y
 obtain⟨ts,p,f⟩:=WP i o
 have m:(r.map atE).flatten=tvsE ts:=by rw[f,Iq]
 obtain⟨q,u,t⟩:=Lu (c:=0) (n:=17) ts Aa Aa p (by rw[←m];omega)
 unfold Pf Ka
 rw[m,u,NY,Ai Ab]
 have d:els q ts≠[]:=by
  intro e
  have:=Cf List.length e
  rw[i7] at this
  have j:=Cf List.length f
  rw[Ba,Ba] at j
  exact s (Bn (by rw[j];exact this))
 simp only
 rw[Ai d,cH,t,←f]
 exact oZ i o w
theorem pB (h:(Pf b).1=some r) (B:b.length≤2147483600):My r=true∧b=Ka r:=by
 unfold Pf NY at h
 by_cases d:(Dn b 0 17).code≠0
 ·rw[Aj d] at h;cases h
 rw[Ai d] at h
 obtain⟨ts,t,m,-,-,-⟩:=J2 (As.1 d)
 have w:(tvsE ts).length≤b.length:=by
  have:=Cf List.length m
  unfold Ei at this
  rw[L9] at this;omega
 obtain⟨q,o,j⟩:=Lu (c:=0) (n:=17) ts Aa Aa t Aa
 rw[←m] at o j
 rw[o] at h
 simp only at h
 by_cases f:els q ts=[]
 ·rw[Aj f] at h;cases h
 rw[Ai f,cH,j] at h
 obtain⟨C,i,A,E,z⟩:=pA (fun p s=>by
  have:=Lb s
  rw[←Iq] at this;omega) h
 rw[Ap] at i
 subst i
 have u:ts.map Tv.enc≠[]:=by
  intro e
  have y:ts=[]:=by simpa using e
  subst y;exact f rfl
 grind [My,absurd,Ka,Iq]
def nmP:List (List UInt8)→List (List Att)→Option (List (List Att))
 |[],out=>some out
 |p::r,out=>match(Pf p).1 with
  |none=>none
  |some a=>nmP r (out++[a])
theorem kN (b:List UInt8):∀(l:List El) (d:List (List Att)),(nmL b l d).1=nmP (l.map (elO b)) d
 |[],_=>rfl
 |x::r,d=>by
  rw[nmL,Bc,nmP]
  generalize Pf (elO b x)=q
  obtain⟨o,c,p⟩:=q
  cases o with
  |none=>rfl
  |some a=>exact kN b r _
theorem zL:∀{n d:List (List Att)},n.all My=true→(∀r∈n,rdnZ r)→nmP (n.map Ka) d=some (d++n)
 |[],_,_,_=>by simp[nmP]
 |r::n,d,h,hs=>by
  rw[List.all_cons,Et] at h
  have f:=hs r Ab
  rw[Bc,nmP,OF h.1 f]
  simp only
  rw[zL h.2 (fun k e=>hs k (by simp[e])),Bt];rfl
theorem zM:∀{e:List (List UInt8)} {d z:List (List Att)},(∀p∈e,p.length≤2147483600)→nmP e d=some z→∃n:List (List Att),z=d++n∧n.all My=true∧e=n.map Ka
 |[],d,z,_,h=>by
  rw[nmP] at h
  simp_all
 |p::e,d,z,hl,h=>by
  rw[nmP] at h
  cases f:(Pf p).1 with
  |none=>rw[f] at h;cases h
  |some a=>
   rw[f] at h
   obtain⟨n,m,t,i⟩:=zM (fun q s=>hl q (by simp[s])) h
   obtain⟨j,o⟩:=pB f (hl p Ab)
   exact⟨a::n,by rw[m,Bt];rfl,by rw[List.all_cons,j,t];rfl,by rw[Bc,←o,←i]⟩
theorem ew (d:rdnZ r):∃t:Tv,t.ok∧Ka r=t.enc:=by
 have e:=d.e
 exact⟨⟨0,17,true,(r.map atE).flatten⟩,⟨by show(0:Nat)≤3;omega,by show(17:Nat)≤30;omega,by grind⟩,rfl⟩
theorem WQ {n:List (List Att)} (h:nmV n=true) (d:nmZ n):(nmR (nmE n)).1=some n:=by
 obtain⟨ts,i,f⟩:=jW (l:=n.map Ka) fun p j=>by
  obtain⟨r,o,rfl⟩:=Cl.1 j
  exact ew (d.r r o)
 have e:(n.map Ka).flatten=tvsE ts:=by rw[f,Iq]
 have t:=d.e
 obtain⟨q,s,m⟩:=Lu (c:=0) (n:=16) ts Aa Aa i (by rw[←e];omega)
 unfold nmR nmE
 rw[e,s,nmQ,Ai Ab]
 simp only
 rw[kN,m,←f]
 exact zL h d.r
theorem kO {n:List (List Att)} (h:(nmR b).1=some n) (u:b.length≤2147483600):nmV n=true∧b=nmE n:=by
 unfold nmR nmQ at h
 by_cases d:(Dn b 0 16).code≠0
 ·rw[Aj d] at h;cases h
 rw[Ai d] at h
 obtain⟨ts,o,i,-,-,-⟩:=J2 (As.1 d)
 have t:(tvsE ts).length≤b.length:=by
  have:=Cf List.length i
  unfold Ei at this
  rw[L9] at this;omega
 obtain⟨q,j,f⟩:=Lu (c:=0) (n:=16) ts Aa Aa o Aa
 rw[←i] at j f
 rw[j] at h
 simp only at h
 rw[kN,f] at h
 obtain⟨n',e,s,w⟩:=zM (fun p m=>by
  have:=Lb m
  rw[←Iq] at this;omega) h
 rw[Ap] at e
 subst e
 refine⟨s,?_⟩
 grind [nmE,Iq]
theorem U6 {ts:List Tv} (h:∀t∈ts,t.ok):H8 (tvsE ts)=ts.map Tv.enc:=by
 have e:=Qo ts (tvsE ts) [] (tvsE ts).length h (by rw[Bv];rfl) (At _)
 have d:=Zn ts (tvsE ts) [] (tvsE ts).length (by rw[Bv];rfl) (At _)
 rw[Ax] at e d
 unfold H8
 rw[e,Ai Ab]
 exact d
theorem cI (h:H8 c≠[]):∃ts:List Tv,(∀t∈ts,t.ok)∧c=tvsE ts∧H8 c=ts.map Tv.enc:=by
 by_cases d:(F7 c 0 c.length).code≠0
 ·unfold H8 at h;rw[Aj d] at h;exact Bg rfl h
 ·obtain⟨ts,i,f,e⟩:=Tx _ c 0 c.length (At _) Aa Aa (As.1 d)
  rw[List.drop_zero,Nat.sub_zero,Bv] at e
  grind [U6]
theorem cJ {t:Tv} (h:t.ok) (n:Nat):Gj t.enc n=if t.c=2∧t.n=n∧t.k=true then some t.v else none:=by
 unfold Gj
 rw[Nk h]
 simp only
 have e:(t.el 0).isB 2 n true=decide (t.c=2∧t.n=n∧t.k=true):=by
  unfold El.isB Tv.el
  rw[Bz]
  simp only[Et,A9,A3]
  exact⟨fun⟨⟨a,b⟩,c⟩=>⟨a,c,b⟩,fun⟨a,c,b⟩=>⟨⟨a,b⟩,c⟩⟩
 have f:(t.enc.drop (0+t.hd)).take (0+t.enc.length-(0+t.hd))=t.v:=by
  rw[A0,A0,t.body]
  exact B3 (by rw[t.len];omega)
 by_cases d:t.c=2∧t.n=n∧t.k=true
 ·rw[e,Aq d,Ai Ab,Aj d]
  show some ((t.enc.drop (0+t.hd)).take (0+t.enc.length-(0+t.hd)))=_
  rw[f]
 grind
theorem U7 (d:n≤30) (e:v.length≤2147483600):Gj (Ei 2 n true v) n=some v:=by
 have:=cJ (t:=⟨2,n,true,v⟩) ⟨by show(2:Nat)≤3;omega,d,by show v.length≤_;omega⟩ n
 rw[Aj ⟨rfl,rfl,rfl⟩] at this
 exact this
theorem M0 (h:Gj b n=some v):b=Ei 2 n true v:=by
 unfold Gj at h
 split at h
 ·cases h
 ·rename_i f
  rw[not_or] at f
  obtain⟨t,m,o,j⟩:=Qn (As.1 f.1)
  have:=cJ m n
  rw[←j] at this
  have e:t.c=2∧t.n=n∧t.k=true:=by
   have d:=f.2
   rw[o] at d
   have d:(t.el 0).isB 2 n true=true:=by simpa using d
   unfold El.isB Tv.el at d
   simp only[Et,A9] at d
   exact⟨d.1.1,d.2,d.1.2⟩
  rw[Aj e] at this
  have i:Gj b n=some v:=by unfold Gj;rw[Ai (by rw[not_or];exact f)];exact h
  rw[this] at i
  obtain rfl:=Az i
  rw[j,Tv.enc,e.1,e.2.1,e.2.2]
def fiB (k:Int) (l:List UInt8):Bool:=Ey k l&&(!(l==[])&& !(k==22||k==26))
theorem ey (h:Ey k l=true) (i:l.length≤500000000):∃n:Nat,k=n∧Tv.ok ⟨0,n,false,chS k l⟩∧txE k l=Tv.enc ⟨0,n,false,chS k l⟩:=by
 obtain⟨n,e,d,rfl⟩:=bW h
 have f:=X0 h
 exact⟨n,rfl,⟨by show(0:Nat)≤3;omega,d,by grind⟩,by unfold txE;rw[Cr];rfl⟩
theorem zO (h:Ey k l=true) (m:l.length≤500000000):T7 (txE k l)=k∧Xz (txE k l)=l∧jY (txE k l)=true:=by
 obtain⟨n,q,f,j⟩:=ey h m
 have o:=cG h
 generalize e:(⟨0,n,false,chS k l⟩:Tv)=t at f j
 have d:=Nk f
 have s:Yx t.enc=true:=by unfold Yx;rw[d];subst e;rfl
 have i:bV t.enc=chS k l:=by
  unfold bV
  rw[d]
  show(t.enc.drop (0+t.hd)).take (0+t.enc.length-(0+t.hd))=_
  rw[A0,A0,t.body,B3 (by rw[t.len];omega)]
  subst e;rfl
 have p:(Em t.enc).x.n=n:=by rw[d];subst e;rfl
 grind [T7,Xz,jY]
theorem WR (h:jY b=true):Ey (T7 b) (Xz b)=true∧b=txE (T7 b) (Xz b):=by
 unfold jY at h
 rw[Et] at h
 obtain⟨m,i⟩:=h
 have e:=m
 unfold Yx at e
 simp only[Et,A9] at e
 obtain⟨t,u,f,o⟩:=Qn e.1
 have d:bV b=t.v:=by
  unfold bV
  rw[f,o]
  show(t.enc.drop (0+t.hd)).take (0+t.enc.length-(0+t.hd))=_
  rw[A0,A0,t.body,B3 (by rw[t.len];omega)]
 have j:(Em b).x.n=t.n:=by rw[f];rfl
 have s:t.c=0:=by have:=e.2.1;rw[f] at this;exact this
 have q:t.k=false:=by have:=e.2.2;rw[f] at this;simpa[Tv.el] using this
 rw[j,d] at i
 have i:Lz (t.n:Int) t.v=0:=by simpa using i
 obtain⟨p,y,z⟩:=kL i
 have w:T7 b=(t.n:Int):=by unfold T7;rw[Aj m,j,d];exact p
 have A:Xz b=Ke (t.n:Int) t.v:=by unfold Xz;rw[Aj m,j,d]
 grind [txE,Int.toNat_natCast,Tv.enc]
theorem kP (h:fiB k l=true) (j:l.length≤500000000):L0 (txE k l)=true∧pK (txE k l)=k∧pV (txE k l)=l:=by
 have m:=h
 unfold fiB at h
 rw[Et] at h
 obtain⟨e,f,i⟩:=zO h.1 j
 have d:L0 (txE k l)=true:=by
  unfold L0
  rw[e,f,i,h.2];rfl
 refine⟨d,?_,?_⟩
 ·unfold pK;rw[Aj d,e]
 ·unfold pV;rw[Aj d,f]
theorem zQ (h:L0 b=true):fiB (pK b) (pV b)=true∧b=txE (pK b) (pV b):=by
 have d:=h
 unfold L0 at d
 rw[Et] at d
 obtain⟨e,f⟩:=WR d.1
 unfold pK pV
 rw[Aj h,Aj h]
 grind [fiB]
theorem OG (e:Ey k l=true) (h:fiB k l=false) (d:l.length≤500000000):L0 (txE k l)=false:=by
 grind [L0,txE,zO,fiB]
def O0 (g:Gn):Bool:= !(g.k==5)||((zT g.ak g.av||fiB g.ak g.av)&&fiB g.pk g.pv)
def gnW (g:Gn):Bool:=Mz g&&(cC g&&((Nx g).isSome&&O0 g))
theorem kQ:zT k l=true↔k=0∧l=[]:=by unfold zT;simp
theorem pC (h:n≤8) (p:c.length≤2147483600):Ks (Ei 2 n (Jq n) c)=if okP (rdP n c)=true then some (rdP n c).1 else none:=by
 obtain⟨t,d⟩:∃t:Tv,t=⟨2,n,Jq n,c⟩:=⟨_,rfl⟩
 have e:t.ok:=by subst d;exact⟨by show(2:Nat)≤3;omega,by show n≤30;omega,by show c.length≤_;omega⟩
 have j:Ei 2 n (Jq n) c=t.enc:=by subst d;rfl
 have m:t.v=c:=by subst d;rfl
 have f:Ws (t.el 0)=true:=by
  unfold Ws;subst d
  show((2:Nat)==2&&(decide (n≤8)&&(Jq n==Jq n)))=true
  rw[Aq h];simp
 have i:(t.el 0).n=n:=by subst d;rfl
 have q:(t.enc.drop (t.el 0).body).take ((t.el 0).stop-(t.el 0).body)=c:=by
  show(t.enc.drop (0+t.hd)).take (0+t.enc.length-(0+t.hd))=_
  rw[A0,A0,t.body,B3 (by rw[t.len];omega),m]
 rw[j]
 unfold Ks
 rw[Nk e]
 cases o:okP (rdP n c)
 ·rw[Ai Ab]
  grind [zK]
 ·rw[Aj rfl]
  grind [oW]
theorem OH (h:Ks b=some g):∃n:Nat,∃c:List UInt8,n≤8∧c.length≤b.length∧b=Ei 2 n (Jq n) c∧okP (rdP n c)=true∧g=(rdP n c).1:=by
 unfold Ks cE at h
 by_cases e:(Em b).code≠0
 ·rw[Aj e] at h;cases h
 rw[Ai e] at h
 by_cases i:Ws (Em b).x=false
 ·rw[Aj i] at h;cases h
 rw[Ai i] at h
 obtain⟨t,w,f,u⟩:=Qn (As.1 e)
 have s:(b.drop (Em b).x.body).take ((Em b).x.stop-(Em b).x.body)=t.v:=by
  rw[f,u]
  show(t.enc.drop (0+t.hd)).take (0+t.enc.length-(0+t.hd))=_
  rw[A0,A0,t.body,B3 (by rw[t.len];omega)]
 have q:(Em b).x.n=t.n:=by rw[f];rfl
 rw[s,q] at h
 have d:Ws (Em b).x=true:=by simpa using i
 rw[f] at d
 unfold Ws at d
 simp only[Et,A9,A3] at d
 obtain⟨p,m,o⟩:=d
 have p:t.c=2:=p
 have m:t.n≤8:=m
 have o:t.k=Jq t.n:=o
 by_cases j:okP (rdP t.n t.v)=true
 ·rw[Aj j] at h
  grind [Option.some.inj,Tv.enc]
 ·rw[Ai j] at h;cases h
theorem zR {c d m:Nat} {j k:Bool} {u:List UInt8} (i:c≤3) (h:n≤30) (p:d≤3) (o:m≤30) (q:u.length≤500000000) (s:v.length≤500000000):H8 (Ei c n j u++Ei d m k v)=[Ei c n j u,Ei d m k v]:=by
 have:=U6 (ts:=[⟨c,n,j,u⟩,⟨d,m,k,v⟩]) (fun t f=>by
  rcases Bj.1 f with rfl|f
  ·exact⟨i,h,by show u.length≤_;omega⟩
  ·rw[Bh.1 f];exact⟨p,o,by show v.length≤_;omega⟩)
 rw[Fm,Fm] at this
 show H8 (Tv.enc ⟨c,n,j,u⟩++Tv.enc ⟨d,m,k,v⟩)=_
 have e:tvsE ([]:List Tv)=[]:=rfl
 rw[e,Am] at this
 exact this
theorem ez {c:Nat} {j:Bool} {u:List UInt8} (d:c≤3) (f:n≤30) (i:u.length≤500000000):H8 (Ei c n j u)=[Ei c n j u]:=by
 have:=U6 (ts:=[⟨c,n,j,u⟩]) (fun t h=>by
  rw[Bh.1 h];exact⟨d,f,by show u.length≤_;omega⟩)
 rw[Fm] at this
 have e:tvsE ([]:List Tv)=[]:=rfl
 rw[e,Am] at this
 exact this
theorem WS {d e:List UInt8} (h:H7 d=true) (q:d.length≤3000000) (y:e.length≤3000000):T8 0 (Ei 0 6 false (Gs d)++Ei 2 0 true e)=(⟨0,d,[],e,[],0,[],0,[]⟩,true):=by
 have u:=Ma d
 unfold T8
 rw[zR Aa Aa Aa Aa Aa Aa]
 show eQ 0 _ _=_
 obtain⟨t,f⟩:∃t:Tv,t=⟨0,6,false,Gs d⟩:=⟨_,rfl⟩
 have i:t.ok:=by subst f;exact⟨by show(0:Nat)≤3;omega,by show 6≤30;omega,by show(Gs d).length≤_;omega⟩
 have m:Ei 0 6 false (Gs d)=t.enc:=by subst f;rfl
 have p:t.v=Gs d:=by subst f;rfl
 have j:(t.el 0).isB 0 6 false=true:=by subst f;rfl
 have o:=U7 (n:=0) (v:=e) Aa Aa
 obtain⟨w,s⟩:=uI h
 unfold eQ
 rw[m,Nk i]
 simp only
 rw[j,Ai Ab]
 have z:t.enc.drop (t.el 0).body=Gs d:=by
  show t.enc.drop (0+t.hd)=_
  rw[A0,t.body,p]
 grind [Lc]
theorem WT (_:c.length≤800000) (h:(T8 0 c).2=true):∃d f:List UInt8,T8 0 c=(⟨0,d,[],f,[],0,[],0,[]⟩,true)∧H7 d=true∧c=Ei 0 6 false (Gs d)++Ei 2 0 true f:=by
 unfold T8 at h⊢
 by_cases s:H8 c=[]
 ·rw[s] at h;cases h
 obtain⟨ts,u,B,o⟩:=cI s
 match hs:H8 c with
 |[]=>exact Bg hs s
 |[x]=>rw[hs] at h;cases h
 |x::y::z::r=>rw[hs] at h;cases h
 |[p,q]=>
  rw[hs] at h o
  have h:(eQ 0 p q).2=true:=h
  show∃d f,eQ 0 p q=_∧_
  obtain⟨x,y,rfl⟩:∃x y,ts=[x,y]:=by
   match ts,Cf List.length o with
   |[x,y],_=>exact⟨x,y,rfl⟩
  simp only[Bc,List.map_nil,Cn,and_true] at o
  obtain⟨rfl,rfl⟩:=o
  have A:=u x Ab
  have H:=u y Ab
  unfold eQ at h⊢
  rw[Nk A] at h⊢
  simp only at h⊢
  by_cases m:(0:Nat)≠0∨(x.el 0).isB 0 6 false=false
  ·rw[Aj m] at h;cases h
  rw[Ai m] at h⊢
  have F:x.enc.drop (x.el 0).body=x.v:=by
   show x.enc.drop (0+x.hd)=_
   rw[A0,x.body]
  rw[F] at h⊢
  simp only[Et,A9] at h
  obtain⟨w,I⟩:=h
  obtain⟨v,t⟩:=Option.isSome_iff_exists.1 w
  have i:odC x.v=0:=Aa
  obtain⟨E,C⟩:=bA i
  have j:(x.el 0).isB 0 6 false=true:=by
   rw[not_or] at m;simpa using m.2
  unfold El.isB Tv.el at j
  simp only[Et,A9] at j
  refine⟨odT x.v,v,?_,E,?_⟩
  ·rw[t,Lc t,i];rfl
  ·rw[C,←M0 t,B,Fm,Fm]
   have e:x.enc=Ei 0 6 false x.v:=by rw[Tv.enc,j.1.1,j.2,j.1.2]
   rw[←e]
   show x.enc++(y.enc++[])=_
   rw[Am]
theorem zU {K:Int} {V:List UInt8} (f:Int) (e:List UInt8) (i:Ey K V=true) (h:V.length≤3000000):Rf 5 (Ei 2 1 true (txE K V)) f e=(⟨5,[],[],[],[],f,e,pK (txE K V),pV (txE K V)⟩,fiB K V):=by
 have j:=Tz i h
 have d:=U7 (n:=1) (v:=txE K V) Aa Aa
 unfold Rf
 rw[d,Lc d]
 grind [L0,txE,fiB,OG,kP]
theorem gS (h:fiB k l=true):Ey k l=true:=by
 unfold fiB at h;rw[Et] at h;exact h.1
theorem zV (E:g.k=5) (i:kF g=some c) (s:g.av.length≤3000000) (m:g.pv.length≤3000000):(Rg 5 c).2=((zT g.ak g.av||fiB g.ak g.av)&&fiB g.pk g.pv)∧(((zT g.ak g.av||fiB g.ak g.av)&&fiB g.pk g.pv)=true→Rg 5 c=(⟨5,[],[],[],[],g.ak,g.av,g.pk,g.pv⟩,true)):=by
 obtain⟨k,z,L,w,K,d,e,pk,f⟩:=g
 unfold kF at i
 simp only at E i s m⊢
 by_cases o:((zT d e||Ey d e)&&Ey pk f)=true
 ·rw[Aj o] at i
  rw[Et] at o
  obtain⟨p,q⟩:=o
  have H:=Tz q m
  obtain rfl:=Az i
  have I:fiB pk f=true→(⟨5,[],[],[],[],d,e,pK (txE pk f),pV (txE pk f)⟩:Gn)=⟨5,[],[],[],[],d,e,pk,f⟩:=fun h=>by
   grind [kP]
  cases u:zT d e
  ·rw[u,C9] at p
   have A:=Tz p s
   rw[Ai Ab,C9]
   unfold Rg
   rw[zR Aa Aa Aa Aa Aa Aa]
   have j:=U7 (n:=0) (v:=txE d e) Aa Aa
   show(if(Gj (Ei 2 0 true (txE d e)) 0).isSome&&L0 (inn (Ei 2 0 true (txE d e)) 0) then Rf 5 (Ei 2 1 true (txE pk f)) (pK (inn (Ei 2 0 true (txE d e)) 0)) (pV (inn (Ei 2 0 true (txE d e)) 0)) else(gz,false)).2=_∧(_→(if(Gj (Ei 2 0 true (txE d e)) 0).isSome&&L0 (inn (Ei 2 0 true (txE d e)) 0) then Rf 5 (Ei 2 1 true (txE pk f)) (pK (inn (Ei 2 0 true (txE d e)) 0)) (pV (inn (Ei 2 0 true (txE d e)) 0)) else(gz,false))=_)
   rw[j,Lc j]
   cases t:fiB d e
   ·rw[OG p t Aa,Ai Ab]
    exact⟨rfl,fun h=>by cases h⟩
   ·obtain⟨C,F,J⟩:=kP t Aa
    rw[C,F,J,Aj Ah,zU _ _ q m]
    grind
  ·obtain⟨y,B⟩:=kQ.1 u
   subst y B
   rw[Aj rfl,B4,Ap]
   unfold Rg
   rw[ez Aa Aa Aa]
   show(Rf 5 _ 0 []).2=_∧(_→Rf 5 _ 0 []=_)
   rw[zU _ _ q m]
   grind
 ·rw[Ai o] at i;cases i
theorem pD {q:List UInt8} {e:Int} {d:List UInt8} (h:(Rf 5 q e d).2=true):∃(K:Int) (V:List UInt8),Rf 5 q e d=(⟨5,[],[],[],[],e,d,K,V⟩,true)∧fiB K V=true∧q=Ei 2 1 true (txE K V):=by
 unfold Rf at h⊢
 simp only[Et] at h
 obtain⟨v,i⟩:=Option.isSome_iff_exists.1 h.1
 have f:=h.2
 rw[Lc i] at f
 obtain⟨j,m⟩:=zQ f
 grind [pK,pV,M0,Lc]
theorem WU (h:(Rg 5 c).2=true):∃g:Gn,Rg 5 c=(g,true)∧g=⟨5,[],[],[],[],g.ak,g.av,g.pk,g.pv⟩∧kF g=some c∧((zT g.ak g.av||fiB g.ak g.av)&&fiB g.pk g.pv)=true:=by
 unfold Rg at h⊢
 by_cases i:H8 c=[]
 ·rw[i] at h;cases h
 obtain⟨ts,B,u,w⟩:=cI i
 have d:c=(H8 c).flatten:=by rw[w,←Iq];exact u
 match hs:H8 c with
 |[]=>exact Bg hs i
 |x::y::z::r=>rw[hs] at h;cases h
 |[q]=>
  rw[hs] at h d
  have h:(Rf 5 q 0 []).2=true:=h
  obtain⟨K,V,j,f,o⟩:=pD h
  refine⟨⟨5,[],[],[],[],0,[],K,V⟩,j,rfl,?_,by rw[f];rfl⟩
  unfold kF
  have s:=gS f
  rw[show((zT 0 []||Ey 0 [])&&Ey K V)=true by rw[s];rfl,Aj rfl]
  have E:zT 0 []=true:=rfl
  grind
 |[p,q]=>
  rw[hs] at h d
  have h:(if(Gj p 0).isSome&&L0 (inn p 0) then Rf 5 q (pK (inn p 0)) (pV (inn p 0)) else(gz,false)).2=true:=h
  show∃g:Gn,(if(Gj p 0).isSome&&L0 (inn p 0) then Rf 5 q (pK (inn p 0)) (pV (inn p 0)) else(gz,false))=(g,true)∧_
  by_cases e:((Gj p 0).isSome&&L0 (inn p 0))=true
  ·rw[Aj e] at h⊢
   rw[Et] at e
   obtain⟨v,A⟩:=Option.isSome_iff_exists.1 e.1
   have m:=e.2
   rw[Lc A] at m h⊢
   obtain⟨t,C⟩:=zQ m
   obtain⟨K,V,j,f,o⟩:=pD h
   refine⟨⟨5,[],[],[],[],pK v,pV v,K,V⟩,j,rfl,?_,by rw[f,t];simp⟩
   grind [gS,zT,pK,pV,kQ,bW,kF,Ei,txE,M0]
  ·rw[Ai e] at h;cases h
theorem Jm (g:Gn):Mz g=true↔(g.k=0∨g.k=8∨g.oid=[])∧(g.k=1∨g.k=2∨g.k=6∨g.tx=[])∧(g.k=0∨g.k=3∨g.k=7∨g.by'=[])∧(g.k=4∨g.nm=[])∧(g.k=5∨(g.ak=0∧g.av=[])∧(g.pk=0∧g.pv=[])):=by
 unfold Mz alB
 simp only[Et,Co,A9,kQ]
 grind [List.eq_nil_of_length_eq_zero]
theorem WV (E:g.k=n) (B:Mz g=true) (d:Nx g=some c) (J:O0 g=true) (M:g.sm):rdP n c=(g,true):=by
 obtain⟨k,e,h,i,j,q,s,pk,o⟩:=g
 obtain⟨H,L,C,F,I,A⟩:=M
 simp only at E H L C F I A
 subst E
 rw[Jm] at B
 obtain⟨t,u,y,m,p⟩:=B
 simp only at t u y m p
 unfold Nx at d
 simp only at d
 rcases(by
  grind:n=0∨n=1∨n=2∨n=3∨n=4∨n=5∨n=6∨n=7∨n=8) with rfl|rfl|rfl|rfl|rfl|rfl|rfl|rfl|rfl
 ·obtain rfl:h=[]:=by simpa using u
  obtain rfl:j=[]:=by simpa using m
  obtain⟨⟨rfl,rfl⟩,rfl,rfl⟩:(q=0∧s=[])∧pk=0∧o=[]:=by simpa using p
  rw[Aj Ah] at d
  by_cases f:H7 e=true
  ·rw[Aj f] at d
   obtain rfl:=Az d
   exact WS f H C
  ·rw[Ai f] at d;cases d
 ·obtain rfl:e=[]:=by simpa using t
  obtain rfl:i=[]:=by simpa using y
  obtain rfl:j=[]:=by simpa using m
  obtain⟨⟨rfl,rfl⟩,rfl,rfl⟩:(q=0∧s=[])∧pk=0∧o=[]:=by simpa using p
  rw[Ai Ae,Aj Ae] at d
  by_cases f:Ey 22 h=true
  ·rw[Aj f] at d
   obtain rfl:=Az d
   obtain⟨-,w,z⟩:=cG f
   show((⟨1,[],Ke 22 (chS 22 h),[],[],0,[],0,[]⟩:Gn),Lz 22 (chS 22 h)==0)=_
   rw[w,z];rfl
  ·rw[Ai f] at d;cases d
 ·obtain rfl:e=[]:=by simpa using t
  obtain rfl:i=[]:=by simpa using y
  obtain rfl:j=[]:=by simpa using m
  obtain⟨⟨rfl,rfl⟩,rfl,rfl⟩:(q=0∧s=[])∧pk=0∧o=[]:=by simpa using p
  rw[Ai Ae,Aj Ae] at d
  by_cases f:Ey 22 h=true
  ·rw[Aj f] at d
   obtain rfl:=Az d
   obtain⟨-,w,z⟩:=cG f
   show((⟨2,[],Ke 22 (chS 22 h),[],[],0,[],0,[]⟩:Gn),Lz 22 (chS 22 h)==0)=_
   rw[w,z];rfl
  ·rw[Ai f] at d;cases d
 ·obtain rfl:e=[]:=by simpa using t
  obtain rfl:h=[]:=by simpa using u
  obtain rfl:j=[]:=by simpa using m
  obtain⟨⟨rfl,rfl⟩,rfl,rfl⟩:(q=0∧s=[])∧pk=0∧o=[]:=by simpa using p
  rw[Ai Ae,Ai Ae,Aj Ae] at d
  obtain rfl:=Az d
  rfl
 ·obtain rfl:e=[]:=by simpa using t
  obtain rfl:h=[]:=by simpa using u
  obtain rfl:i=[]:=by simpa using y
  obtain⟨⟨rfl,rfl⟩,rfl,rfl⟩:(q=0∧s=[])∧pk=0∧o=[]:=by simpa using p
  rw[Ai Ae,Ai Ae,Ai Ae,Aj Ah] at d
  by_cases f:nmV j=true
  ·rw[Aj f] at d
   obtain rfl:=Az d
   have:=WQ f F
   show Wq 4 (nmE j)=_
   grind [Wq,nmR,nmE]
  ·rw[Ai f] at d;cases d
 ·obtain rfl:e=[]:=by simpa using t
  obtain rfl:h=[]:=by simpa using u
  obtain rfl:i=[]:=by simpa using y
  obtain rfl:j=[]:=by simpa using m
  rw[Ai Ae,Ai Ae,Ai Ae,Ai Ae,Aj Ah] at d
  exact(zV (g:=⟨((5:Nat):Int),[],[],[],[],q,s,pk,o⟩) rfl d I A).2 J
 ·obtain rfl:e=[]:=by simpa using t
  obtain rfl:i=[]:=by simpa using y
  obtain rfl:j=[]:=by simpa using m
  obtain⟨⟨rfl,rfl⟩,rfl,rfl⟩:(q=0∧s=[])∧pk=0∧o=[]:=by simpa using p
  rw[Ai Ae,Aj Ae] at d
  by_cases f:Ey 22 h=true
  ·rw[Aj f] at d
   obtain rfl:=Az d
   obtain⟨-,w,z⟩:=cG f
   show((⟨6,[],Ke 22 (chS 22 h),[],[],0,[],0,[]⟩:Gn),Lz 22 (chS 22 h)==0)=_
   rw[w,z];rfl
  ·rw[Ai f] at d;cases d
 ·obtain rfl:e=[]:=by simpa using t
  obtain rfl:h=[]:=by simpa using u
  obtain rfl:j=[]:=by simpa using m
  obtain⟨⟨rfl,rfl⟩,rfl,rfl⟩:(q=0∧s=[])∧pk=0∧o=[]:=by simpa using p
  rw[Ai Ae,Ai Ae,Aj Ae] at d
  obtain rfl:=Az d
  rfl
 ·obtain rfl:h=[]:=by simpa using u
  obtain rfl:i=[]:=by simpa using y
  obtain rfl:j=[]:=by simpa using m
  obtain⟨⟨rfl,rfl⟩,rfl,rfl⟩:(q=0∧s=[])∧pk=0∧o=[]:=by simpa using p
  rw[Ai Ae,Ai Ae,Ai Ae,Ai Ae,Ai Ae,Aj Ah] at d
  by_cases f:H7 e=true
  ·rw[Aj f] at d
   obtain rfl:=Az d
   obtain⟨K,w⟩:=uI f
   show((⟨8,odT (Gs e),[],[],[],0,[],0,[]⟩:Gn),(odC (Gs e):Int)==0)=_
   rw[K,w];rfl
  ·rw[Ai f] at d;cases d
theorem WW (H:n≤8) (z:c.length≤800000) (h:(rdP n c).2=true):(rdP n c).1.k=n∧Mz (rdP n c).1=true∧Nx (rdP n c).1=some c∧O0 (rdP n c).1=true:=by
 rcases(by omega:n=0∨n=1∨n=2∨n=3∨n=4∨n=5∨n=6∨n=7∨n=8) with rfl|rfl|rfl|rfl|rfl|rfl|rfl|rfl|rfl
 ·obtain⟨y,w,s,j,u⟩:=WT z (show(T8 0 c).2=true from h)
  show(T8 0 c).1.k=_∧Mz (T8 0 c).1=true∧Nx (T8 0 c).1=some c∧O0 (T8 0 c).1=true
  rw[s]
  refine⟨rfl,by rw[Jm];simp,?_,rfl⟩
  unfold Nx
  grind
 ·have e:Lz 22 c=0:=by simpa[rdP] using h
  obtain⟨-,d,f⟩:=kL e
  refine⟨rfl,by rw[Jm];simp[rdP],?_,rfl⟩
  show(if Ey 22 (Ke 22 c)=true then some (chS 22 (Ke 22 c)) else none)=_
  rw[Aj d,f]
 ·have e:Lz 22 c=0:=by simpa[rdP] using h
  obtain⟨-,d,f⟩:=kL e
  refine⟨rfl,by rw[Jm];simp[rdP],?_,rfl⟩
  show(if Ey 22 (Ke 22 c)=true then some (chS 22 (Ke 22 c)) else none)=_
  rw[Aj d,f]
 ·exact⟨rfl,by rw[Jm];simp[rdP],rfl,rfl⟩
 ·have i:(Wq 4 c).2=true:=h
  have t:=fun n C=>kO (b:=c) (n:=n) C Aa
  show(Wq 4 c).1.k=_∧Mz (Wq 4 c).1=true∧Nx (Wq 4 c).1=some c∧O0 (Wq 4 c).1=true
  unfold Wq at i⊢
  generalize nmR c=q at i t⊢
  obtain⟨o,J,p⟩:=q
  cases o with
  |none=>cases i
  |some m=>
   obtain⟨B,d⟩:=t m rfl
   refine⟨rfl,by rw[Jm];simp,?_,rfl⟩
   show(if nmV m=true then some (nmE m) else none)=_
   rw[Aj B,←d]
 ·obtain⟨g,s,j,u,I⟩:=WU (show(Rg 5 c).2=true from h)
  show(Rg 5 c).1.k=_∧Mz (Rg 5 c).1=true∧Nx (Rg 5 c).1=some c∧O0 (Rg 5 c).1=true
  rw[s]
  have A:g.k=5:=by rw[j]
  refine⟨A,by rw[Jm,j];simp,?_,?_⟩
  ·show Nx g=some c
   unfold Nx
   grind
  grind [O0]
 ·have e:Lz 22 c=0:=by simpa[rdP] using h
  obtain⟨-,d,f⟩:=kL e
  refine⟨rfl,by rw[Jm];simp[rdP],?_,rfl⟩
  show(if Ey 22 (Ke 22 c)=true then some (chS 22 (Ke 22 c)) else none)=_
  rw[Aj d,f]
 ·exact⟨rfl,by rw[Jm];simp[rdP],rfl,rfl⟩
 ·have e:odC c=0:=by
   have h:((odC c:Int)==0)=true:=h
   rw[A9] at h;omega
  obtain⟨F,E⟩:=bA e
  refine⟨rfl,by rw[Jm];simp[rdP],?_,rfl⟩
  show(if H7 (odT c)=true then some (Gs (odT c)) else none)=_
  rw[Aj F,E]
theorem Zq (g:Gn):gnW g=true↔Mz g=true∧cC g=true∧(∃c,Nx g=some c)∧O0 g=true:=by
 unfold gnW
 simp only[Et,Option.isSome_iff_exists]
theorem OI (h:gnW g=true) (j:g.mid):Ks (gnE g)=some g:=by
 obtain⟨m,s,⟨c,d⟩,p⟩:=(Zq g).1 h
 obtain⟨n,o,i⟩:=kJ d
 have f:=j.c
 rw[d] at f
 have f:c.length≤700000:=f
 have e:gnE g=Ei 2 n (Jq n) c:=by unfold gnE;rw[d,i];rfl
 have q:=WV i m d p j.s
 rw[e,pC o Aa,q]
 have:okP (g,true)=true:=by unfold okP;rw[s];rfl
 rw[Aj this]
theorem pE (h:Ks b=some g) (i:b.length≤800000):gnW g=true∧b=gnE g:=by
 obtain⟨n,c,e,f,j,d,rfl⟩:=OH h
 unfold okP at d
 rw[Et] at d
 grind [WW,Zq,gnE]
theorem fc (m:g.mid):eR g=gnW g:=by
 cases i:gnW g
 ·cases o:eR g with
  |false=>rfl
  |true=>
   exfalso
   unfold eR at o
   simp only[Et] at o
   obtain⟨v1,v2,p,t⟩:=o
   obtain⟨c,d⟩:=Option.isSome_iff_exists.1 p
   obtain⟨n,s,u⟩:=kJ d
   have f:O0 g=false:=by
    unfold gnW at i;rw[v1,v2,p] at i;exact i
   have j:g.k=5:=by
    unfold O0 at f
    simp only[Ds,Bool.not_eq_false',A9] at f
    exact f.1
   have h:=m.c
   rw[d] at h
   have h:c.length≤700000:=h
   have e:gnE g=Ei 2 5 (Jq (5:Nat)) c:=by unfold gnE;rw[d,j];rfl
   have q:kF g=some c:=by
    unfold Nx at d
    rw[j,Ai Ae,Ai Ae,Ai Ae,Ai Ae,Aj rfl] at d
    exact d
   have w:=(zV j q m.s.a m.s.p).1
   grind [zT,fiB,O0,pC,okP,rdP,Rg,cC]
 grind [Zq,eR,OI]
end Go.Proofs.YtbedjionhmaafaaGreatDoor
