/- MW: the texts SbP SbM SbL SbRp SbW KyP KyRp KyW KyX AcM AcP, one behind the other. No condition but what each lemma says. -/
import Derived.Test.YtbedjionhmaafaaGreatDoorMT
set_option linter.all false
set_option maxRecDepth 100000
set_option maxHeartbeats 16000000
namespace Go.Proofs.YtbedjionhmaafaaGreatDoor
open Go.RowKit
variable {b:List UInt8} {a en n:Nat} {t:Tv} {k:Kd}
def trE (g:Gn):List UInt8:=Ei 0 16 true (gnE g)
def GB (l:List Gn):List UInt8:=(l.map trE).flatten
def sbP (i:Nat) (l:List Gn):List UInt8:=Ei 2 i true (GB l)
def fe (P E:List Gn):List (List UInt8):=(if P=[] then [] else [sbP 0 P])++(if E=[] then [] else [sbP 1 E])
def sbE (P E:List Gn):List UInt8:=Ei 0 16 true (fe P E).flatten
def sbV (P E:List Gn):Bool:= !(P.isEmpty&&E.isEmpty)&&(P.all gnW&&E.all gnW)
theorem zZ {P E:List Gn}:sbV P E=true↔(P≠[]∨E≠[])∧P.all gnW=true∧E.all gnW=true:=by
 grind [sbV]
theorem vF (c:a≤en):b.take en=b.take a++(b.drop a).take (en-a):=by
 obtain⟨k,rfl⟩:∃k,en=a+k:=⟨en-a,Aa⟩
 rw[List.take_add,Nat.add_sub_cancel_left]
theorem gT (c:a≤en) (f:en≤b.length) {ts:List Tv} (e:∀t∈ts,t.ok) (h:(b.drop a).take (en-a)=tvsE ts):F7 b a en=⟨els a ts,0,0⟩∧(els a ts).map (elO b)=ts.map Tv.enc:=by
 have d:(b.take a).length=a:=by rw[Ec];omega
 grind [tvsE,vF,Qo,Zn]
theorem GC (b:List UInt8) (a en:Nat) (c:a≤en) (d:en≤b.length):(∃ts:List Tv,(∀t∈ts,t.ok)∧(b.drop a).take (en-a)=tvsE ts∧F7 b a en=⟨els a ts,0,0⟩∧(els a ts).map (elO b)=ts.map Tv.enc)∨(F7 b a en).code≠0:=by
 by_cases h:(F7 b a en).code=0
 ·obtain⟨ts,e,f,g⟩:=Tx _ b a en (At _) c d h
  grind [gT]
 ·exact .inr h
theorem GD (h:a≤en) (c:en≤b.length):(F7 b a en).off≤b.length:=gN c _ _ h
theorem O1 {c:Nat} (ts:List Tv) (l:c≤3) (g:n≤30) (m:∀t∈ts,t.ok) (i:(tvsE ts).length≤2147483647):∃h:Nat,Dn (Ei c n true (tvsE ts)) c n=⟨els h ts,0,0⟩∧(els h ts).map (elO (Ei c n true (tvsE ts)))=ts.map Tv.enc∧(Ei c n true (tvsE ts)).drop h=tvsE ts∧(Ei c n true (tvsE ts)).length=h+(tvsE ts).length:=by
 obtain⟨t,e⟩:∃t:Tv,t=⟨c,n,true,tvsE ts⟩:=⟨_,rfl⟩
 have d:t.ok:=by subst e;exact⟨l,g,i⟩
 have o:Ei c n true (tvsE ts)=t.enc:=by subst e;rfl
 have u:t.v=tvsE ts:=by subst e;rfl
 have j:(t.el 0).isB c n true=true:=by subst e;simp[El.isB,Tv.el]
 have f:=t.len
 have s:=t.body
 rw[o]
 have p:Dn t.enc c n=F7 t.enc t.hd t.enc.length:=by
  unfold Dn
  rw[Nk d,Ai Ab]
  simp only[j]
  rw[Ai Ab]
  show F7 t.enc (0+t.hd) (0+t.enc.length)=_
  rw[A0,A0]
 obtain⟨r,q⟩:=gT (b:=t.enc) (a:=t.hd) (en:=t.enc.length) Aa (At _) m (by grind)
 grind
def trX (p:List UInt8):List El→Option (List UInt8)
 |[x]=>some (p.drop x.at')
 |_=>none
def trI (p:List UInt8):Option (List UInt8):=if(Dn p 0 16).code≠0 then none else trX p (Dn p 0 16).l
theorem WZ {p s:List UInt8} (h:trI p=some s):p=Ei 0 16 true s∧s.length≤p.length:=by
 unfold trI at h
 by_cases f:(Dn p 0 16).code≠0
 ·rw[Aj f] at h;cases h
 rw[Ai f] at h
 obtain⟨ts,j,e,-,-,l⟩:=J2 (As.1 f)
 have d:p.length=1+(N7 (tvsE ts).length).length+(tvsE ts).length:=by
  conv=>lhs;rw[e]
  exact L9 _ _
 obtain⟨q,i,-,g,-⟩:=O1 (c:=0) (n:=16) ts Aa Aa j l
 rw[←e] at i g
 rw[i] at h
 match ts,h,g,e,d with
 |[t],h,g,e,d=>
  have h:some (p.drop q)=some s:=h
  grind
 |[],h,_,_,_=>cases h
 |_::_::_,h,_,_,_=>cases h
def vTr (p:List UInt8):Option Gn:=match trI p with
 |none=>none
 |some s=>Ks s
theorem XA {p:List UInt8} {g:Gn} (h:vTr p=some g) (f:p.length≤800000):gnW g=true∧p=trE g:=by
 unfold vTr at h
 cases c:trI p with
 |none=>rw[c] at h;cases h
 |some s=>
  rw[c] at h
  obtain⟨d,e⟩:=WZ c
  grind [pE,Ks,trE]
def trS:List (List UInt8)→Option (List Gn)
 |[]=>some []
 |p::r=>match vTr p with
  |none=>none
  |some g=>(trS r).map (g:: ·)
def sbL (b:List UInt8):List El→Option (List Gn)×Nat×Nat
 |[]=>(some [],0,0)
 |x::r=>match trI (elO b x) with
  |none=>(none,6,x.at')
  |some s=>match Ks s with
   |none=>(none,(U5 s).1,x.body)
   |some g=>match sbL b r with
    |(some gs,_)=>(some (g::gs),0,0)
    |(none,p)=>(none,p)
theorem pG (b:List UInt8):∀l:List El,(sbL b l).1.isSome=true→(sbL b l).2=(0,0)
 |[],_=>rfl
 |x::r,h=>by
  grind [sbL,trI,elO,Ks]
theorem GE (b:List UInt8) (l:List El):Ps [] (sbL b l)=sbL b l:=by
 have h:=pG b l
 cases c:sbL b l with
 |mk o p=>
  rw[c] at h
  cases o with
  |none=>rfl
  |some d=>have:=h rfl;simp only at this;subst this;rfl
theorem vG {s:List UInt8} {x:El} {r:List El} {m:Gn} (c:List Gn) (d:trI (elO b x)=some s) (e:Ks s=some m):Ps c (sbL b (x::r))=Ps (c++[m]) (sbL b r):=by
 grind [sbL,Ps]
theorem AA (b:List UInt8):∀l:List El,(sbL b l).1=trS (l.map (elO b))
 |[]=>rfl
 |x::r=>by
  have c:=AA b r
  rw[sbL,Bc,trS]
  unfold vTr
  cases e:trI (elO b x) with
  |none=>rfl
  |some s=>
   simp only
   cases f:Ks s with
   |none=>rfl
   |some m=>
    simp only
    rw[←c]
    cases d:sbL b r with
    |mk o p=>cases o<;>rfl
theorem AB {b:List UInt8}:∀{l:List El},(∀x∈l,x.at'≤b.length∧x.body≤b.length)→(sbL b l).1=none→(sbL b l).2.1≠0∧(sbL b l).2.2≤b.length
 |[],_,h=>by cases h
 |x::r,hx,h=>by
  have f:=AB (b:=b) (l:=r) fun y e=>hx y (by simp[e])
  obtain⟨g,d⟩:=hx x Ab
  rw[sbL] at h⊢
  cases c:trI (elO b x) with
  |none=>grind
  |some s=>
   rw[c] at h
   simp only at h⊢
   cases i:Ks s with
   |none=>exact⟨(T0 s).1,d⟩
   |some m=>
    grind
theorem AC:∀{ps:List (List UInt8)} {v:List Gn},(∀p∈ps,p.length≤800000)→trS ps=some v→v.all gnW=true∧ps=v.map trE
 |[],v,_,h=>by
  rw[trS] at h
  grind
 |p::r,v,hl,h=>by
  rw[trS] at h
  cases d:vTr p with
  |none=>rw[d] at h;cases h
  |some m=>
   rw[d] at h
   cases c:trS r with
   |none=>rw[c] at h;cases h
   |some w=>
    rw[c] at h
    obtain rfl:=Az h
    obtain⟨e,g⟩:=XA d (hl p Ab)
    obtain⟨k3,f⟩:=AC (fun q i=>hl q (by simp[i])) c
    exact⟨by rw[List.all_cons,e,k3];rfl,by rw[Bc,←g,←f]⟩
def sbN (e:Nat):Option (List Gn)×Nat×Nat→Option (List Gn)×Nat×Nat
 |(some [],_)=>(none,1,e)
 |q=>q
def vH (b:List UInt8) (y:El):Option (List Gn)×Nat×Nat:=if(F7 b y.body y.stop).code≠0 then(none,(F7 b y.body y.stop).code,(F7 b y.body y.stop).off) else sbN y.stop (sbL b (F7 b y.body y.stop).l)
theorem kR (b:List UInt8) (F:b.length≤800000) (y:El) (j:y.body≤y.stop) (h:y.stop≤b.length):(∃l:List Gn,l≠[]∧l.all gnW=true∧bod b y=GB l∧vH b y=(some l,0,0))∨(∃c o:Nat,c≠0∧o≤b.length∧vH b y=(none,c,o)):=by
 unfold vH
 rcases GC b y.body y.stop j h with⟨ts,E,u,q,w⟩|s
 ·rw[q,Ai Ab]
  have f:=fun x=>V8 (b:=b) (frm:=y.body) h (x:=x)
  rw[q] at f
  have z:(tvsE ts).length≤800000:=by
   have:=Cf List.length u
   rw[Ec,Eh] at this;omega
  have g:=AA b (els y.body ts)
  rw[w] at g
  have d:=AB (b:=b) (l:=els y.body ts) fun x C=>by
   have:=f x C
   omega
  have e:=pG b (els y.body ts)
  show(∃l:List Gn,l≠[]∧l.all gnW=true∧bod b y=GB l∧sbN y.stop (sbL b (els y.body ts))=(some l,0,0))∨(∃c o:Nat,c≠0∧o≤b.length∧sbN y.stop (sbL b (els y.body ts))=(none,c,o))
  cases i:sbL b (els y.body ts) with
  |mk o p=>
   rw[i] at g d e
   obtain⟨c,p⟩:=p
   simp only at g d e
   cases o with
   |none=>exact .inr ⟨c,p,(d rfl).1,(d rfl).2,rfl⟩
   |some v=>
    obtain⟨A,B⟩:=AC (fun p i=>by
     have:=Lb i
     rw[←Iq] at this;omega) g.symm
    have e:=e rfl
    simp only[Prod.mk.injEq] at e
    obtain⟨rfl,rfl⟩:=e
    cases v with
    |nil=>exact .inr ⟨1,y.stop,Aa,h,rfl⟩
    |cons m r=>
     refine .inl ⟨m::r,Ab,A,?_,rfl⟩
     show(b.drop y.body).take (y.stop-y.body)=_
     rw[u,Iq,B];rfl
 ·rw[Aj s]
  exact .inr ⟨_,_,s,GD j h,rfl⟩
def sbF (b:List UInt8):List El→Int→List Gn→List Gn→Option (List Gn×List Gn)×Nat×Nat
 |[],last,P,E=>if last<0 then(none,1,b.length) else(some (P,E),0,0)
 |y::r,last,P,E=>if y.isB 2 y.n true=false∨1<y.n∨(y.n:Int)≤last then(none,3,y.at') else match vH b y with
  |(none,p)=>(none,p)
  |(some ns,_)=>if y.n=0 then sbF b r 0 ns E else sbF b r y.n P ns
def sbO (b:List UInt8):Option (List Gn×List Gn)×Nat×Nat:=if(Dn b 0 16).code≠0 then(none,(Dn b 0 16).code,(Dn b 0 16).off) else sbF b (Dn b 0 16).l (-1) [] []
def sbT (b:List UInt8) (R:List Gn×List Gn→Prop) (q:Option (List Gn×List Gn)×Nat×Nat):Prop:=(∃P E,R (P,E)∧q=(some (P,E),0,0))∨(∃c o:Nat,c≠0∧o≤b.length∧q=(none,c,o))
theorem AD:(t.el a).isB 2 n true=true↔t.c=2∧t.n=n∧t.k=true:=by
 unfold El.isB Tv.el
 grind
theorem Pu {ts:List Tv} (h:(els a (t::ts)).map (elO b)=(t::ts).map Tv.enc) (c:∀x∈els a (t::ts),x.stop≤b.length):els a (t::ts)=t.el a::els (a+t.enc.length) ts∧bod b (t.el a)=t.v∧(t.el a).body≤(t.el a).stop∧(t.el a).stop≤b.length∧(els (a+t.enc.length) ts).map (elO b)=ts.map Tv.enc∧(∀x∈els (a+t.enc.length) ts,x.stop≤b.length):=by
 have e:els a (t::ts)=t.el a::els (a+t.enc.length) ts:=rfl
 rw[e] at h c
 rw[Bc,Bc,Cn] at h
 have j:=t.len
 have g:=c (t.el a) Ab
 refine⟨e,?_,by show a+t.hd≤a+t.enc.length;omega,g,h.2,fun x i=>c x (by simp[i])⟩
 have f:(b.drop a).take (a+t.enc.length-a)=t.enc:=h.1
 have d:=Cf (List.drop t.hd) f
 rw[C2,t.body,C3] at d
 show(b.drop (a+t.hd)).take (a+t.enc.length-(a+t.hd))=_
 rw[←d];congr 1;omega
theorem pH (ts:List Tv) (a:Nat) (h:(els a ts).map (elO b)=ts.map Tv.enc) (c:∀x∈els a ts,x.stop≤b.length) (P E:List Gn):sbT b (fun r=>r=(P,E)∧ts=[]) (sbF b (els a ts) (1:Nat) P E):=by
 cases ts with
 |nil=>exact .inl ⟨P,E,⟨rfl,rfl⟩,rfl⟩
 |cons t r=>
  obtain⟨g,-,d,e,-,-⟩:=Pu h c
  rw[g,sbF]
  by_cases f:(t.el a).isB 2 (t.el a).n true=false∨1<(t.el a).n∨((t.el a).n:Int)≤(1:Nat)
  ·rw[Aj f]
   exact .inr ⟨3,a,Aa,by have:a+t.hd≤_:=d;have:_≤b.length:=e;omega,rfl⟩
  ·exfalso;omega
theorem OP (H:b.length≤800000) (ts:List Tv) (a:Nat) (h:(els a ts).map (elO b)=ts.map Tv.enc) (g:∀x∈els a ts,x.stop≤b.length) (P:List Gn):sbT b (fun r=>r.1=P∧r.2.all gnW=true∧(tvsE ts=if r.2=[] then [] else sbP 1 r.2)) (sbF b (els a ts) 0 P []):=by
 cases ts with
 |nil=>exact .inl ⟨P,[],⟨rfl,rfl,rfl⟩,rfl⟩
 |cons t r=>
  obtain⟨C,K,j,p,u,B⟩:=Pu h g
  rw[C,sbF]
  by_cases e:(t.el a).isB 2 (t.el a).n true=false∨1<(t.el a).n∨((t.el a).n:Int)≤0
  ·rw[Aj e]
   exact .inr ⟨3,a,Aa,by have:a+t.hd≤_:=j;have:_≤b.length:=p;omega,rfl⟩
  ·rw[Ai e]
   simp only[not_or,Bool.not_eq_false] at e
   obtain⟨f,m,M⟩:=e
   have A:t.n=1:=by have:(t.el a).n=t.n:=rfl;omega
   obtain⟨I,-,L⟩:=AD.1 f
   rcases kR b H (t.el a) j p with⟨l,E,z,J,v⟩|⟨c,o,w,f,m⟩
   ·rw[v]
    simp only
    rw[Ai (by show¬t.n=0;omega),show(((t.el a).n:Nat):Int)=(1:Nat) by show((t.n:Nat):Int)=_;rw[A]]
    rcases pH r (a+t.enc.length) u B P l with⟨y,i,⟨q,s⟩,F⟩|d
    ·obtain⟨rfl,rfl⟩:=Prod.mk.inj q
     refine .inl ⟨y,i,⟨rfl,z,?_⟩,F⟩
     subst s
     show _=if i=[] then [] else sbP 1 i
     rw[Ai E,Fm]
     show t.enc++[]=_
     grind [sbP,Tv.enc]
    ·exact .inr d
   ·rw[m]
    exact .inr ⟨c,o,w,f,rfl⟩
theorem ff (b:List UInt8) (I:b.length≤800000):sbT b (fun r=>sbV r.1 r.2=true∧b=sbE r.1 r.2) (sbO b):=by
 unfold sbO
 by_cases f:(Dn b 0 16).code≠0
 ·rw[Aj f]
  exact .inr ⟨_,_,f,Hg b 0 16,rfl⟩
 rw[Ai f]
 obtain⟨ts,Q,s,-,-,R⟩:=J2 (As.1 f)
 obtain⟨q,u,F,-,-⟩:=O1 (c:=0) (n:=16) ts Aa Aa Q R
 rw[←s] at u F
 have w:∀x∈els q ts,x.stop≤b.length:=fun x P=>by
  have:=Ez (b:=b) (c:=0) (n:=16) (x:=x) (by rw[u];exact P)
  omega
 rw[u]
 show sbT b _ (sbF b (els q ts) (-1) [] [])
 cases ts with
 |nil=>exact .inr ⟨1,b.length,Aa,At _,rfl⟩
 |cons t r=>
  obtain⟨U,L,y,H,z,E⟩:=Pu F w
  rw[U,sbF]
  by_cases i:(t.el q).isB 2 (t.el q).n true=false∨1<(t.el q).n∨((t.el q).n:Int)≤ -1
  ·rw[Aj i]
   exact .inr ⟨3,q,Aa,by have:q+t.hd≤_:=y;have:_≤b.length:=H;omega,rfl⟩
  ·rw[Ai i]
   simp only[not_or,Bool.not_eq_false] at i
   obtain⟨v,B,V⟩:=i
   have e:t.n=0∨t.n=1:=by have:(t.el q).n=t.n:=rfl;omega
   obtain⟨J,-,T⟩:=AD.1 v
   rcases kR b I (t.el q) y H with⟨l,j,C,K,M⟩|⟨c,o,N,v,B⟩
   ·rw[M]
    simp only
    rcases e with e|e
    ·rw[Aj (show(t.el q).n=0 from e)]
     rcases OP I r (q+t.enc.length) z E l with⟨A,p,⟨g,h,m⟩,O⟩|d
     ·simp only at g h m
      subst g
      refine .inl ⟨A,p,⟨zZ.2 ⟨.inl j,C,h⟩,?_⟩,O⟩
      rw[s,Fm,m]
      unfold sbE fe
      rw[Ai j]
      grind [sbP,Tv.enc]
     ·exact .inr d
    ·rw[Ai (show¬(t.el q).n=0 by show¬t.n=0;omega),show(((t.el q).n:Nat):Int)=(1:Nat) by show((t.n:Nat):Int)=_;rw[e]]
     rcases pH r (q+t.enc.length) z E [] l with⟨A,p,⟨g,h⟩,m⟩|d
     ·obtain⟨rfl,rfl⟩:=Prod.mk.inj g
      refine .inl ⟨[],p,⟨zZ.2 ⟨.inr j,rfl,C⟩,?_⟩,m⟩
      subst h
      have:t.enc=sbP 1 p:=by unfold sbP;rw[←K,L,Tv.enc,J,e,T]
      rw[s,Fm,this]
      unfold sbE fe
      rw[Aj rfl,Ai j]
      show Ei 0 16 true (_++[])=_
      simp
     ·exact .inr d
   ·rw[B]
    exact .inr ⟨c,o,N,v,rfl⟩
theorem pI (b:List UInt8) (y:El) (k:Nat):(elO b y).drop k=(b.drop (y.at'+k)).take (y.stop-(y.at'+k)):=by
 unfold elO
 rw[C2,C3];congr 1;omega
theorem M1 {p:Prop} (h:p:=by first|rfl|(simp only[D8,AV.ren,AV.give,D.un,Ef,D7,D6,Ap,Am,Ak,Ea,Ed,G2,F8,Ex,Gv,Ha,I4,Fi,Fy,E8,Ep,Eo,Pr,Oa,Md];first|done|rfl)):p:=h
theorem vI (b:List UInt8) (hb:b.length≤800000) (x:El) (W:x.body≤x.stop) (O:x.stop≤b.length):aC 297 [.d (By false b),elA x] (ko (vH b x)):=by
 have H:=V7 b x.body x.stop Aa W O
 have A:=fun y=>V8 (b:=b) (frm:=x.body) O (x:=y)
 have C:(F7 b x.body x.stop).l.length≤x.stop-x.body:=Tn O _ _
 unfold vH
 generalize F7 b x.body x.stop=R at H A C⊢
 obtain⟨l,U,ro⟩:=R
 simp only at A C⊢
 by_cases J:U≠0
 ·rw[Aj J]
  rw[lrA,Aj J] at H
  have Q:((U:Int) !=0)=true:=by rw[Av];omega
  refine acQ 90 Tryz.func297 rfl rfl fun _ _ _=> ?_
  (repeat'((conv=>whnf);first|refine zP ?_|refine Al H M1 ?_|refine zF ?_|exact zE))
 rw[Ai J]
 rw[lrA,Ai J] at H
 have I:sbL b l=Ps [] (sbL b (l.drop 0)):=by rw[GE,List.drop_zero]
 generalize hQ:sbL b l=q at I⊢
 refine acQ 90 Tryz.func297 rfl rfl fun _ _ _=> ?_
 (repeat'((conv=>whnf);first|refine Ee ?_|refine Al H M1 ?_));(all_goals(conv=>whnf))
 refine F2 [.s 8 9 435] (fun z:Nat×List Gn=>z.1≤l.length∧z.2.length≤z.1∧q=Ps z.2 (sbL b (l.drop z.1))) (fun z=>l.length-z.1) (fun z=>⟨[(0,.d (By false b)),(3,.ptr 3 0),(5,.ptr 5 0),(8,Fy 8 9 435 cM z.2),(27,.d (Gw l)),(28,iv l.length),(29,iv z.1)],[(3,[iv x.c,iv x.n,bv x.k,iv x.at',iv x.body,iv x.stop]),(5,[iv 0,iv 0])],[(8,(z.2.length,9,435))]⟩) (0,[]) ⟨Ab,Ab,I⟩ leQ ?_
 rintro⟨i,L⟩ ⟨hi,Z,v⟩
 simp only at hi Z v
 by_cases N:i<l.length
 ·have X:decide ((i:Int)<l.length)=true:=Aq Aa
  obtain⟨y,B⟩:∃p,l[i]?=some p:=⟨_,Ev N⟩
  obtain⟨y1,y2,y3,y4,-,-⟩:=A y (F9 B)
  have Y:=Kr b y
  have d:=Fc (elO b y) 0 16 Aa
  rw[Lt B] at v
  have f:trI (elO b y)=if(Dn (elO b y) 0 16).code≠0 then none else trX (elO b y) (Dn (elO b y) 0 16).l:=rfl
  have j:=fun u=>Ez (b:=elO b y) (c:=0) (n:=16) (x:=u)
  generalize Dn (elO b y) 0 16=r at d f j
  obtain⟨E,oc,oo⟩:=r
  simp only at f j
  have F:trI (elO b y)=none→q=(none,6,y.at'):=fun h=>by rw[v,sbL,h];rfl
  by_cases M:oc≠0
  ·rw[lrA,Aj M] at d
   rw[Aj M] at f
   rw[F f]
   have Q:((oc:Int) !=0)=true:=by rw[Av];omega
   unfold elO at d
   (repeat'((conv=>whnf);first|refine zB ?_|refine NIdx.tab (fun _=>rfl) B ?_|refine NSl.slice (y.at') (y.stop) ?_|refine Al d M1 ?_|refine zF ?_|exact zE))
  rw[lrA,Ai M] at d
  rw[Ai M] at f
  simp only at d
  by_cases k3:E.length=1
  ·obtain⟨u,rfl⟩:∃u,E=[u]:=by
    match E,k3 with
    |[u],_=>exact⟨u,rfl⟩
   have f:trI (elO b y)=some ((elO b y).drop u.at'):=f
   obtain⟨u1,u2,u3⟩:=j u Ab
   have T:=S1 b y
   have V:([u]:List El)[0]?=some u:=rfl
   have s:=Oz ((elO b y).drop u.at') (by rw[Eh];omega)
   obtain⟨w,hof⟩:=T0 ((elO b y).drop u.at')
   cases K:Ks ((elO b y).drop u.at') with
   |none=>
    have hq:q=(none,(U5 ((elO b y).drop u.at')).1,y.body):=by rw[v,sbL,f];simp only[K];rfl
    rw[hq]
    rw[K] at s
    rw[pI] at s w⊢
    generalize U5 ((b.drop (y.at'+u.at')).take (y.stop-(y.at'+u.at')))=e at s w⊢
    obtain⟨c,o⟩:=e
    simp only at w
    have s:aC 262 [.d (By false ((b.drop (y.at'+u.at')).take (y.stop-(y.at'+u.at'))))] (.tup [gnQ gz,erA c o]):=s
    have Q:((c:Int) !=0)=true:=by rw[Av];omega
    unfold elO at d
    (repeat'((conv=>whnf);first|refine zB ?_|refine NIdx.tab (fun _=>rfl) B ?_|refine NIdx.tab (fun _=>rfl) V ?_|refine NSl.slice (y.at') (y.stop) ?_|refine NSl.slice ((y.at'+u.at')) (y.stop) ?_|refine Al d M1 ?_|refine Al s M1 ?_|refine zI ?_|refine zF ?_|exact zE))
   |some g=>
    rw[vG L f K] at v
    rw[K] at s
    rw[pI] at s
    have s:aC 262 [.d (By false ((b.drop (y.at'+u.at')).take (y.stop-(y.at'+u.at'))))] (.tup [gnQ g,erA 0 0]):=s
    unfold elO at d
    (repeat'((conv=>whnf);first|refine zB ?_|refine NIdx.tab (fun _=>rfl) B ?_|refine NIdx.tab (fun _=>rfl) V ?_|refine NSl.slice (y.at') (y.stop) ?_|refine NSl.slice ((y.at'+u.at')) (y.stop) ?_|refine Al d M1 ?_|refine Al s M1 ?_|refine E4 cM g ?_|refine zI ?_|refine zF ?_));(all_goals(conv=>whnf))
    refine⟨(i+1,L++[g]),⟨by show i+1≤_;omega,Af,v⟩,by show l.length-(i+1)<l.length-i;omega,?_⟩
    exact leQ
  ·have f:trI (elO b y)=none:=by
    rw[f]
    match E,k3 with
    |[],_=>rfl
    |[u],h=>exact Bg rfl h
    |_::_::_,_=>rfl
   rw[F f]
   have gl:((E.length:Int) !=1)=true:=by rw[Av];omega
   unfold elO at d
   (repeat'((conv=>whnf);first|refine zB ?_|refine NIdx.tab (fun _=>rfl) B ?_|refine NSl.slice (y.at') (y.stop) ?_|refine Al d M1 ?_|refine zF ?_|exact zE))
 ·have X:decide ((i:Int)<l.length)=false:=Ao Aa
  obtain rfl:i=l.length:=Aa
  rw[List.drop_length,sbL] at v
  have P:q=(some L,0,0):=by rw[v];simp[Ps]
  subst P
  cases L with
  |nil=>
   (repeat'((conv=>whnf);first|refine zB ?_|refine zF ?_|exact zE))
  |cons m r=>
   (repeat'((conv=>whnf);first|refine zB ?_|exact zE))
def sbR:Option (List Gn×List Gn)×Nat×Nat→AV
 |(some r,_)=> .tup [.agg [.d (Nl r.1),.d (Nl r.2)],erA 0 0]
 |(none,c,o)=> .tup [.agg [Ff,Ff],erA c o]
theorem GF (b:List UInt8) (T:b.length≤800000):aC 232 [.d (By false b)] (sbR (sbO b)):=by
 have B:=Fc b 0 16 Aa
 have v:=fun x=>Ez (b:=b) (c:=0) (n:=16) (x:=x)
 have A:=F4 b 0 16
 unfold sbO
 generalize Dn b 0 16=R at B v A⊢
 obtain⟨l,N,ro⟩:=R
 simp only at v A⊢
 by_cases C:N≠0
 ·rw[Aj C]
  rw[lrA,Aj C] at B
  have V:((N:Int) !=0)=true:=by rw[Av];omega
  refine acQ 76 Tryz.func232 rfl rfl fun _ _ _=> ?_
  (repeat'((conv=>whnf);first|refine zP ?_|refine Al B M1 ?_|refine zF ?_|exact zE))
 rw[Ai C]
 rw[lrA,Ai C] at B
 generalize M:sbF b l (-1) [] []=q
 refine acQ 76 Tryz.func232 rfl rfl fun _ _ _=> ?_
 (repeat'((conv=>whnf);first|refine Ee ?_|refine Al B M1 ?_));(all_goals(conv=>whnf))
 refine Fh (fun z:Nat×Int×List Gn×List Gn=>z.1≤l.length∧ -1≤z.2.1∧q=sbF b (l.drop z.1) z.2.1 z.2.2.1 z.2.2.2) (fun z=>l.length-z.1) (fun z=>⟨[(0,.d (By false b)),(2,.ptr 2 0),(3,.ptr 3 0),(6,.ptr 6 0),(7,iv z.2.1),(22,.d (Gw l)),(23,iv l.length),(24,iv z.1)],[(2,[Ff,Ff]),(3,[iv 0,iv 0]),(6,[.d (Nl z.2.2.1),.d (Nl z.2.2.2)])],[]⟩) (0,-1,[],[]) ⟨Ab,Ab,by rw[List.drop_zero];exact M.symm⟩ leQ ?_
 rintro⟨i,e,P,E⟩ ⟨X,s,d⟩
 simp only at X s d
 clear M
 by_cases J:i<l.length
 ·have W:decide ((i:Int)<l.length)=true:=Aq Aa
  obtain⟨y,r⟩:∃p,l[i]?=some p:=⟨_,Ev J⟩
  obtain⟨y1,y2,Q⟩:=v y (F9 r)
  have j:=Fo y 2 y.n true
  have m:=vI b T y Aa Q
  rw[Lt r,sbF] at d
  cases f:y.isB 2 y.n true
  ·rw[f] at j
   rw[Aj (.inl f)] at d
   rw[d]
   (repeat'((conv=>whnf);first|refine zB ?_|refine NIdx.tab (fun _=>rfl) r ?_|refine Al j rfl ?_|refine zF ?_|exact zE))
  rw[f] at j
  by_cases w:1<y.n
  ·have H:decide ((y.n:Int)>1)=true:=Aq Aa
   rw[Aj (.inr (.inl w))] at d
   rw[d]
   (repeat'((conv=>whnf);first|refine zB ?_|refine NIdx.tab (fun _=>rfl) r ?_|refine Al j rfl ?_|refine zF ?_|exact zE))
  have H:decide ((y.n:Int)>1)=false:=Ao Aa
  by_cases g:(y.n:Int)≤e
  ·have K:decide ((y.n:Int)≤e)=true:=Aq g
   rw[Aj (.inr (.inr g))] at d
   rw[d]
   (repeat'((conv=>whnf);first|refine zB ?_|refine NIdx.tab (fun _=>rfl) r ?_|refine Al j rfl ?_|refine zF ?_|exact zE))
  have K:decide ((y.n:Int)≤e)=false:=Ao g
  rw[Ai (by simp only[not_or];exact⟨by simp[f],w,g⟩)] at d
  cases L:vH b y with
  |mk o p=>
   rw[L] at m d
   obtain⟨c,p⟩:=p
   cases o with
   |none=>
    have U:c≠0:=by
     rcases kR b T y Aa Q with⟨l',-,-,-,h⟩|⟨c',o',h,-,O⟩
     ·rw[L] at h;cases h
     ·rw[L] at O;cases O;exact h
    have V:((c:Int) !=0)=true:=by rw[Av];omega
    have m:aC 297 [.d (By false b),elA y] (.tup [Ff,erA c p]):=m
    simp only at d
    rw[d]
    (repeat'((conv=>whnf);first|refine zB ?_|refine NIdx.tab (fun _=>rfl) r ?_|refine Al j rfl ?_|refine Al m M1 ?_|refine zF ?_|exact zE))
   |some I=>
    have m:aC 297 [.d (By false b),elA y] (.tup [.d (Nl I),erA 0 0]):=m
    simp only at d
    by_cases u:y.n=0
    ·have Y:((y.n:Int)==0)=true:=by rw[A9];omega
     rw[Aj u] at d
     (repeat'((conv=>whnf);first|refine zB ?_|refine NIdx.tab (fun _=>rfl) r ?_|refine Al j rfl ?_|refine Al m M1 ?_|refine zI ?_));(all_goals(conv=>whnf))
     refine⟨(i+1,y.n,I,E),⟨by show i+1≤_;omega,by show(-1:Int)≤y.n;omega,by rw[u];exact d⟩,by show l.length-(i+1)<l.length-i;omega,?_⟩
     exact leQ
    ·have Y:((y.n:Int)==0)=false:=by rw[An];omega
     rw[Ai u] at d
     (repeat'((conv=>whnf);first|refine zB ?_|refine NIdx.tab (fun _=>rfl) r ?_|refine Al j rfl ?_|refine Al m M1 ?_|refine zI ?_));(all_goals(conv=>whnf))
     refine⟨(i+1,y.n,P,I),⟨by show i+1≤_;omega,by show(-1:Int)≤y.n;omega,d⟩,by show l.length-(i+1)<l.length-i;omega,?_⟩
     exact leQ
 ·have W:decide ((i:Int)<l.length)=false:=Ao Aa
  obtain rfl:i=l.length:=Aa
  rw[List.drop_length,sbF] at d
  by_cases F:e<0
  ·have Z:decide (e<0)=true:=Aq F
   rw[Aj F] at d
   rw[d]
   (repeat'((conv=>whnf);first|refine zB ?_|exact zE))
  ·have Z:decide (e<0)=false:=Ao F
   rw[Ai F] at d
   rw[d]
   (repeat'((conv=>whnf);refine zN ?_));(all_goals(conv=>whnf))
   all_goals exact zE
def Nn (l:List Gn):List UInt8:=(l.map gnE).flatten
def kdW (k:Kd):Bool:=kdV k (T9 k.iss)
def kdE (k:Kd):List UInt8:=Ei 0 16 true (kdP k (Nn k.iss)).flatten
theorem XB:kdW k=true↔(k.has=false→k.id=[])∧(k.iss=[]∧k.ser=[]∨k.iss≠[]∧k.iss.all gnW=true∧T6 k.ser=true):=by
 obtain⟨e,id,c,d⟩:=k
 unfold kdW kdV
 simp only
 have f:T9 c=true↔c≠[]∧c.all gnW=true:=OO
 have g:T6 []=false:=rfl
 grind
theorem XC (h:kdW k=true):k.ser=[]↔k.iss=[]:=by
 obtain⟨-,h|h⟩:=XB.1 h
 ·exact⟨fun _=>h.1,fun _=>h.2⟩
 ·constructor
  ·intro e
   have:=h.2.2
   rw[e] at this;cases this
  ·intro e;exact Bg e h.1
def pT {α:Type} (n:Nat) (R:α→Prop) (q:Option α×Nat×Nat):Prop:=(∃v,R v∧q=(some v,0,0))∨(∃c o:Nat,c≠0∧o≤n∧q=(none,c,o))
theorem cN {c:Nat} {k:Bool} {l m:List UInt8} (d:c≤3) (f:n≤30) (g:l.length≤2147483647) (h:m.length≤2147483647) (e:Ei c n k l=Ei c n k m):l=m:=by
 have:=Tv.inj (t:=⟨c,n,k,l⟩) (u:=⟨c,n,k,m⟩) ⟨d,f,g⟩ ⟨d,f,h⟩ (r:=[]) (s:=[]) (by rw[Am,Am];exact e)
 exact Cf Tv.v this.1
def ky3 (k:Kd):List El→Option Kd×Nat×Nat
 |x::_=>(none,3,x.at')
 |[]=>if kdW k=true then(some k,0,0) else(none,6,0)
def ky2 (b:List UInt8) (has:Bool) (id:List UInt8) (iss:List Gn):List El→Option Kd×Nat×Nat
 |x::r=>if x.isB 2 2 false=true then(if bod b x=[] then(none,6,x.body) else ky3 ⟨has,id,iss,bod b x⟩ r) else ky3 ⟨has,id,iss,[]⟩ (x::r)
 |[]=>ky3 ⟨has,id,iss,[]⟩ []
def n9 (b:List UInt8) (has:Bool) (id:List UInt8) (x:El) (r:List El):Option (List Gn)×Nat×Nat→Option Kd×Nat×Nat
 |(some gs,_)=>ky2 b has id gs r
 |(none,_)=>(none,6,x.body)
def ky1 (b:List UInt8) (has:Bool) (id:List UInt8):List El→Option Kd×Nat×Nat
 |x::r=>if x.isB 2 1 true=true then n9 b has id x r (X4 (Ei 0 16 true (bod b x))) else ky2 b has id [] (x::r)
 |[]=>ky2 b has id [] []
def ky0 (b:List UInt8):List El→Option Kd×Nat×Nat
 |x::r=>if x.isB 2 0 false=true then ky1 b true (bod b x) r else ky1 b false [] (x::r)
 |[]=>ky1 b false [] []
def kyO (b:List UInt8):Option Kd×Nat×Nat:=if(Dn b 0 16).code≠0 then(none,(Dn b 0 16).code,(Dn b 0 16).off) else ky0 b (Dn b 0 16).l
theorem vJ {k:Bool}:(t.el a).isB 2 n k=true↔t.c=2∧t.n=n∧t.k=k:=by
 unfold El.isB Tv.el
 grind
theorem AE (ts:List Tv) (a:Nat) (h:(els a ts).map (elO b)=ts.map Tv.enc) (c:∀x∈els a ts,x.stop≤b.length) (k:Kd):pT b.length (fun v=>v=k∧ts=[]∧kdW k=true) (ky3 k (els a ts)):=by
 cases ts with
 |nil=>
  show pT _ _ (if kdW k=true then(some k,0,0) else(none,6,0))
  by_cases d:kdW k=true
  ·rw[Aj d];exact .inl ⟨k,⟨rfl,rfl,d⟩,rfl⟩
  ·rw[Ai d];exact .inr ⟨6,0,Aa,Nat.zero_le _,rfl⟩
 |cons t r=>
  obtain⟨g,-,e,f,-,-⟩:=Pu h c
  rw[g]
  exact .inr ⟨3,a,Aa,by have:a+t.hd≤_:=e;have:_≤b.length:=f;omega,rfl⟩
theorem AF (ts:List Tv) (a:Nat) (h:(els a ts).map (elO b)=ts.map Tv.enc) (f:∀x∈els a ts,x.stop≤b.length) (d:Bool) (id:List UInt8) (c:List Gn):pT b.length (fun v=>v.has=d∧v.id=id∧v.iss=c∧kdW v=true∧tvsE ts=if v.ser=[] then [] else Ei 2 2 false v.ser) (ky2 b d id c (els a ts)):=by
 have e:pT b.length (fun v=>v.has=d∧v.id=id∧v.iss=c∧kdW v=true∧tvsE ts=if v.ser=[] then [] else Ei 2 2 false v.ser) (ky3 ⟨d,id,c,[]⟩ (els a ts)):=by
  rcases AE ts a h f ⟨d,id,c,[]⟩ with⟨v,⟨rfl,rfl,g⟩,i⟩|j
  ·exact .inl ⟨_,⟨rfl,rfl,rfl,g,rfl⟩,i⟩
  ·exact .inr j
 cases ts with
 |nil=>exact e
 |cons t r=>
  obtain⟨u,z,o,q,s,p⟩:=Pu h f
  rw[u] at e⊢
  rw[ky2]
  by_cases l:(t.el a).isB 2 2 false=true
  ·rw[Aj l]
   obtain⟨w,y,A⟩:=vJ.1 l
   by_cases m:bod b (t.el a)=[]
   ·rw[Aj m]
    exact .inr ⟨6,_,Aa,Bi o q,rfl⟩
   ·rw[Ai m]
    rcases AE r _ s p ⟨d,id,c,bod b (t.el a)⟩ with⟨v,⟨rfl,rfl,g⟩,i⟩|j
    ·refine .inl ⟨_,⟨rfl,rfl,rfl,g,?_⟩,i⟩
     simp only
     rw[Ai m,Fm]
     show t.enc++[]=_
     grind [Tv.enc]
    ·exact .inr j
  ·rw[Ai l];exact e
theorem AG (i:b.length≤700000) (ts:List Tv) (a:Nat) (h:(els a ts).map (elO b)=ts.map Tv.enc) (g:∀x∈els a ts,x.stop≤b.length) (d:Bool) (id:List UInt8):pT b.length (fun v=>v.has=d∧v.id=id∧kdW v=true∧tvsE ts=(if v.iss=[] then [] else Ei 2 1 true (Nn v.iss))++if v.ser=[] then [] else Ei 2 2 false v.ser) (ky1 b d id (els a ts)):=by
 have f:pT b.length (fun v=>v.has=d∧v.id=id∧kdW v=true∧tvsE ts=(if v.iss=[] then [] else Ei 2 1 true (Nn v.iss))++if v.ser=[] then [] else Ei 2 2 false v.ser) (ky2 b d id [] (els a ts)):=by
  rcases AF ts a h g d id [] with⟨v,⟨l,m,y,q,j⟩,s⟩|i
  ·exact .inl ⟨v,⟨l,m,q,by rw[j,Aj y,Ap]⟩,s⟩
  ·exact .inr i
 cases ts with
 |nil=>exact f
 |cons t r=>
  obtain⟨P,C,z,K,E,J⟩:=Pu h g
  rw[P] at f⊢
  rw[ky1]
  by_cases p:(t.el a).isB 2 1 true=true
  ·rw[Aj p]
   obtain⟨A,B,M⟩:=vJ.1 p
   have N:(bod b (t.el a)).length≤b.length:=by unfold bod;rw[Ec,Eh];omega
   have F:=Ga 0 16 true (bod b (t.el a)) Aa
   rcases Ri (Ei 0 16 true (bod b (t.el a))) Aa with⟨v,H,v1,v2,L⟩|⟨c,o,-,-,I⟩
   ·rw[L]
    show pT _ _ (ky2 b d id v (els _ r))
    have O:bod b (t.el a)=Nn v:=by
     have u:(Nn v).length≤2147483647:=by
      have:=Hy 0 16 true (Nn v)
      have e:Ei 0 16 true (Nn v)=eS v:=rfl
      rw[e,←v2] at this;omega
     exact cN (c:=0) (n:=16) (k:=true) Aa Aa Aa u v2
    rcases AF r _ E J d id v with⟨w,⟨l,m,y,q,j⟩,s⟩|i
    ·refine .inl ⟨w,⟨l,m,q,?_⟩,s⟩
     rw[y,Ai H,Fm,j,←O,C,Tv.enc,A,B,M]
    ·exact .inr i
   ·rw[I]
    exact .inr ⟨6,_,Aa,Bi z K,rfl⟩
  ·rw[Ai p];exact f
theorem pJ (h:kdW k=true):(kdP k (Nn k.iss)).flatten=(if k.has=true then Ei 2 0 false k.id else [])++((if k.iss=[] then [] else Ei 2 1 true (Nn k.iss))++if k.ser=[] then [] else Ei 2 2 false k.ser):=by
 have c:=XC h
 unfold kdP
 grind
theorem fg (b:List UInt8) (e:b.length≤700000):pT b.length (fun v=>kdW v=true∧b=kdE v) (kyO b):=by
 unfold kyO
 by_cases h:(Dn b 0 16).code≠0
 ·rw[Aj h]
  exact .inr ⟨_,_,h,Hg b 0 16,rfl⟩
 rw[Ai h]
 obtain⟨ts,C,m,-,-,F⟩:=J2 (As.1 h)
 obtain⟨q,s,p,-,-⟩:=O1 (c:=0) (n:=16) ts Aa Aa C F
 rw[←m] at s p
 have f:∀x∈els q ts,x.stop≤b.length:=fun x B=>by
  have:=Ez (b:=b) (c:=0) (n:=16) (x:=x) (by rw[s];exact B)
  omega
 rw[s]
 show pT _ _ (ky0 b (els q ts))
 have d:pT b.length (fun v=>kdW v=true∧b=kdE v) (ky1 b false [] (els q ts)):=by
  rcases AG e ts q p f false [] with⟨v,⟨i,u,g,l⟩,o⟩|e
  ·refine .inl ⟨v,⟨g,?_⟩,o⟩
   unfold kdE
   rw[pJ g,i,Ai Ab,Ap,←l];exact m
  ·exact .inr e
 cases ts with
 |nil=>exact d
 |cons t r=>
  obtain⟨I,z,J,K,A,E⟩:=Pu p f
  rw[I] at d⊢
  rw[ky0]
  by_cases j:(t.el q).isB 2 0 false=true
  ·rw[Aj j]
   obtain⟨w,y,H⟩:=vJ.1 j
   rcases AG e r _ A E true (bod b (t.el q)) with⟨v,⟨i,u,g,l⟩,o⟩|e
   ·refine .inl ⟨v,⟨g,?_⟩,o⟩
    unfold kdE
    rw[pJ g,i,Aj rfl,←l,u,z,m,Fm,Tv.enc,w,y,H]
   ·exact .inr e
  ·rw[Ai j];exact d
structure Kd.mid (k:Kd):Prop where
 d:k.id.length≤50000000
 s:k.ser.length≤50000000
 i:gnsM k.iss
structure Kd.zz (k:Kd):Prop where
 d:k.id.length≤1000000
 s:k.ser.length≤1000000
 i:gnsZ k.iss
instance:DecidableEq Kd:=fun a b=>decidable_of_iff (a.has=b.has∧a.id=b.id∧a.iss=b.iss∧a.ser=b.ser) (by obtain⟨a1,a2,a3,a4⟩:=a;obtain⟨b1,b2,b3,b4⟩:=b;simp)
theorem GH (k:Kd) (h:k.mid):aC 311 [kdA k] (bv (kdW k)):=
 oK k (T9 k.iss) ⟨by have:=h.d;omega,by have:=h.i.n;omega,by have:=h.s;omega⟩ fun _=>U8 k.iss h.i
structure Acc.mid (a:Acc):Prop where
 o:a.m.length≤3000000
 g:a.g.mid
def OQ (a:Acc):List D:=sD a.m::cM a.g
def XD (l:List Acc):D:=J5 true 10 OQ l
theorem AH (l:List Acc):Ef (l.flatMap OQ)=l.flatMap WC:=by
 induction l with
 |nil=>rfl
 |cons a r c=>
  rw[A4,X3,c,A4]
  show D.un (sD a.m)::Ef (cM a.g)++_=_
  rw[Md];rfl
theorem XE (l:List Acc):(XD l).un=NH l:=by
 show D.sl false l.length 10 (Ef (l.flatMap OQ))=_
 rw[AH];rfl
abbrev acA (id:List UInt8) (g:Gn):AV:= .agg [sx id,iv g.k,.d (sD g.oid),.d (sD g.tx),.d (By true g.by'),.d (gX g.nm),iv g.ak,.d (sD g.av),iv g.pk,.d (sD g.pv)]
theorem Iy {p:Prop} (h:p:=by first|rfl|(simp only[D8,AV.ren,AV.give,D.un,Ef,D7,D6,Ap,Am,Ak,Ea,Ed,G2,F8,Ex,Gv,Ha,NI,oL,I4,Fi,Fy,E8,Ep,Eo,XE,AH,Md];first|done|rfl)):p:=h
theorem OR (id b:List UInt8) (d:b.length≤800000) {g:Gn} (h:Ks b=some g):aC 345 [sx id,.d (By false b)] (.tup [acA id g,bv true]):=by
 have c:=Oz b d
 rw[h] at c
 have c:aC 262 [.d (By false b)] (.tup [gnQ g,erA 0 0]):=c
 refine acQ 19 Tryz.func345 rfl rfl fun _ _ _=> ?_
 (repeat'((conv=>whnf);first|refine Al c Iy ?_|refine zF ?_|exact zE))
theorem XF (id b:List UInt8) (i:b.length≤800000) (h:Ks b=none):aC 345 [sx id,.d (By false b)] (.tup [acA id gz,bv false]):=by
 have f:=Oz b i
 obtain⟨d,-⟩:=T0 b
 rw[h] at f
 generalize U5 b=e at f d
 obtain⟨c,o⟩:=e
 simp only at d
 have f:aC 262 [.d (By false b)] (.tup [gnQ gz,erA c o]):=f
 have g:((c:Int)==0)=false:=by rw[An];omega
 refine acQ 19 Tryz.func345 rfl rfl fun _ _ _=> ?_
 (repeat'((conv=>whnf);first|refine Al f Iy ?_|refine zF ?_));(all_goals(conv=>whnf))
 all_goals(refine E0 ?_;(repeat'(first|exact trivial|exact Er _|refine A1 ?_ ?_|exact rfl));(all_goals(conv=>whnf)))
 all_goals exact g
def OS:Option (List UInt8×List UInt8)→AV
 |none=> .tup [.agg [sx [],iv 0,sx [],sx [],Ff,Ff,iv 0,sx [],iv 0,sx []],bv false]
 |some (id,s)=>match Ks s with
  |some g=> .tup [acA id g,bv true]
  |none=> .tup [acA id gz,bv false]
theorem GI (b:List UInt8) (L:b.length≤800000):aC 347 [adA,.d (By false b)] (OS (Qp b)):=by
 have d:=Fc b 0 16 Aa
 have f:=fun x=>Ez (b:=b) (c:=0) (n:=16) (x:=x)
 have q:=F4 b 0 16
 unfold Qp
 generalize Dn b 0 16=r at d f q⊢
 by_cases m:r.code≠0
 ·rw[Rb (.inl m)]
  rw[lrA,Aj m] at d
  have B:((r.code:Int) !=0)=true:=by rw[Av];omega
  generalize r.code=c at d B
  generalize r.off=o at d
  refine acQ 65 Tryz.func347 rfl rfl fun _ _ _=> ?_
  (repeat'((conv=>whnf);first|refine zB ?_|refine Al d Iy ?_|exact zE))
 rw[lrA,Ai m] at d
 by_cases A:r.l.length≠2
 ·rw[Rb (.inr A)]
  have K:((r.l.length:Int) !=2)=true:=by rw[Av];omega
  refine acQ 65 Tryz.func347 rfl rfl fun _ _ _=> ?_
  (repeat'((conv=>whnf);first|refine zB ?_|refine Al d Iy ?_|exact zE))
 obtain⟨l,c,o⟩:=r
 obtain⟨x,y,rfl⟩:∃x y,l=[x,y]:=by
  match l,A with
  |[x,y],_=>exact⟨x,y,rfl⟩
  |[],h=>simp at h
  |[x],h=>simp at h
  |x::y::z::r,h=>simp at h
 obtain rfl:c=0:=As.1 m
 obtain⟨I,F,E⟩:=f x Ab
 obtain⟨H,M,J⟩:=f y Ab
 have j:=Fo x 0 6 false
 have e:=G5 (bod b x) (by unfold bod;rw[Ec,Eh];omega)
 have C:=Kr b y
 have p:([x,y]:List El)[0]?=some x:=rfl
 have u:([x,y]:List El)[1]?=some y:=rfl
 show Es _ _ _ (fun r=>r=OS (if x.isB 0 6 false=true∧odC (bod b x)=0 then some (odT (bod b x),elO b y) else none))
 cases v:x.isB 0 6 false
 ·rw[v] at j
  rw[Ai Ab]
  refine acQ 65 Tryz.func347 rfl rfl fun _ _ _=> ?_
  (repeat'((conv=>whnf);first|refine zY ?_|refine Al d Iy ?_|refine NIdx.tab (fun _=>rfl) p ?_|refine Al j rfl ?_|exact zE))
 rw[v] at j
 by_cases s:odC (bod b x)=0
 ·rw[Aj ⟨rfl,s⟩]
  rw[Ox,s] at e
  rw[OS]
  cases w:Ks (elO b y) with
  |some g=>
   have i:=OR (odT (bod b x)) (elO b y) Aa w
   unfold bod at e i⊢
   unfold elO at i
   refine acQ 65 Tryz.func347 rfl rfl fun _ _ _=> ?_
   (repeat'((conv=>whnf);first|refine Ee ?_|refine Al d Iy ?_|refine NIdx.tab (fun _=>rfl) p ?_|refine NIdx.tab (fun _=>rfl) u ?_|refine Al j rfl ?_|refine NSl.slice (x.body) (x.stop) ?_|refine NSl.slice (y.at') (y.stop) ?_|refine Al e Iy ?_|refine Al i Iy ?_|refine zF ?_|exact zE))
  |none=>
   have i:=XF (odT (bod b x)) (elO b y) Aa w
   unfold bod at e i⊢
   unfold elO at i
   refine acQ 65 Tryz.func347 rfl rfl fun _ _ _=> ?_
   (repeat'((conv=>whnf);first|refine Ee ?_|refine Al d Iy ?_|refine NIdx.tab (fun _=>rfl) p ?_|refine NIdx.tab (fun _=>rfl) u ?_|refine Al j rfl ?_|refine NSl.slice (x.body) (x.stop) ?_|refine NSl.slice (y.at') (y.stop) ?_|refine Al e Iy ?_|refine Al i Iy ?_|refine zF ?_|exact zE))
 ·rw[Ai (fun h=>s h.2)]
  have gd:((odC (bod b x):Int) !=0)=true:=by rw[Av];omega
  rw[Ox] at e
  unfold bod at e gd
  refine acQ 65 Tryz.func347 rfl rfl fun _ _ _=> ?_
  (repeat'((conv=>whnf);first|refine zB ?_|refine Al d Iy ?_|refine NIdx.tab (fun _=>rfl) p ?_|refine Al j rfl ?_|refine NSl.slice (x.body) (x.stop) ?_|refine Al e Iy ?_|refine zF ?_|exact zE))
def vAc (s:List UInt8):Option Acc:=match Qp s with
 |some (id,t)=>(Ks t).map fun g=>⟨id,g⟩
 |none=>none
def Kk (b:List UInt8):List El→Option (List Acc)×Nat
 |[]=>(some [],0)
 |x::r=>match vAc (elO b x) with
  |none=>(none,x.at')
  |some m=>match Kk b r with
   |(some ms,_)=>(some (m::ms),0)
   |(none,p)=>(none,p)
def cO (ms:List Acc):Option (List Acc)×Nat→Option (List Acc)×Nat
 |(some r,_)=>(some (ms++r),0)
 |(none,p)=>(none,p)
theorem vK (b:List UInt8):∀l:List El,(Kk b l).1.isSome=true→(Kk b l).2=0
 |[],_=>rfl
 |x::r,h=>by
  rw[Kk] at h⊢
  cases c:vAc (elO b x) with
  |none=>rw[c] at h;cases h
  |some m=>
   rw[c] at h
   cases d:Kk b r with
   |mk o p=>rw[d] at h;cases o with
    |none=>cases h
    |some e=>rfl
theorem GJ (b:List UInt8) (l:List El):cO [] (Kk b l)=Kk b l:=by
 have h:=vK b l
 cases c:Kk b l with
 |mk o p=>
  rw[c] at h
  cases o with
  |none=>rfl
  |some d=>have:=h rfl;simp only at this;subst this;rfl
theorem vL {x:El} {r:List El} {m:Acc} (c:List Acc) (d:vAc (elO b x)=some m):cO c (Kk b (x::r))=cO (c++[m]) (Kk b r):=by
 rw[Kk,d]
 cases e:Kk b r with
 |mk o p=>cases o with
  |none=>rfl
  |some l=>simp[cO]
def Yy (b:List UInt8):AV:=if(Dn b 0 16).code≠0 then .tup [Ff,erA (Dn b 0 16).code (Dn b 0 16).off] else
 match Kk b (Dn b 0 16).l with
 |(none,p)=> .tup [Ff,erA 6 p]
 |(some [],_)=> .tup [Ff,erA 1 b.length]
 |(some ms,_)=> .tup [.d (XD ms),erA 0 0]
theorem GK (b:List UInt8) (U:b.length≤800000):aC 273 [adA,.d (By false b)] (Yy b):=by
 have f:=Fc b 0 16 Aa
 have u:=fun x=>Ez (b:=b) (c:=0) (n:=16) (x:=x)
 have y:=F4 b 0 16
 unfold Yy
 generalize Dn b 0 16=R at f u y⊢
 by_cases C:R.code≠0
 ·rw[Aj C]
  rw[lrA,Aj C] at f
  have K:((R.code:Int) !=0)=true:=by rw[Av];omega
  generalize R.code=c at f K
  generalize R.off=o at f
  refine acQ 57 Tryz.func273 rfl rfl fun _ _ _=> ?_
  (repeat'((conv=>whnf);first|refine zP ?_|refine Al f Iy ?_|refine zF ?_|exact zE))
 rw[Ai C]
 rw[lrA,Ai C] at f
 generalize R.l=l at f u y⊢
 have B:Kk b l=cO [] (Kk b (l.drop 0)):=by rw[GJ,List.drop_zero]
 generalize T:Kk b l=q at B⊢
 refine acQ 57 Tryz.func273 rfl rfl fun _ _ _=> ?_
 (repeat'((conv=>whnf);first|refine Ee ?_|refine Al f Iy ?_));(all_goals(conv=>whnf))
 refine F2 [.s 8 10 455] (fun z:Nat×List Acc=>z.1≤l.length∧z.2.length≤z.1∧q=cO z.2 (Kk b (l.drop z.1))) (fun z=>l.length-z.1) (fun z=>⟨[(1,.d (By false b)),(2,.ptr 2 0),(5,.ptr 5 0),(8,Fy 8 10 455 OQ z.2),(22,.d (Gw l)),(23,iv l.length),(24,iv z.1)],[(2,[.d (.fn 345 []),.d (.fn 346 [])]),(5,[iv 0,iv 0])],[(8,(z.2.length,10,455))]⟩) (0,[]) ⟨Ab,Ab,B⟩ leQ ?_
 rintro⟨i,F⟩ ⟨O,M,j⟩
 simp only at O M j
 by_cases I:i<l.length
 ·have L:decide ((i:Int)<l.length)=true:=Aq Aa
  obtain⟨x,A⟩:∃p,l[i]?=some p:=⟨_,Ev I⟩
  obtain⟨V,Q,P⟩:=u x (F9 A)
  have d:=GI (elO b x) (by unfold elO;rw[Ec,Eh];omega)
  rw[Lt A] at j
  have e:vAc (elO b x)=none→q=(none,x.at'):=fun h=>by rw[j,Kk,h];rfl
  unfold vAc at e
  cases H:Qp (elO b x) with
  |none=>
   rw[H] at d e
   rw[e rfl]
   rw[OS] at d
   unfold elO at d
   (repeat'((conv=>whnf);first|refine zB ?_|refine NIdx.tab (fun _=>rfl) A ?_|refine NSl.slice (x.at') (x.stop) ?_|refine Al d Iy ?_|refine zF ?_|exact zE))
  |some w=>
   obtain⟨id,s⟩:=w
   rw[H] at d e
   rw[OS] at d
   cases E:Ks s with
   |none=>
    rw[E] at d
    have v:q=(none,x.at'):=e (by show(Ks s).map (fun g=>(⟨id,g⟩:Acc))=none;rw[E];rfl)
    rw[v]
    unfold elO at d
    (repeat'((conv=>whnf);first|refine zB ?_|refine NIdx.tab (fun _=>rfl) A ?_|refine NSl.slice (x.at') (x.stop) ?_|refine Al d Iy ?_|refine zF ?_|exact zE))
   |some g=>
    have N:vAc (elO b x)=some ⟨id,g⟩:=by unfold vAc;rw[H];show(Ks s).map (fun g=>(⟨id,g⟩:Acc))=_;rw[E];rfl
    rw[E] at d
    rw[vL F N] at j
    unfold elO at d
    (repeat'((conv=>whnf);first|refine zB ?_|refine NIdx.tab (fun _=>rfl) A ?_|refine NSl.slice (x.at') (x.stop) ?_|refine Al d Iy ?_|refine E4 OQ (⟨id,g⟩:Acc) ?_|refine zI ?_|refine zF ?_));(all_goals(conv=>whnf))
    refine⟨(i+1,F++[⟨id,g⟩]),⟨by show i+1≤_;omega,Af,j⟩,by show l.length-(i+1)<l.length-i;omega,?_⟩
    exact leQ
 ·have L:decide ((i:Int)<l.length)=false:=Ao Aa
  obtain rfl:i=l.length:=Aa
  rw[List.drop_length,Kk] at j
  have J:q=(some F,0):=by rw[j];simp[cO]
  subst J
  cases F with
  |nil=>
   (repeat'((conv=>whnf);first|refine zB ?_|exact zE))
  |cons m r=>
   (repeat'((conv=>whnf);first|refine zB ?_|exact zE))
theorem cP (b:List UInt8) (h:b.length≤800000):aC 209 [.d (By false b)] (Yy b):=by
 have e:=NN
 have d:=GK b h
 unfold Yy at d⊢
 by_cases f:(Dn b 0 16).code≠0
 ·rw[Aj f] at d⊢
  generalize (Dn b 0 16).code=c at d
  generalize (Dn b 0 16).off=o at d
  refine acQ 9 Tryz.func209 rfl rfl fun _ _ _=> ?_
  (repeat'((conv=>whnf);first|refine Al e rfl ?_|refine Al d Iy ?_|exact zE))
 rw[Ai f] at d⊢
 generalize Kk b (Dn b 0 16).l=q at d⊢
 obtain⟨o,p⟩:=q
 match o with
 |none=>
  replace d:aC 273 [adA,.d (By false b)] (.tup [Ff,erA 6 p]):=d
  show Es _ _ _ (fun r=>r= .tup [Ff,erA 6 p])
  refine acQ 9 Tryz.func209 rfl rfl fun _ _ _=> ?_
  (repeat'((conv=>whnf);first|refine Al e rfl ?_|refine Al d Iy ?_|exact zE))
 |some []=>
  replace d:aC 273 [adA,.d (By false b)] (.tup [Ff,erA 1 b.length]):=d
  show Es _ _ _ (fun r=>r= .tup [Ff,erA 1 b.length])
  refine acQ 9 Tryz.func209 rfl rfl fun _ _ _=> ?_
  (repeat'((conv=>whnf);first|refine Al e rfl ?_|refine Al d Iy ?_|exact zE))
 |some (m::r)=>
  replace d:aC 273 [adA,.d (By false b)] (.tup [.d (XD (m::r)),erA 0 0]):=d
  show Es _ _ _ (fun g=>g= .tup [.d (XD (m::r)),erA 0 0])
  refine acQ 9 Tryz.func209 rfl rfl fun _ _ _=> ?_
  (repeat'((conv=>whnf);first|refine Al e rfl ?_|refine Al d Iy ?_|exact zE))
end Go.Proofs.YtbedjionhmaafaaGreatDoor
