/- NB: the texts PtP PtQ PtR PtL Pla Plm Pli Plj Plr Plq Peq Pll, one behind the other. No condition but what each lemma says. -/
import Derived.Test.YtbedjionhmaafaaGreatDoorMW
import Derived.Test.YtbedjionhmaafaaGreatDoorNA
set_option linter.all false
namespace Go.Proofs.YtbedjionhmaafaaGreatDoor
open Go.RowKit
set_option maxRecDepth 100000
variable {c b k:List UInt8} {n:Nat} {p:Prop}
inductive Vl where
 |nm (f:List Gn) (r:List Att)
 |rs (s:Nat)
 |is (i:List Gn)
 |fl
variable {v:Vl} {vs:List (Nat×Vl)} {o:Option Vl}
def pL (r:List Att):List UInt8:=(r.map atE).flatten
def nmC (f:List Gn) (r:List Att):List UInt8:=if f=[] then Ei 2 1 true (pL r) else Ei 2 0 true (Nn f)
def vlC:Vl→List UInt8
 | .nm f r=>nmC f r
 | .rs s=>GL s
 | .is i=>Nn i
 | .fl=>[255]
def vlK:Vl→Bool
 | .nm _ _=>true
 | .rs _=>false
 | .is _=>true
 | .fl=>false
abbrev vlT (p:Nat×Vl):Tv:=⟨2,p.1,vlK p.2,vlC p.2⟩
def vlW (k:UInt8):Vl→Prop
 | .nm f r=>k=110∧((f≠[]∧r=[]∧f.all gnW=true)∨(f=[]∧My r=true))
 | .rs s=>k=114∧0<s∧s<512
 | .is i=>k=105∧i≠[]∧i.all gnW=true
 | .fl=>k=102
def Mf (c:List UInt8):Option (List Gn):=(X4 (Ei 0 16 true c)).1
def P5 (c:List UInt8):Option Vl:=match Gj c 0 with
 |some d=>(Mf d).map fun f=> .nm f []
 |none=>match Gj c 1 with
  |some d=>(Pf (Ei 0 17 true d)).1.map fun r=> .nm [] r
  |none=>none
def vlO (k:UInt8) (c:List UInt8):Option Vl:=if k=110 then P5 c else if k=114 then(kS c).map .rs else if k=105 then(Mf c).map .is else if c=[255] then some .fl else none
def kOk (k:UInt8):Prop:=k=110∨k=114∨k=105∨k=102
theorem U9 {l:List Gn} (h:Mf c=some l) (m:c.length≤700000):l≠[]∧l.all gnW=true∧c=Nn l:=by
 unfold Mf at h
 have g:=Ga 0 16 true c Aa
 rcases Ri (Ei 0 16 true c) Aa with⟨v,j,v1,v2,i⟩|⟨a,o,-,-,f⟩
 ·rw[i] at h
  obtain rfl:=Az h
  have d:(Nn v).length≤2147483647:=by
   have:=Hy 0 16 true (Nn v)
   have e:Ei 0 16 true (Nn v)=eS v:=rfl
   rw[e,←v2] at this;omega
  exact⟨j,v1,cN (c:=0) (n:=16) (k:=true) Aa Aa Aa d v2⟩
 ·rw[f] at h;cases h
theorem cU {v:List UInt8} (h:Gj b n=some v):v.length≤b.length:=by
 have:=Hy 2 n true v
 rw[M0 h];omega
theorem vN (h:P5 c=some v) (u:c.length≤700000):∃f r,v= .nm f r∧((f≠[]∧r=[]∧f.all gnW=true)∨(f=[]∧My r=true))∧c=nmC f r:=by
 unfold P5 at h
 cases j:Gj c 0 with
 |some d=>
  rw[j] at h
  have e:=M0 j
  have s:=cU j
  have h:(Mf d).map (fun f=>Vl.nm f [])=some v:=h
  cases a:Mf d with
  |none=>rw[a] at h;cases h
  |some f=>
   rw[a] at h
   obtain rfl:=Az h
   obtain⟨q,m,i⟩:=U9 a Aa
   refine⟨f,[],rfl,.inl ⟨q,rfl,m⟩,?_⟩
   unfold nmC
   rw[Ai q,←i];exact e
 |none=>
  rw[j] at h
  have h:(match Gj c 1 with|some d=>(Pf (Ei 0 17 true d)).1.map (fun r=>Vl.nm [] r)|none=>none)=some v:=h
  cases g:Gj c 1 with
  |none=>rw[g] at h;cases h
  |some d=>
   rw[g] at h
   have e:=M0 g
   have s:=cU g
   have h:(Pf (Ei 0 17 true d)).1.map (fun r=>Vl.nm [] r)=some v:=h
   cases a:(Pf (Ei 0 17 true d)).1 with
   |none=>rw[a] at h;cases h
   |some r=>
    rw[a] at h
    obtain rfl:=Az h
    have t:=Ga 0 17 true d Aa
    obtain⟨m,i⟩:=pB a Aa
    refine⟨[],r,rfl,.inr ⟨rfl,m⟩,?_⟩
    have l:(pL r).length≤2147483647:=by
     have:=Hy 0 17 true (pL r)
     have e:Ei 0 17 true (pL r)=Ka r:=rfl
     rw[e,←i] at this;omega
    have:d=pL r:=cN (c:=0) (n:=17) (k:=true) Aa Aa Aa l i
    unfold nmC
    rw[Aj rfl,←this];exact e
theorem XI {k:UInt8} (m:kOk k) (h:vlO k c=some v) (j:c.length≤700000):vlW k v∧c=vlC v:=by
 rcases m with rfl|rfl|rfl|rfl
 ·obtain⟨f,r,rfl,l,q⟩:=vN (show P5 c=some v from h) j
  exact⟨⟨rfl,l⟩,q⟩
 ·have h:(kS c).map Vl.rs=some v:=h
  cases a:kS c with
  |none=>rw[a] at h;cases h
  |some s=>
   rw[a] at h
   obtain rfl:=Az h
   obtain⟨i,d,g⟩:=OU a
   exact⟨⟨rfl,i,d⟩,g⟩
 ·have h:(Mf c).map Vl.is=some v:=h
  cases a:Mf c with
  |none=>rw[a] at h;cases h
  |some s=>
   rw[a] at h
   obtain rfl:=Az h
   obtain⟨i,d,g⟩:=U9 a j
   exact⟨⟨rfl,i,d⟩,g⟩
 ·have h:(if c=[255] then some Vl.fl else none)=some v:=h
  by_cases e:c=[255]
  ·rw[Aj e] at h
   obtain rfl:=Az h
   exact⟨rfl,e⟩
  ·rw[Ai e] at h;cases h
def XJ (k:UInt8):Bool:=k==110||k==105
theorem XK {k:UInt8} (h:vlW k v):vlK v=XJ k:=by
 cases v with
 |nm f r=>obtain⟨rfl,-⟩:=h;rfl
 |rs s=>obtain⟨rfl,-⟩:=h;rfl
 |is i=>obtain⟨rfl,-⟩:=h;rfl
 |fl=>obtain rfl:k=102:=h;rfl
structure Dr where
 f:List Gn
 r:List Att
 s:Nat
 i:List Gn
 fl:Nat→Bool
def dr0:Dr:=⟨[],[],0,[],fun _=>false⟩
def Dr.set (d:Dr) (n:Nat):Vl→Dr
 | .nm f r=>if f=[] then{d with r:=r} else{d with f:=f}
 | .rs s=>{d with s:=s}
 | .is i=>{d with i:=i}
 | .fl=>{d with fl:=fun m=>m==n||d.fl m}
def drF (b k:List UInt8):List El→Int→Dr→Option Dr×Nat×Nat
 |[],_,d=>(some d,0,0)
 |x::l,last,d=>if x.c≠2∨k.length≤x.n∨(x.n:Int)≤last then(none,3,x.at') else if x.k≠XJ (k.getD x.n 0) then(none,3,x.at') else match vlO (k.getD x.n 0) (bod b x) with
  |none=>(none,6,x.body)
  |some v=>drF b k l x.n (d.set x.n v)
def rdD (b k:List UInt8):Option Dr×Nat×Nat:=if(Dn b 0 16).code≠0 then(none,(Dn b 0 16).code,(Dn b 0 16).off) else drF b k (Dn b 0 16).l (-1) dr0
def asc (m:Nat):Int→List (Nat×Vl)→Prop
 |_,[]=>True
 |last,p::r=>last<p.1∧p.1<m∧asc m p.1 r
def Ww (d:Dr) (vs:List (Nat×Vl)):Dr:=vs.foldl (fun d p=>d.set p.1 p.2) d
def vsW (k:List UInt8) (vs:List (Nat×Vl)):Prop:=∀p∈vs,vlW (k.getD p.1 0) p.2
theorem AJ {b k:List UInt8} (P:b.length≤700000) (y:∀x∈k,kOk x):∀(ts:List Tv) (a:Nat) (e:Int) (d:Dr),(els a ts).map (elO b)=ts.map Tv.enc→(∀x∈els a ts,x.stop≤b.length)→pT b.length (fun l=>∃vs,asc k.length e vs∧vsW k vs∧ts=vs.map vlT∧l=Ww d vs) (drF b k (els a ts) e d)
 |[],a,e,d,_,_=> .inl ⟨d,⟨[],trivial,(fun _ h=>by cases h),rfl,rfl⟩,rfl⟩
 |t::ts,a,e,d,h,hin=>by
  obtain⟨N,z,u,K,C,J⟩:=Pu h hin
  have H:a+t.hd≤(t.el a).stop:=u
  rw[N,drF]
  by_cases s:(t.el a).c≠2∨k.length≤(t.el a).n∨((t.el a).n:Int)≤e
  ·rw[Aj s]
   exact .inr ⟨3,a,Aa,Aa,rfl⟩
  rw[Ai s]
  by_cases q:(t.el a).k≠XJ (k.getD (t.el a).n 0)
  ·rw[Aj q]
   exact .inr ⟨3,a,Aa,Aa,rfl⟩
  rw[Ai q]
  have j:t.n<k.length:=by
   have:(t.el a).n=t.n:=rfl
   omega
  have m:kOk (k.getD (t.el a).n 0):=by
   show kOk (k.getD t.n 0)
   rw[Bo,Ev j,Cu]
   exact y _ (Dc j)
  rw[z]
  have r:t.v.length≤700000:=by
   rw[←z];unfold bod;rw[Ec,Eh];omega
  cases I:vlO (k.getD (t.el a).n 0) t.v with
  |none=>exact .inr ⟨6,_,Aa,Bi u K,rfl⟩
  |some v=>
   obtain⟨v1,v2⟩:=XI m I r
   have A:t.c=2:=by
    have:(t.el a).c=t.c:=rfl
    omega
   have f:t.k=vlK v:=by
    rw[XK v1]
    exact As.1 q
   have E:t=vlT (t.n,v):=by
    obtain⟨c,n,Q,w⟩:=t
    simp only at A f v2
    subst A f v2
    rfl
   rcases AJ P y ts _ (t.el a).n (d.set (t.el a).n v) C J with⟨l,⟨vs,L,F,M,O⟩,B⟩|g
   ·refine .inl ⟨l,⟨(t.n,v)::vs,⟨by show e<(t.n:Int);have:(t.el a).n=t.n:=rfl;omega,j,L⟩,?_,?_,O⟩,B⟩
    ·intro p i
     rcases Bj.1 i with rfl|i
     ·exact v1
     ·exact F p i
    ·rw[Bc,←E,←M]
   ·exact .inr g
def vsB (vs:List (Nat×Vl)):List (List UInt8):=vs.map fun p=>(vlT p).enc
def vsE (vs:List (Nat×Vl)):List UInt8:=Ei 0 16 true (vsB vs).flatten
theorem fh (vs:List (Nat×Vl)):(vsB vs).flatten=tvsE (vs.map vlT):=by
 rw[Iq,Dg];rfl
theorem Zs (y:b.length≤700000) (l:∀x∈k,kOk x):pT b.length (fun e=>∃vs,asc k.length (-1) vs∧vsW k vs∧b=vsE vs∧e=Ww dr0 vs) (rdD b k):=by
 unfold rdD
 by_cases d:(Dn b 0 16).code≠0
 ·rw[Aj d]
  exact .inr ⟨_,_,d,Hg b 0 16,rfl⟩
 rw[Ai d]
 obtain⟨ts,i,t,-,-,j⟩:=J2 (As.1 d)
 obtain⟨q,f,h,-,-⟩:=O1 (c:=0) (n:=16) ts Aa Aa i j
 rw[←t] at f h
 have g:∀x∈els q ts,x.stop≤b.length:=fun x w=>by
  have:=Ez (b:=b) (c:=0) (n:=16) (x:=x) (by rw[f];exact w)
  omega
 rw[f]
 rcases AJ y l ts q (-1) dr0 h g with⟨e,⟨vs,r,s,z,u⟩,m⟩|a
 ·refine .inl ⟨e,⟨vs,r,s,?_,u⟩,m⟩
  grind [vsE,fh]
 ·exact .inr a
structure Pt where
 f:List Gn
 r:List Att
 s:Int
 i:List Gn
 deriving DecidableEq
structure Iss where
 f:List Gn
 r:List Att
 u:Bool
 c:Bool
 n:Bool
 a:Bool
 s:Int
 deriving DecidableEq
def opt (n:Nat) (c:Prop) [Decidable c] (v:Vl):List (Nat×Vl):=if c then [(n,v)] else []
def nmW (f:List Gn) (r:List Att):Prop:=(f=[]∨r=[]∧f.all gnW=true)∧(r=[]∨My r=true)
instance (f:List Gn) (r:List Att):Decidable (nmW f r):=by unfold nmW;infer_instance
def rsW (s:Int):Prop:=0≤s∧s<512
instance (s:Int):Decidable (rsW s):=by unfold rsW;infer_instance
def kU (p:Pt):List (Nat×Vl):=opt 0 (p.f≠[]∨p.r≠[]) (.nm p.f p.r)++(opt 1 (p.s≠0) (.rs p.s.toNat)++opt 2 (p.i≠[]) (.is p.i))
def kV (x:Iss):List (Nat×Vl):=opt 0 (x.f≠[]∨x.r≠[]) (.nm x.f x.r)++(opt 1 (x.u=true) .fl++(opt 2 (x.c=true) .fl++(opt 3 (x.s≠0) (.rs x.s.toNat)++(opt 4 (x.n=true) .fl++opt 5 (x.a=true) .fl))))
def ptE (p:Pt):List UInt8:=vsE (kU p)
def isE (x:Iss):List UInt8:=vsE (kV x)
def ptW (p:Pt):Bool:=decide (nmW p.f p.r∧rsW p.s∧(p.i=[]∨p.i.all gnW=true)∧(p.f≠[]∨p.r≠[]∨p.i≠[]))
def AK (x:Iss):Prop:=¬(x.u=true∧x.c=true)∧¬(x.u=true∧x.a=true)∧¬(x.c=true∧x.a=true)
def AL (x:Iss):Prop:=x.f≠[]∨x.r≠[]∨x.u=true∨x.c=true∨x.n=true∨x.a=true∨x.s≠0
instance (x:Iss):Decidable (AK x):=by unfold AK;infer_instance
instance (x:Iss):Decidable (AL x):=by unfold AL;infer_instance
def isW (x:Iss):Bool:=decide (nmW x.f x.r∧rsW x.s∧AK x∧AL x)
abbrev k3:List UInt8:=[110,114,105]
abbrev k6:List UInt8:=[110,102,102,114,102,102]
theorem bn:∀x∈k3,kOk x:=by simp[kOk]
theorem bo:∀x∈k6,kOk x:=by simp[kOk]
theorem Kt {m:Nat} {a:Int} (j:a=(n:Int)-1) (h:asc m a vs):∃o:Option Vl,∃d,vs=(o.map fun v=>(n,v)).toList++d∧asc m n d:=by
 cases vs with
 |nil=>exact⟨none,[],rfl,trivial⟩
 |cons p r=>
  obtain⟨i,g,e⟩:=h
  by_cases f:p.1=n
  ·refine⟨some p.2,r,?_,by rw[f] at e;exact e⟩
   grind
  ·exact⟨none,p::r,rfl,Aa,g,e⟩
theorem AM {m:Nat} (h:asc m n vs) (d:m≤n+1):vs=[]:=by
 cases vs with
 |nil=>rfl
 |cons p r=>obtain⟨a,e,-⟩:=h;omega
theorem Ob {a b:List (Nat×Vl)} (h:vsW k (a++b)):vsW k a∧vsW k b:=⟨fun p d=>h p (by simp[d]),fun p d=>h p (by simp[d])⟩
theorem ku (e:k.getD n 0=110) (h:vsW k (o.map fun v=>(n,v)).toList):∃f r,(o.map fun v=>(n,v)).toList=opt n (f≠[]∨r≠[]) (.nm f r)∧nmW f r:=by
 cases o with
 |none=>exact⟨[],[],rfl,.inl rfl,.inl rfl⟩
 |some v=>
  have a:vlW (k.getD n 0) v:=h (n,v) Ab
  rw[e] at a
  cases v with
  |nm f r=>
   obtain⟨-,h|h⟩:=a
   ·obtain⟨g,rfl,d⟩:=h
    exact⟨f,[],by unfold opt;rw[Aj (.inl g)];rfl,.inr ⟨rfl,d⟩,.inl rfl⟩
   ·obtain⟨rfl,d⟩:=h
    exact⟨[],r,by unfold opt;rw[Aj (.inr (Zo d).1)];rfl,.inl rfl,.inr d⟩
  |rs s=>exact Bg a.1 Ae
  |is i=>exact Bg a.1 Ae
  |fl=>exact Bg (show(110:UInt8)=102 from a) Ae
theorem kw (d:k.getD n 0=114) (h:vsW k (o.map fun v=>(n,v)).toList):∃s:Int,(o.map fun v=>(n,v)).toList=opt n (s≠0) (.rs s.toNat)∧rsW s:=by
 cases o with
 |none=>exact⟨0,rfl,by unfold rsW;omega⟩
 |some v=>
  have a:vlW (k.getD n 0) v:=h (n,v) Ab
  rw[d] at a
  cases v with
  |nm f r=>exact Bg a.1 Ae
  |rs s=>
   obtain⟨-,g,e⟩:=a
   exact⟨s,by unfold opt;rw[Aj Aa];rfl,by unfold rsW;omega⟩
  |is i=>exact Bg a.1 Ae
  |fl=>exact Bg (show(114:UInt8)=102 from a) Ae
theorem np (e:k.getD n 0=105) (h:vsW k (o.map fun v=>(n,v)).toList):∃i:List Gn,(o.map fun v=>(n,v)).toList=opt n (i≠[]) (.is i)∧(i=[]∨i.all gnW=true):=by
 cases o with
 |none=>exact⟨[],rfl,.inl rfl⟩
 |some v=>
  have a:vlW (k.getD n 0) v:=h (n,v) Ab
  rw[e] at a
  cases v with
  |nm f r=>exact Bg a.1 Ae
  |rs s=>exact Bg a.1 Ae
  |is i=>
   obtain⟨-,g,d⟩:=a
   exact⟨i,by unfold opt;rw[Aj g];rfl,.inr d⟩
  |fl=>exact Bg (show(105:UInt8)=102 from a) Ae
theorem XL (d:k.getD n 0=102) (h:vsW k (o.map fun v=>(n,v)).toList):∃b:Bool,(o.map fun v=>(n,v)).toList=opt n (b=true) .fl:=by
 cases o with
 |none=>exact⟨false,rfl⟩
 |some v=>
  have a:vlW (k.getD n 0) v:=h (n,v) Ab
  rw[d] at a
  cases v with
  |nm f r=>exact Bg a.1 Ae
  |rs s=>exact Bg a.1 Ae
  |is i=>exact Bg a.1 Ae
  |fl=>exact⟨true,rfl⟩
theorem bp (h:asc 3 (-1) vs) (a:vsW k3 vs):∃p:Pt,vs=kU p∧nmW p.f p.r∧rsW p.s∧(p.i=[]∨p.i.all gnW=true):=by
 obtain⟨A,v1,rfl,d⟩:=Kt (n:=0) Aa h
 obtain⟨C,v2,rfl,y⟩:=Kt (n:=1) Aa d
 obtain⟨B,z,rfl,e⟩:=Kt (n:=2) Aa y
 obtain rfl:=AM e Aa
 obtain⟨g,a⟩:=Ob a
 obtain⟨q,a⟩:=Ob a
 obtain⟨t,-⟩:=Ob a
 obtain⟨f,r,j,w⟩:=ku rfl g
 obtain⟨s,x,l⟩:=kw rfl q
 obtain⟨i,m,u⟩:=np rfl t
 exact⟨⟨f,r,s,i⟩,by rw[j,x,m,Am];rfl,w,l,u⟩
theorem bq (h:asc 6 (-1) vs) (d:vsW k6 vs):∃x:Iss,vs=kV x∧nmW x.f x.r∧rsW x.s:=by
 obtain⟨T,v1,rfl,e⟩:=Kt (n:=0) Aa h
 obtain⟨P,v2,rfl,I⟩:=Kt (n:=1) Aa e
 obtain⟨O,R,rfl,w⟩:=Kt (n:=2) Aa I
 obtain⟨V,L,rfl,y⟩:=Kt (n:=3) Aa w
 obtain⟨N,M,rfl,t⟩:=Kt (n:=4) Aa y
 obtain⟨U,Q,rfl,E⟩:=Kt (n:=5) Aa t
 obtain rfl:=AM E Aa
 obtain⟨z,d⟩:=Ob d
 obtain⟨C,d⟩:=Ob d
 obtain⟨q,d⟩:=Ob d
 obtain⟨F,d⟩:=Ob d
 obtain⟨H,d⟩:=Ob d
 obtain⟨j,-⟩:=Ob d
 obtain⟨f,r,A,J⟩:=ku rfl z
 obtain⟨u,K⟩:=XL rfl C
 obtain⟨c,l⟩:=XL rfl q
 obtain⟨s,g,i⟩:=kw rfl F
 obtain⟨n,B⟩:=XL rfl H
 obtain⟨a,m⟩:=XL rfl j
 exact⟨⟨f,r,u,c,n,a,s⟩,by rw[A,K,l,g,B,m,Am];rfl,J,i⟩
theorem O2 (d:Dr) (a b:List (Nat×Vl)):Ww d (a++b)=Ww (Ww d a) b:=Dw
theorem Wx (d:Dr) (n:Nat) (c:Prop) [Decidable c] (v:Vl):Ww d (opt n c v)=if c then d.set n v else d:=by
 unfold opt
 split<;>rfl
theorem AN {f:List Gn} {r:List Att} (h:nmW f r):Ww dr0 (opt 0 (f≠[]∨r≠[]) (.nm f r))=⟨f,r,0,[],fun _=>false⟩:=by
 rw[Wx]
 by_cases a:f=[]
 ·subst a
  by_cases d:r=[]
  ·subst d;rfl
  ·rw[Aj (.inr d)];rfl
 ·obtain⟨h|⟨rfl,-⟩,-⟩:=h
  ·exact Bg h a
  ·rw[Aj (.inl a)]
   show(if f=[] then _ else _)=_
   rw[Ai a];rfl
theorem AO (d:Dr) (n:Nat) {s:Int} (h:rsW s) (a:d.s=0):Ww d (opt n (s≠0) (.rs s.toNat))={d with s:=s.toNat}:=by
 rw[Wx]
 by_cases e:s=0
 ·subst e
  rw[Ai Ab]
  obtain⟨f,r,s,i,fl⟩:=d
  simp only at a
  subst a;rfl
 ·rw[Aj e];rfl
theorem XM (d:Dr) (n:Nat) {i:List Gn} (a:d.i=[]):Ww d (opt n (i≠[]) (.is i))={d with i:=i}:=by
 rw[Wx]
 by_cases e:i=[]
 ·subst e
  rw[Ai Ab]
  obtain⟨f,r,s,i,fl⟩:=d
  simp only at a
  subst a;rfl
 ·rw[Aj e];rfl
theorem Zt (d:Dr) (n:Nat) (b:Bool):Ww d (opt n (b=true) .fl)={d with fl:=fun m=>(b&&m==n)||d.fl m}:=by
 rw[Wx]
 cases b
 ·grind
 ·rw[Aj rfl]
  show({d with fl:=fun m=>m==n||d.fl m}:Dr)=_
  simp only[Cd]
def pM (d:Dr):Pt:=⟨d.f,d.r,d.s,d.i⟩
def pN (d:Dr):Iss:=⟨d.f,d.r,d.fl 1,d.fl 2,d.fl 4,d.fl 5,d.s⟩
theorem AP {p:Pt} (h:nmW p.f p.r) (a:rsW p.s):pM (Ww dr0 (kU p))=p:=by
 obtain⟨f,r,s,i⟩:=p
 unfold kU
 simp only at h a⊢
 rw[O2,AN h,O2,AO _ 1 a rfl,XM _ 2 rfl]
 obtain⟨d,-⟩:=a
 show Pt.mk f r (s.toNat:Int) i=_
 rw[D3 d]
theorem AQ {x:Iss} (h:nmW x.f x.r) (d:rsW x.s):pN (Ww dr0 (kV x))=x:=by
 obtain⟨f,r,u,c,n,a,s⟩:=x
 unfold kV
 simp only at h d⊢
 rw[O2,AN h,O2,Zt,O2,Zt,O2,AO _ 3 d rfl,O2,Zt,Zt]
 obtain⟨e,-⟩:=d
 show Iss.mk f r _ _ _ _ (s.toNat:Int)=_
 grind
def ptP (b:List UInt8):Option Pt×Nat×Nat:=match rdD b k3 with
 |(none,c,o)=>(none,c,o)
 |(some d,_)=>if ptW (pM d)=true then(some (pM d),0,0) else(none,6,0)
def isP (b:List UInt8):Option Iss×Nat×Nat:=match rdD b k6 with
 |(none,c,o)=>(none,c,o)
 |(some d,_)=>if isW (pN d)=true then(some (pN d),0,0) else(none,6,0)
theorem cV (b:List UInt8) (s:b.length≤700000):pT b.length (fun p=>ptW p=true∧b=ptE p) (ptP b):=by
 unfold ptP
 rcases Zs (k:=k3) s bn with⟨d,⟨vs,i,j,l,q⟩,h⟩|⟨c,o,e,r,f⟩
 ·rw[h]
  obtain⟨p,rfl,g,m,u⟩:=bp i j
  have t:pM d=p:=by rw[q];exact AP g m
  simp only
  rw[t]
  by_cases a:ptW p=true
  ·rw[Aj a];exact .inl ⟨p,⟨a,l⟩,rfl⟩
  ·rw[Ai a];exact .inr ⟨6,0,Aa,Nat.zero_le _,rfl⟩
 ·rw[f];exact .inr ⟨c,o,e,r,rfl⟩
theorem fi (b:List UInt8) (s:b.length≤700000):pT b.length (fun p=>isW p=true∧b=isE p) (isP b):=by
 unfold isP
 rcases Zs (k:=k6) s bo with⟨d,⟨vs,i,j,l,q⟩,h⟩|⟨c,o,e,r,f⟩
 ·rw[h]
  obtain⟨p,rfl,g,m⟩:=bq i j
  have t:pN d=p:=by rw[q];exact AQ g m
  simp only
  rw[t]
  by_cases a:isW p=true
  ·rw[Aj a];exact .inl ⟨p,⟨a,l⟩,rfl⟩
  ·rw[Ai a];exact .inr ⟨6,0,Aa,Nat.zero_le _,rfl⟩
 ·rw[f];exact .inr ⟨c,o,e,r,rfl⟩
structure nmM (f:List Gn) (r:List Att):Prop where
 f:gnsM f
 r:rdnZ r
structure Pt.mid (p:Pt):Prop where
 m:nmM p.f p.r
 i:gnsM p.i
theorem kW (a b:List (Nat×Vl)):vsB (a++b)=vsB a++vsB b:=Cp
theorem pO:rdnZ []:=⟨Ab,(fun g a=>by cases a),Ab⟩
structure nmZZ (f:List Gn) (r:List Att):Prop where
 f:gnsZ f
 r:rdnZ r
structure Pt.z (p:Pt):Prop where
 m:nmZZ p.f p.r
 i:gnsZ p.i
structure Pt.sm (p:Pt):Prop where
 m:p.mid
 f:(Nn p.f).length≤400000000
 i:(Nn p.i).length≤400000000
structure Iss.sm (x:Iss):Prop where
 m:nmM x.f x.r
 f:(Nn x.f).length≤400000000
theorem vO {c:Prop} [Decidable c] (h:c):(vlC v).length≤(vsB (opt n c v)).flatten.length:=by
 unfold opt
 rw[Aj h]
 show(vlC v).length≤[(vlT (n,v)).enc].flatten.length
 have:=Hy 2 n (vlK v) (vlC v)
 have e:(vlT (n,v)).enc=Ei 2 n (vlK v) (vlC v):=rfl
 grind
theorem OY (vs:List (Nat×Vl)):(vsB vs).flatten.length+2≤(vsE vs).length:=by
 grind [Hy,vsB,vsE]
theorem pP:gnsM []:=⟨Ab,(fun g a=>by cases a),Ab⟩
theorem pR {f:List Gn} {r:List Att} (h:nmW f r) (g:f≠[]∨r≠[]→(nmC f r).length≤399000):nmM f r∧(Nn f).length≤399000:=by
 obtain⟨i,m⟩:=h
 by_cases d:f=[]
 ·subst d
  refine⟨⟨pP,?_⟩,by simp[Nn]⟩
  by_cases e:r=[]
  ·subst e;exact pO
  ·have j:=m.resolve_left e
   have a:=g (.inr e)
   unfold nmC at a
   rw[Aj rfl] at a
   have l:=Hy 2 1 true (pL r)
   have s:=Ga 0 17 true (pL r) Aa
   exact(OK j (by show(Ei 0 17 true (pL r)).length≤_;omega)).1
 ·obtain⟨rfl,q⟩:=i.resolve_left d
  have a:=g (.inl d)
  unfold nmC at a
  rw[Ai d] at a
  have l:=Hy 2 0 true (Nn f)
  exact⟨⟨cK q (by show(Nn f).length≤_;omega),pO⟩,Aa⟩
theorem GM {p:Pt} (h:nmW p.f p.r) (d:p.i=[]∨p.i.all gnW=true) (g:(ptE p).length≤399000):p.sm:=by
 have m:=OY (kU p)
 have g:(vsE (kU p)).length≤399000:=g
 have l:(vsB (kU p)).flatten.length=(vsB (opt 0 (p.f≠[]∨p.r≠[]) (.nm p.f p.r))).flatten.length+((vsB (opt 1 (p.s≠0) (.rs p.s.toNat))).flatten.length+(vsB (opt 2 (p.i≠[]) (.is p.i))).flatten.length):=by
  unfold kU
  rw[kW,kW,List.flatten_append,List.flatten_append,En,En]
 obtain⟨a,b⟩:=pR h fun f=>by
  have:=vO (n:=0) (v:= .nm p.f p.r) f
  have e:(vlC (.nm p.f p.r)).length=(nmC p.f p.r).length:=rfl
  omega
 have j:(Nn p.i).length≤399000:=by
  by_cases f:p.i=[]
  ·rw[f];simp[Nn]
  ·have:=vO (n:=2) (v:= .is p.i) (show p.i≠[] from f)
   have e:(vlC (.is p.i)).length=(Nn p.i).length:=rfl
   omega
 have i:gnsM p.i:=by
  rcases d with d|d
  ·rw[d];exact pP
  ·grind [cK,Nn]
 exact⟨⟨a,i⟩,Aa,Aa⟩
theorem GN {x:Iss} (f:nmW x.f x.r) (d:(isE x).length≤399000):x.sm:=by
 have h:=OY (kV x)
 have d:(vsE (kV x)).length≤399000:=d
 obtain⟨a,b⟩:=pR f fun g=>by
  have:=vO (n:=0) (v:= .nm x.f x.r) g
  have e:(vlC (.nm x.f x.r)).length=(nmC x.f x.r).length:=rfl
  grind [vsB,opt,kV,kW,List.flatten_append,En]
 exact⟨a,Aa⟩
def kx (l:List Pt):List UInt8:=Ei 0 16 true (l.map ptE).flatten
def ptS:List (List UInt8)→Option (List Pt)
 |[]=>some []
 |p::r=>match(ptP p).1 with
  |none=>none
  |some g=>(ptS r).map (g:: ·)
def ptL (b:List UInt8):List El→Option (List Pt)×Nat×Nat
 |[]=>(some [],0,0)
 |x::r=>match ptP (elO b x) with
  |(none,c,o)=>(none,c,x.at'+o)
  |(some g,_)=>match ptL b r with
   |(some gs,_)=>(some (g::gs),0,0)
   |(none,p)=>(none,p)
def cW (ms:List Pt):Option (List Pt)×Nat×Nat→Option (List Pt)×Nat×Nat
 |(some r,_)=>(some (ms++r),0,0)
 |(none,p)=>(none,p)
theorem pS (b:List UInt8):∀l:List El,(ptL b l).1.isSome=true→(ptL b l).2=(0,0)
 |[],_=>rfl
 |x::r,h=>by
  grind [ptL,ptP,elO]
theorem GO (b:List UInt8) (l:List El):cW [] (ptL b l)=ptL b l:=by
 have h:=pS b l
 cases a:ptL b l with
 |mk o p=>
  rw[a] at h
  cases o with
  |none=>rfl
  |some d=>have:=h rfl;simp only at this;subst this;rfl
theorem vP {x:El} {r:List El} {m:Pt} {q:Nat×Nat} (a:List Pt) (d:ptP (elO b x)=(some m,q)):cW a (ptL b (x::r))=cW (a++[m]) (ptL b r):=by
 grind [ptL,cW]
theorem AR (b:List UInt8):∀l:List El,(ptL b l).1=ptS (l.map (elO b))
 |[]=>rfl
 |x::r=>by
  have a:=AR b r
  rw[ptL,Bc,ptS]
  cases e:ptP (elO b x) with
  |mk o q=>
   cases o with
   |none=>rfl
   |some m=>
    simp only
    rw[←a]
    cases d:ptL b r with
    |mk o p=>cases o<;>rfl
theorem AT {b:List UInt8}:∀{l:List El},(∀x∈l,x.at'≤x.stop∧x.stop≤b.length∧(elO b x).length≤700000)→(ptL b l).1=none→(ptL b l).2.1≠0∧(ptL b l).2.2≤b.length
 |[],_,h=>by cases h
 |x::r,hx,h=>by
  have s:=AT (b:=b) (l:=r) fun y f=>hx y (by simp[f])
  obtain⟨w,u,d⟩:=hx x Ab
  have a:=cV (elO b x) d
  have g:=S1 b x
  rw[ptL] at h⊢
  cases i:ptP (elO b x) with
  |mk o q=>
   rw[i] at h a
   cases o with
   |none=>
    rcases a with⟨v,-,e⟩|⟨c,o,j,z,t⟩
    all_goals grind
   |some m=>
    grind
theorem AU:∀{ps:List (List UInt8)} {v:List Pt},(∀p∈ps,p.length≤700000)→ptS ps=some v→v.all ptW=true∧ps=v.map ptE
 |[],v,_,h=>by
  rw[ptS] at h
  grind
 |p::r,v,hl,h=>by
  rw[ptS] at h
  rcases cV p (hl p Ab) with⟨m,⟨g,i⟩,e⟩|⟨c,o,-,-,e⟩
  ·rw[e] at h
   simp only at h
   cases a:ptS r with
   |none=>rw[a] at h;cases h
   |some w=>
    rw[a] at h
    obtain rfl:=Az h
    obtain⟨k3,f⟩:=AU (fun q d=>hl q (by simp[d])) a
    grind
  ·rw[e] at h;cases h
def pU (b:List UInt8):Option (List Pt)×Nat×Nat:=
 if(Dn b 0 16).code≠0 then(none,(Dn b 0 16).code,(Dn b 0 16).off) else if(Dn b 0 16).l=[] then(none,1,b.length) else ptL b (Dn b 0 16).l
theorem AW (b:List UInt8) (z:b.length≤700000):pT b.length (fun v=>v≠[]∧v.all ptW=true∧b=kx v) (pU b):=by
 unfold pU
 by_cases e:(Dn b 0 16).code≠0
 ·rw[Aj e]
  exact .inr ⟨_,_,e,Hg b 0 16,rfl⟩
 rw[Ai e]
 have i:=As.1 e
 obtain⟨ts,s,m,-,-,-⟩:=J2 i
 have t:(tvsE ts).length≤700000:=by
  have:=Cf List.length m
  unfold Ei at this
  rw[L9] at this;omega
 obtain⟨q,h,j⟩:=Lu (c:=0) (n:=16) ts Aa Aa s Aa
 rw[←m] at h j
 rw[h]
 by_cases r:els q ts=[]
 ·rw[Aj r];exact .inr ⟨1,b.length,Aa,At _,rfl⟩
 rw[Ai r]
 have f:=AR b (els q ts)
 rw[j] at f
 have a:=AT (b:=b) (l:=els q ts) fun x w=>by
  have:=Ez (b:=b) (c:=0) (n:=16) (x:=x) (by rw[h];exact w)
  have:=Kr b x
  omega
 have d:=pS b (els q ts)
 show pT _ _ (ptL b (els q ts))
 cases g:ptL b (els q ts) with
 |mk o p=>
  rw[g] at f a d
  obtain⟨c,p⟩:=p
  simp only at f a d
  cases o with
  |none=>exact .inr ⟨c,p,(a rfl).1,(a rfl).2,rfl⟩
  |some v=>
   obtain⟨u,y⟩:=AU (fun p g=>by
    have:=Lb g
    rw[←Iq] at this;omega) f.symm
   have d:=d rfl
   simp only[Prod.mk.injEq] at d
   obtain⟨rfl,rfl⟩:=d
   refine .inl ⟨v,⟨?_,u,?_⟩,rfl⟩
   ·rintro rfl
    simp_all
   grind [kx,Iq]
set_option maxHeartbeats 16000000
def GP (s:Int):Prop:= -9223372036854775808≤s∧s≤9223372036854775807
abbrev dpA (p:Pt):AV:= .agg [.d (Uz p.f),.d (Uy p.r),iv p.s,.d (Uz p.i)]
abbrev diA (x:Iss):AV:= .agg [.d (Uz x.f),.d (Uy x.r),bv x.u,bv x.c,bv x.n,bv x.a,iv x.s]
abbrev plA (f:List Gn) (r:List Att):AV:= .agg [.d (Uz f),.d (Uy r)]
def plV (f:List Gn) (r:List Att) (s:Int):Bool:=decide (nmW f r∧rsW s)
def eU (f:List Gn) (r:List Att):Bool:=f.isEmpty&&r.isEmpty
theorem kX {a:Type} {l:List a} (h:l≠[]):decide ((l.length:Int)>0)=true:=Aq (by have:=List.length_pos_iff.2 h;omega)
theorem l4 {a:Type} {l:List a} (h:l≠[]):((l.length:Int)==0)=false:=by
 rw[An];have:=List.length_pos_iff.2 h;omega
theorem pW {l:List Gn} (h:l≠[]):T9 l=l.all gnW:=by
 unfold T9
 cases l with
 |nil=>exact Bg rfl h
 |cons a r=>rfl
theorem K5 (h:p:=by first|rfl|(simp only[D8,AV.ren,AV.give,D.un,Ef,D7,D6,Ap,Am,Ak,Ea,Ed,G2,F8,Ex,Gv,Ha,I4,Fi,Fy,E8];first|done|rfl)):p:=h
theorem GQ (r:List Att) (d:rdnZ r):aC 398 [.d (Uy r)] (bv (My r)):=by
 have a:=bY r d
 cases h:My r
 ·rw[h] at a
  have a:aC 127 [.d (Uy r)] (.tup [Ff,iv 8]):=a
  refine acQ 12 Tryz.func398 rfl rfl fun _ _ _=> ?_
  (repeat'((conv=>whnf);refine Al a K5 ?_));(all_goals(conv=>whnf))
  all_goals exact zE
 ·rw[h] at a
  have a:aC 127 [.d (Uy r)] (.tup [Hp 0 5 (Ka r),iv 0]):=a
  refine acQ 12 Tryz.func398 rfl rfl fun _ _ _=> ?_
  (repeat'((conv=>whnf);refine Al a K5 ?_));(all_goals(conv=>whnf))
  all_goals exact zE
theorem OZ (f:List Gn) (r:List Att):(f=[]∧r=[]∧nmW f r)∨(f=[]∧r≠[]∧My r=true∧nmW f r)∨(f=[]∧r≠[]∧My r=false∧¬nmW f r)∨(f≠[]∧r=[]∧T9 f=true∧nmW f r)∨(f≠[]∧r=[]∧T9 f=false∧¬nmW f r)∨(f≠[]∧r≠[]∧¬nmW f r):=by
 by_cases a:f=[]<;>by_cases d:r=[]
 ·exact .inl ⟨a,d,.inl a,.inl d⟩
 ·cases h:My r
  ·refine .inr (.inr (.inl ⟨a,d,rfl,fun g=> ?_⟩))
   have:=g.2.resolve_left d
   rw[h] at this;cases this
  ·exact .inr (.inl ⟨a,d,rfl,.inl a,.inr h⟩)
 ·have e:=pW a
  cases h:T9 f
  ·refine .inr (.inr (.inr (.inr (.inl ⟨a,d,rfl,fun g=> ?_⟩))))
   have:=(g.1.resolve_left a).2
   rw[←e,h] at this;cases this
  ·exact .inr (.inr (.inr (.inl ⟨a,d,rfl,.inr ⟨d,by rw[←e,h]⟩,.inl d⟩)))
 ·exact .inr (.inr (.inr (.inr (.inr ⟨a,d,fun g=>d (g.1.resolve_left a).1⟩))))
theorem AX (f:List Gn) (r:List Att) (s:Int) (x:gnsM f) (y:rdnZ r) (F:GP s):aC 358 [plA f r,iv s] (bv (plV f r s)):=by
 have m:=U8 f x
 have q:=GQ r y
 have E:=x.n
 have C:=y.l
 obtain⟨H,I⟩:=F
 rcases OZ f r with⟨rfl,rfl,d⟩|⟨rfl,l,g,d⟩|⟨rfl,l,g,d⟩|⟨j,rfl,g,d⟩|⟨j,rfl,g,d⟩|⟨j,l,d⟩
 rotate_left 2
 ·have e:plV [] r s=false:=Ao fun h=>d h.1
  have w:=kX l
  rw[e]
  rw[g] at q
  refine acQ 40 Tryz.func358 rfl rfl fun _ _ _=> ?_
  (repeat'((conv=>whnf);first|refine zP ?_|refine zN ?_|refine Ej ?_|refine Ee ?_|refine Al q K5 ?_|exact zE))
 rotate_left 1
 ·have e:plV f [] s=false:=Ao fun h=>d h.1
  have u:=kX j
  rw[e]
  rw[g] at m
  refine acQ 40 Tryz.func358 rfl rfl fun _ _ _=> ?_
  (repeat'((conv=>whnf);first|refine zP ?_|refine zN ?_|refine Ej ?_|refine Ee ?_|refine Al m K5 ?_|exact zE))
 ·have e:plV f r s=false:=Ao fun h=>d h.1
  have w:=kX l
  have u:=kX j
  rw[e]
  refine acQ 40 Tryz.func358 rfl rfl fun _ _ _=> ?_
  (repeat'((conv=>whnf);first|refine zP ?_|refine zN ?_|refine Ej ?_|refine Ee ?_|exact zE))
 all_goals
  by_cases B:s<0
  ·have e:∀f r,plV f r s=false:=fun f r=>Ao fun h=>by have:=h.2.1;omega
   have z:decide (s≥0)=false:=Ao Aa
   rw[e]
   first|have w:=kX l;rw[g] at q|have u:=kX j;rw[g] at m|skip
   refine acQ 40 Tryz.func358 rfl rfl fun _ _ _=> ?_
   (repeat'((conv=>whnf);first|refine zP ?_|refine zN ?_|refine Ej ?_|refine Ee ?_|refine Al q K5 ?_|refine Al m K5 ?_|exact zE))
  ·obtain⟨n,rfl⟩:=Int.eq_ofNat_of_zero_le (Int.not_lt.1 B)
   have z:decide ((n:Int)≥0)=true:=Aq Aa
   have t:(n:Int).fdiv (2^(min (Int.toNat 9) IntKind.i64.bits))=((n/2^9:Nat):Int):=nh (i:=9) Aa
   have A:=Nat.div_le_self n (2^9)
   have gz:(((n/2^9:Nat):Int)==0)=decide (rsW (n:Int)):=by
    rw[Bz,A9,A2];unfold rsW;omega
   have e:∀f r,nmW f r→plV f r (n:Int)=decide (rsW (n:Int)):=fun f r h=>by
    unfold plV
    rw[Bz,A2,A2]
    exact⟨fun a=>a.2,fun a=>⟨h,a⟩⟩
   rw[e _ _ d]
   first|have w:=kX l;rw[g] at q|have u:=kX j;rw[g] at m|skip
   refine acQ 40 Tryz.func358 rfl rfl fun _ _ _=> ?_
   (repeat'((conv=>whnf);first|refine zP ?_|refine zN ?_|refine Ej ?_|refine Ee ?_|refine Al q K5 ?_|refine Al m K5 ?_|refine NInt.as (((n/2^9:Nat):Int)) (t) ?_|refine Fv (by first|decide|omega|(simp only[D9,Ax];omega)) ?_));(all_goals(conv=>whnf))
   all_goals(refine E0 ?_;(repeat'(first|refine A1 ?_ ?_|exact rfl));(all_goals(conv=>whnf)))
   all_goals(rw[gz])
theorem AY (f:List Gn) (r:List Att) (d:f.length≤1000000) (a:r.length≤1000000):aC 291 [plA f r] (bv (eU f r)):=by
 have e:(((f.length:Int)+(r.length:Int))==0)=eU f r:=by
  unfold eU
  rw[Bz,A9,Et,List.isEmpty_iff,List.isEmpty_iff,←Cw,←Cw];omega
 refine acQ 11 Tryz.func291 rfl rfl fun _ _ _=> ?_
 (repeat'((conv=>whnf);refine zI ?_));(all_goals(conv=>whnf))
 all_goals(refine E0 ?_;(repeat'(first|refine A1 ?_ ?_|exact rfl));(all_goals(conv=>whnf)))
 all_goals(rw[e])
theorem fj (p:Pt):ptW p=(plV p.f p.r p.s&&((p.i.isEmpty||T9 p.i)&&(!eU p.f p.r|| !p.i.isEmpty))):=by
 have g:p.i≠[]→T9 p.i=p.i.all gnW:=pW
 unfold ptW plV eU
 obtain⟨f,r,s,i⟩:=p
 simp only at g⊢
 rw[Bz]
 simp only[A2,Et,Co,Ca,C6,List.isEmpty_iff,List.isEmpty_eq_false_iff]
 constructor
 ·rintro⟨a,b,c,d⟩
  refine⟨⟨a,b⟩,?_,?_⟩
  ·by_cases e:i=[]
   ·exact .inl e
   ·exact .inr (by rw[g e];exact c.resolve_left e)
  ·rcases d with d|d|d
   ·exact .inl (.inl d)
   ·exact .inl (.inr d)
   ·exact .inr d
 ·rintro⟨⟨a,b⟩,c,d⟩
  refine⟨a,b,?_,?_⟩
  ·by_cases e:i=[]
   ·exact .inl e
   ·exact .inr (by rw[←g e];exact c.resolve_left e)
  ·rcases d with(d|d)|d
   ·exact .inl d
   ·exact .inr (.inl d)
   ·exact .inr (.inr d)
theorem GR (p:Pt) (h:p.mid) (j:GP p.s):aC 343 [dpA p] (bv (ptW p)):=by
 have a:=AX p.f p.r p.s h.m.f h.m.r j
 have d:=AY p.f p.r h.m.f.n (by have:=h.m.r.l;omega)
 have g:=U8 p.i h.i
 have l:=h.i.n
 rw[fj]
 obtain⟨f,r,s,i⟩:=p
 simp only at a d g l⊢
 clear h j
 generalize plV f r s=w at a⊢
 generalize eU f r=m at d⊢
 cases w
 ·refine acQ 35 Tryz.func343 rfl rfl fun _ _ _=> ?_
  (repeat'((conv=>whnf);first|refine Ee ?_|refine Al a K5 ?_|exact zE))
 by_cases e:i=[]
 ·subst e
  cases m
  all_goals
   refine acQ 35 Tryz.func343 rfl rfl fun _ _ _=> ?_
   (repeat'((conv=>whnf);first|refine Ej ?_|refine Ee ?_|refine Al a K5 ?_|refine Al d K5 ?_|exact zE))
 ·have t:=l4 e
  have q:=kX e
  rw[show i.isEmpty=false from List.isEmpty_eq_false_iff.2 e]
  cases w:T9 i
  all_goals rw[w] at g
  ·refine acQ 35 Tryz.func343 rfl rfl fun _ _ _=> ?_
   (repeat'((conv=>whnf);first|refine zP ?_|refine zN ?_|refine Ej ?_|refine Ee ?_|refine Al a K5 ?_|refine Al g K5 ?_|exact zE))
  ·cases m
   all_goals
    refine acQ 35 Tryz.func343 rfl rfl fun _ _ _=> ?_
    (repeat'((conv=>whnf);first|refine zP ?_|refine zN ?_|refine Ej ?_|refine Ee ?_|refine Al a K5 ?_|refine Al g K5 ?_|refine Al d K5 ?_));(all_goals(conv=>whnf))
    all_goals(refine E0 ?_;(repeat'(first|exact Er _|refine A1 ?_ ?_|exact rfl));(all_goals(conv=>whnf)))
    all_goals(first|rfl|(rw[q];rfl))
theorem Rj {P:Program} {C:Cx} {o:Oper} {σ:AS} {t:Nat} {x:Operand} {k i:Nat} (d:o.op= .nilCheck x) (j:o.dst=some t) (e:t<C.N) (g:σ.eval x=some (.ptr k i)):Fp P C o σ (σ.put t (.ptr k i)):=
 E1 j e fun a w bm gt fp f=>by
  have h:=f.eval g
  generalize l:a.eval x=v at h
  cases h with
  |ptr=>exact⟨_,by simp only[execOp,d,l];rfl,.ptr⟩
theorem PA {f:List Gn} {r:List Att}:eU f r=false↔f≠[]∨r≠[]:=by
 unfold eU
 rw[C6,List.isEmpty_eq_false_iff,List.isEmpty_eq_false_iff]
theorem PB {s:Int} (h:rsW s):GP s:=by unfold rsW at h;unfold GP;omega
def l5 (u c a:Bool):Bool:= !(u&&c)&&(!(u&&a)&& !(c&&a))
theorem fm (x:Iss):isW x=(plV x.f x.r x.s&&(l5 x.u x.c x.a&&(!eU x.f x.r||(x.u||(x.c||x.a))||x.n||(x.s !=0)))):=by
 obtain⟨f,r,u,c,n,a,s⟩:=x
 have e:=@PA f r
 unfold isW plV AK AL l5
 simp only
 rw[Bz]
 simp only[A2,Et,Co,Ca,Av,e]
 cases u<;>cases c<;>cases a<;>simp[and_assoc,or_assoc]
theorem vR (h:p:=by first|rfl|(simp only[D8,AV.ren,AV.give,D.un,Ef,D7,D6,Ap,Am,Ak,AV.share,Hq,Ea,Ed,G2,F8,Ex,Gv,Ha,I4,Fi,Fy,E8];first|done|rfl)):p:=h
theorem GS (x:Iss) (h:nmM x.f x.r) (g:GP x.s):aC 290 [diA x] (bv (isW x)):=by
 have d:=AX x.f x.r x.s h.f h.r g
 have e:=AY x.f x.r h.f.n (by have:=h.r.l;omega)
 rw[fm]
 obtain⟨f,r,u,c,n,a,s⟩:=x
 simp only at d e⊢
 clear h g
 generalize plV f r s=w at d⊢
 generalize eU f r=m at e⊢
 cases w
 ·cases u<;>cases c<;>cases a
  all_goals
   refine acQ 50 Tryz.func290 rfl rfl fun _ _ _=> ?_
   (repeat'((conv=>whnf);first|refine Ej ?_|refine Ee ?_|refine Al d vR ?_|(refine Ut 100 6 #[] Eg mixed rfl rfl rfl rfl Tryz.func357 rfl Ac rfl rfl rfl rfl (fun i=> ?_))|refine zI ?_|exact zE))
 ·cases u<;>cases c<;>cases a<;>cases m<;>cases n
  all_goals
   refine acQ 50 Tryz.func290 rfl rfl fun _ _ _=> ?_
   (repeat'((conv=>whnf);first|refine Ej ?_|refine Ee ?_|refine Al d vR ?_|refine Al e vR ?_|(refine Ut 100 6 #[] Eg mixed rfl rfl rfl rfl Tryz.func357 rfl Ac rfl rfl rfl rfl (fun i=> ?_))|refine zI ?_|exact zE))
def nr:Option (List Gn)→AV
 |some l=> .tup [.d (Nl l),bv true]
 |none=> .tup [Ff,bv false]
theorem Hh (h:p:=by first|rfl|(simp only[D8,AV.ren,AV.give,D.un,Ef,D7,D6,Ap,Am,Ak,Ea,Ed,G2,F8,Ex,Gv,Ha,I4,Fi,Fy,E8,Ep,Eo,Pr,Oa,Md];first|done|rfl)):p:=h
theorem gU (c:List UInt8) (j:c.length≤700000):aC 361 [.d (By false c)] (nr (Mf c)):=by
 have h:=Ga 0 16 true c Aa
 have e:=L8 [c] Af Ab
 rw[show [c].flatten=c by simp] at e
 have d:=Nm (Ei 0 16 true c) Aa
 unfold Mf
 rcases Ri (Ei 0 16 true c) Aa with⟨v,m,v1,v2,f⟩|⟨a,o,l,-,i⟩
 ·rw[f] at d⊢
  have d:aC 201 [.d (By false (Ei 0 16 true c))] (.tup [.d (Nl v),erA 0 0]):=d
  generalize Ei 0 16 true c=q at e d
  show Es _ _ _ (fun r=>r= .tup [.d (Nl v),bv true])
  refine acQ 27 Tryz.func361 rfl rfl fun _ _ _=> ?_
  (repeat'((conv=>whnf);first|refine Ej ?_|refine Al e Hh ?_|refine Al d Hh ?_|refine zF ?_|exact zE))
 ·rw[i] at d⊢
  have d:aC 201 [.d (By false (Ei 0 16 true c))] (.tup [Ff,erA a o]):=d
  have g:((a:Int)==0)=false:=by rw[An];omega
  generalize Ei 0 16 true c=q at e d
  show Es _ _ _ (fun r=>r= .tup [Ff,bv false])
  refine acQ 27 Tryz.func361 rfl rfl fun _ _ _=> ?_
  (repeat'((conv=>whnf);first|refine Ej ?_|refine Al e Hh ?_|refine Al d Hh ?_|refine zF ?_));(all_goals(conv=>whnf))
  all_goals(refine E0 ?_;(repeat'(first|exact trivial|exact Er _|refine A1 ?_ ?_|exact rfl));(all_goals(conv=>whnf)))
  all_goals(rw[g])
def nt:Option Nat→AV
 |some s=> .tup [iv s,bv true]
 |none=> .tup [iv 0,bv false]
theorem XN (c:List UInt8) (h:c.length≤700000):aC 360 [.d (By false c)] (nt (kS c)):=by
 have a:=cS c Aa
 unfold kS
 cases f:Wv c with
 |none=>
  rw[f] at a
  show Es _ _ _ (fun r=>r= .tup [iv 0,bv false])
  refine acQ 18 Tryz.func360 rfl rfl fun _ _ _=> ?_
  (repeat'((conv=>whnf);first|refine Ee ?_|refine Al a Hh ?_|exact zE))
 |some s=>
  rw[f] at a
  by_cases d:s=0
  ·subst d
   show Es _ _ _ (fun r=>r= .tup [iv 0,bv false])
   refine acQ 18 Tryz.func360 rfl rfl fun _ _ _=> ?_
   (repeat'((conv=>whnf);first|refine Ej ?_|refine Al a Hh ?_|exact zE))
  ·have g:((s:Int) !=0)=true:=by rw[Av];omega
   have e:(some s).filter (fun s=>s !=0)=some s:=by simp[Option.filter,d]
   rw[e]
   show Es _ _ _ (fun r=>r= .tup [iv s,bv true])
   refine acQ 18 Tryz.func360 rfl rfl fun _ _ _=> ?_
   (repeat'((conv=>whnf);first|refine Ej ?_|refine Al a Hh ?_));(all_goals(conv=>whnf))
   all_goals(refine E0 ?_;(repeat'(first|exact trivial|exact Er _|refine A1 ?_ ?_|exact rfl));(all_goals(conv=>whnf)))
   all_goals(rw[g])
theorem pX (c:List UInt8):∃y a e,Em c=⟨y,a,e⟩∧y.body≤y.stop∧y.stop≤c.length∧((a≠0∧P5 c=none)∨(a=0∧y.isB 2 0 true=true∧P5 c=(Mf ((c.drop y.body).take (y.stop-y.body))).map (fun f=> .nm f []))∨(a=0∧y.isB 2 0 true=false∧y.isB 2 1 true=true∧P5 c=(Pf (Ei 0 17 true ((c.drop y.body).take (y.stop-y.body)))).1.map (fun r=> .nm [] r))∨(a=0∧y.isB 2 0 true=false∧y.isB 2 1 true=false∧P5 c=none)):=by
 have g:=Fa c
 unfold P5 Gj
 generalize Em c=o at g⊢
 obtain⟨y,a,e⟩:=o
 refine⟨y,a,e,rfl,g.2.2.2.2.2.2,g.2.2.2.2.2.1,?_⟩
 simp only
 by_cases d:a=0
 ·cases h:y.isB 2 0 true
  ·cases i:y.isB 2 1 true
   ·refine .inr (.inr (.inr ⟨d,rfl,rfl,?_⟩))
    rw[Aj (.inr rfl)]
   ·refine .inr (.inr (.inl ⟨d,rfl,rfl,?_⟩))
    rw[Aj (.inr rfl),Ai (by simp[d])]
  ·refine .inr (.inl ⟨d,rfl,?_⟩)
   rw[Ai (by simp[d])]
 ·refine .inl ⟨d,?_⟩
  rw[Aj (.inl d),Aj (.inl d)]
def drC (d:Dr):List AV:=[.d (Nl d.f),.d (Y7 d.r),iv d.s,.d (Nl d.i),bv (d.fl 0),bv (d.fl 1),bv (d.fl 2),bv (d.fl 3),bv (d.fl 4),bv (d.fl 5)]
abbrev drZ:List AV:=[Ff,Ff,iv 0,Ff,bv false,bv false,bv false,bv false,bv false,bv false]
def drR:Option Dr×Nat×Nat→AV
 |(some d,_)=> .tup [.agg (drC d),erA 0 0]
 |(none,c,o)=> .tup [.agg drZ,erA c o]
structure kdsW (k:List UInt8):Prop where
 n:k.length≤6
 o:∀(n:Nat) (kd:UInt8),k[n]?=some kd→kd=110∨kd=114∨kd=105∨(kd=102∧(n=1∨n=2∨n=4∨n=5))
theorem nu:kdsW k3:=⟨Ab,fun n a h=>by
 match n,h with
 |0,h=>exact .inl (Az h).symm
 |1,h=>exact .inr (.inl (Az h).symm)
 |2,h=>exact .inr (.inr (.inl (Az h).symm))
 |n+3,h=>simp at h⟩
theorem nv:kdsW k6:=⟨Ab,fun n a h=>by
 match n,h with
 |0,h=>exact .inl (Az h).symm
 |1,h=>exact .inr (.inr (.inr ⟨(Az h).symm,Aa⟩))
 |2,h=>exact .inr (.inr (.inr ⟨(Az h).symm,Aa⟩))
 |3,h=>exact .inr (.inl (Az h).symm)
 |4,h=>exact .inr (.inr (.inr ⟨(Az h).symm,Aa⟩))
 |5,h=>exact .inr (.inr (.inr ⟨(Az h).symm,Aa⟩))
 |n+6,h=>simp at h⟩
theorem gV (k b:List UInt8) (hk:kdsW k) (hb:b.length≤700000):aC 295 [sv k,.d (By false b)] (drR (rdD b k)):=by
 have hP:=Fc b 0 16 Aa
 have M:=fun x=>Ez (b:=b) (c:=0) (n:=16) (x:=x)
 have hcn:=F4 b 0 16
 have hkn:=hk.n
 unfold rdD
 generalize Dn b 0 16=R at hP M hcn⊢
 obtain⟨l,rc,ro⟩:=R
 simp only at M hcn⊢
 by_cases k1:rc≠0
 ·rw[Aj k1]
  rw[lrA,Aj k1] at hP
  have gc:((rc:Int) !=0)=true:=by rw[Av];omega
  show Es _ _ _ (fun r=>r= .tup [.agg drZ,erA rc ro])
  refine acQ 122 Tryz.func295 rfl rfl fun _ _ _=> ?_
  (repeat'((conv=>whnf);first|refine zP ?_|refine Al hP Hh ?_|refine zF ?_|exact zE))
 rw[Ai k1]
 rw[lrA,Ai k1] at hP
 generalize hR:drF b k l (-1) dr0=R
 refine acQ 122 Tryz.func295 rfl rfl fun _ _ _=> ?_
 (repeat'((conv=>whnf);first|refine Ee ?_|refine Al hP Hh ?_));(all_goals(conv=>whnf))
 refine Fh (fun z:Nat×Int×Dr=>z.1≤l.length∧drF b k (l.drop z.1) z.2.1 z.2.2=R) (fun z=>l.length-z.1) (fun z=>⟨[(0,sv k),(1,.d (By false b)),(4,.ptr 4 0),(5,.ptr 5 0),(6,.ptr 6 0),(9,iv z.2.1),(27,.d (Gw l)),(28,iv l.length),(29,iv z.1)],[(4,drZ),(5,[iv 0,iv 0]),(6,drC z.2.2)],[]⟩) (0,-1,dr0) ⟨Ab,hR⟩ leQ ?_
 rintro⟨i,K,d⟩ ⟨hi,a⟩
 simp only at hi a
 by_cases hil:i<l.length
 rotate_left
 ·have gi:decide ((i:Int)<(l.length:Int))=false:=Ao Aa
  rw[Bp Aa] at a
  have a:(some d,0,0)=R:=a
  subst a
  (repeat'((conv=>whnf);refine zN ?_));(all_goals(conv=>whnf))
  all_goals exact zE
 have gi:decide ((i:Int)<(l.length:Int))=true:=Aq Aa
 obtain⟨x,t⟩:∃p,l[i]?=some p:=⟨_,Ev hil⟩
 have hdr:l.drop i=x::l.drop (i+1):=by
  obtain⟨V,h2⟩:=Ew.1 t
  rw[←h2];exact A5 V
 obtain⟨x1,x2,x3⟩:=M x (F9 t)
 rw[hdr,drF] at a
 clear hdr M hR
 obtain⟨xc,q,xk,xa,j,xs⟩:=x
 simp only at a x1 x2 x3
 by_cases c1:xc≠2
 ·rw[Aj (.inl c1)] at a
  subst a
  have g1:((xc:Int) !=2)=true:=by rw[Av];omega
  (repeat'((conv=>whnf);first|refine zP ?_|refine zN ?_|refine Ej ?_|refine Ee ?_|refine NIdx.tab (fun _=>rfl) t ?_|refine zF ?_|exact zE))
 have g1:((xc:Int) !=2)=false:=by rw[B1];omega
 by_cases c2:k.length≤q
 ·rw[Aj (.inr (.inl c2))] at a
  subst a
  have g2:decide ((q:Int)≥(k.length:Int))=true:=Aq Aa
  (repeat'((conv=>whnf);first|refine zP ?_|refine zN ?_|refine Ej ?_|refine Ee ?_|refine NIdx.tab (fun _=>rfl) t ?_|refine zF ?_|exact zE))
 have g2:decide ((q:Int)≥(k.length:Int))=false:=Ao Aa
 by_cases c3:(q:Int)≤K
 ·rw[Aj (.inr (.inr c3))] at a
  subst a
  have g3:decide ((q:Int)≤K)=true:=Aq c3
  (repeat'((conv=>whnf);first|refine zP ?_|refine zN ?_|refine Ej ?_|refine Ee ?_|refine NIdx.tab (fun _=>rfl) t ?_|refine zF ?_|exact zE))
 have g3:decide ((q:Int)≤K)=false:=Ao c3
 rw[Ai (by rintro(h|h|h);exact c1 h;exact c2 h;exact c3 h)] at a
 obtain⟨kd,g⟩:∃p,k[q]?=some p:=⟨_,Ev Aa⟩
 have Y:k.getD q 0=kd:=by rw[Bo,g];rfl
 have hko:=hk.o q kd g
 rw[Y] at a
 obtain⟨c,u⟩:∃c,(b.drop j).take (xs-j)=c:=⟨_,rfl⟩
 have hbc:bod b ⟨xc,q,xk,xa,j,xs⟩=c:=u
 have hcl:c.length≤700000:=by rw[←u,Ec,Eh];omega
 rw[hbc] at a
 clear Y hbc c1 c2 c3
 by_cases Z:xk≠XJ kd
 ·rw[Aj Z] at a
  subst a
  rcases hko with rfl|rfl|rfl|⟨rfl,-⟩
  all_goals cases xk
  all_goals first
   |exact Bg rfl Z
   |((repeat'((conv=>whnf);first|refine zP ?_|refine zN ?_|refine Ej ?_|refine Ee ?_|refine NIdx.tab (fun _=>rfl) t ?_|refine I3 g ?_|(refine NSl.bytes j xs c u ?_)|refine zF ?_));(all_goals(conv=>whnf))
     all_goals exact zE)
 rw[Ai Z] at a
 obtain rfl:=As.1 Z
 clear Z
 rcases hko with rfl|rfl|rfl|⟨rfl,X⟩
 ·have P:vlO 110 c=P5 c:=rfl
  rw[P] at a
  clear P
  obtain⟨y,code,off,hy,y1,y2,E⟩:=pX c
  have W:=Hj c Aa
  rw[hy] at W
  clear hy
  obtain⟨e,F⟩:∃e,(c.drop y.body).take (y.stop-y.body)=e:=⟨_,rfl⟩
  have hel:e.length≤700000:=by rw[←F,Ec,Eh];omega
  rw[F] at E
  have B:=Fo y 2 0 true
  have J:=Fo y 2 1 true
  have A:=gU e hel
  have hwl:=Ga 0 17 true e Aa
  have hW:=J1 0 17 true e Aa Aa Aa
  have C:=bZ (Ei 0 17 true e) Aa
  have I:=kD (Ei 0 17 true e)
  generalize Ei 0 17 true e=w at hW C E I hwl
  rcases E with⟨h0,H⟩|⟨rfl,V,H⟩|⟨rfl,V,h2,H⟩|⟨rfl,V,h2,H⟩
  ·rw[H] at a
   have a:(none,6,j)=R:=a
   subst a
   have gc:((code:Int) !=0)=true:=by rw[Av];omega
   (repeat'((conv=>whnf);first|refine zP ?_|refine zN ?_|refine Ej ?_|refine Ee ?_|refine NIdx.tab (fun _=>rfl) t ?_|refine I3 g ?_|(refine NSl.bytes j xs c u ?_)|(refine NStep.inl 200 70 _ Eg mixed rfl rfl rfl Tryz.func359 rfl Ac rfl rfl rfl rfl (fun gh=> ?_))|refine Al W Hh ?_|refine zF ?_|exact zE))
  ·rw[V] at B
   cases L:Mf e with
   |none=>
    rw[L] at H A
    rw[H] at a
    have a:(none,6,j)=R:=a
    subst a
    have A:aC 361 [.d (By false e)] (.tup [Ff,bv false]):=A
    (repeat'((conv=>whnf);first|refine zP ?_|refine zN ?_|refine Ej ?_|refine Ee ?_|refine NIdx.tab (fun _=>rfl) t ?_|refine I3 g ?_|(refine NSl.bytes j xs c u ?_)|(refine NStep.inl 200 70 _ Eg mixed rfl rfl rfl Tryz.func359 rfl Ac rfl rfl rfl rfl (fun gh=> ?_))|refine Al W Hh ?_|refine Al B rfl ?_|(refine NSl.bytes y.body y.stop e F ?_)|refine Al A Hh ?_|refine Cs (Rj rfl rfl (ltN rfl) rfl) ?_|refine zF ?_|exact zE))
   |some f=>
    obtain⟨f0,-,-⟩:=U9 L hel
    rw[L] at H A
    rw[H] at a
    have a:drF b k (l.drop (i+1)) q (d.set q (.nm f []))=R:=a
    have hs:d.set q (.nm f [])={d with f:=f}:=Ai f0
    rw[hs] at a
    have A:aC 361 [.d (By false e)] (.tup [.d (Nl f),bv true]):=A
    (repeat'((conv=>whnf);first|refine zP ?_|refine zN ?_|refine Ej ?_|refine Ee ?_|refine NIdx.tab (fun _=>rfl) t ?_|refine I3 g ?_|(refine NSl.bytes j xs c u ?_)|(refine NStep.inl 200 70 _ Eg mixed rfl rfl rfl Tryz.func359 rfl Ac rfl rfl rfl rfl (fun gh=> ?_))|refine Al W Hh ?_|refine Al B rfl ?_|(refine NSl.bytes y.body y.stop e F ?_)|refine Al A Hh ?_|refine Cs (Rj rfl rfl (ltN rfl) rfl) ?_|refine zI ?_|refine zF ?_));(all_goals(conv=>whnf))
    refine⟨(i+1,q,{d with f:=f}),⟨by show i+1≤_;omega,a⟩,by show l.length-(i+1)<l.length-i;omega,?_⟩
    exact leQ
  ·rw[V] at B
   rw[h2] at J
   cases L:Pf w with
   |mk o p=>
    obtain⟨ec,eo⟩:=p
    rw[L] at H C I
    cases o with
    |none=>
     rw[H] at a
     have a:(none,6,j)=R:=a
     subst a
     have k0:ec≠0:=(I rfl).1
     have ge:((ec:Int)==0)=false:=by rw[An];omega
     have C:aC 109 [.d (By false w)] (.tup [Ff,erA ec eo]):=C
     clear I
     (repeat'((conv=>whnf);first|refine zP ?_|refine zN ?_|refine Ej ?_|refine Ee ?_|refine NIdx.tab (fun _=>rfl) t ?_|refine I3 g ?_|(refine NSl.bytes j xs c u ?_)|(refine NStep.inl 200 70 _ Eg mixed rfl rfl rfl Tryz.func359 rfl Ac rfl rfl rfl rfl (fun gh=> ?_))|refine Al W Hh ?_|refine Al B rfl ?_|refine Al J rfl ?_|(refine NSl.bytes y.body y.stop e F ?_)|refine Al hW Hh ?_|refine Al C Hh ?_|refine Cs (Rj rfl rfl (ltN rfl) rfl) ?_|refine zF ?_|(refine H2 (fun u hcP=> ?_) (fun u hcP=> ?_)<;>try(exfalso;omega))|exact zE))
    |some r=>
     rw[H] at a
     have a:drF b k (l.drop (i+1)) q {d with r:=r}=R:=a
     have C:aC 109 [.d (By false w)] (.tup [.d (Y7 r),erA 0 0]):=C
     clear I
     (repeat'((conv=>whnf);first|refine zP ?_|refine zN ?_|refine Ej ?_|refine Ee ?_|refine NIdx.tab (fun _=>rfl) t ?_|refine I3 g ?_|(refine NSl.bytes j xs c u ?_)|(refine NStep.inl 200 70 _ Eg mixed rfl rfl rfl Tryz.func359 rfl Ac rfl rfl rfl rfl (fun gh=> ?_))|refine Al W Hh ?_|refine Al B rfl ?_|refine Al J rfl ?_|(refine NSl.bytes y.body y.stop e F ?_)|refine Al hW Hh ?_|refine Al C Hh ?_|refine Cs (Rj rfl rfl (ltN rfl) rfl) ?_|refine zI ?_|refine zF ?_));(all_goals(conv=>whnf))
     refine⟨(i+1,q,{d with r:=r}),⟨by show i+1≤_;omega,a⟩,by show l.length-(i+1)<l.length-i;omega,?_⟩
     exact leQ
  ·rw[V] at B
   rw[h2] at J
   rw[H] at a
   have a:(none,6,j)=R:=a
   subst a
   (repeat'((conv=>whnf);first|refine zP ?_|refine zN ?_|refine Ej ?_|refine Ee ?_|refine NIdx.tab (fun _=>rfl) t ?_|refine I3 g ?_|(refine NSl.bytes j xs c u ?_)|(refine NStep.inl 200 70 _ Eg mixed rfl rfl rfl Tryz.func359 rfl Ac rfl rfl rfl rfl (fun gh=> ?_))|refine Al W Hh ?_|refine Al B rfl ?_|refine Al J rfl ?_|refine zF ?_|exact zE))
 ·have O:=XN c hcl
  have Q:vlO 114 c=(kS c).map .rs:=rfl
  rw[Q] at a
  clear Q
  cases L:kS c with
  |none=>
   rw[L] at a O
   have a:(none,6,j)=R:=a
   subst a
   have O:aC 360 [.d (By false c)] (.tup [iv 0,bv false]):=O
   (repeat'((conv=>whnf);first|refine zP ?_|refine zN ?_|refine Ej ?_|refine Ee ?_|refine NIdx.tab (fun _=>rfl) t ?_|refine I3 g ?_|(refine NSl.bytes j xs c u ?_)|refine Al O Hh ?_|refine zF ?_|exact zE))
  |some s=>
   rw[L] at a O
   have a:drF b k (l.drop (i+1)) q {d with s:=s}=R:=a
   have O:aC 360 [.d (By false c)] (.tup [iv s,bv true]):=O
   (repeat'((conv=>whnf);first|refine zP ?_|refine zN ?_|refine Ej ?_|refine Ee ?_|refine NIdx.tab (fun _=>rfl) t ?_|refine I3 g ?_|(refine NSl.bytes j xs c u ?_)|refine Al O Hh ?_|refine zI ?_|refine zF ?_));(all_goals(conv=>whnf))
   refine⟨(i+1,q,{d with s:=s}),⟨by show i+1≤_;omega,a⟩,by show l.length-(i+1)<l.length-i;omega,?_⟩
   exact leQ
 ·have A:=gU c hcl
  have U:vlO 105 c=(Mf c).map .is:=rfl
  rw[U] at a
  clear U
  cases L:Mf c with
  |none=>
   rw[L] at a A
   have a:(none,6,j)=R:=a
   subst a
   have A:aC 361 [.d (By false c)] (.tup [Ff,bv false]):=A
   (repeat'((conv=>whnf);first|refine zP ?_|refine zN ?_|refine Ej ?_|refine Ee ?_|refine NIdx.tab (fun _=>rfl) t ?_|refine I3 g ?_|(refine NSl.bytes j xs c u ?_)|refine Al A Hh ?_|refine zF ?_|exact zE))
  |some f=>
   rw[L] at a A
   have a:drF b k (l.drop (i+1)) q {d with i:=f}=R:=a
   have A:aC 361 [.d (By false c)] (.tup [.d (Nl f),bv true]):=A
   (repeat'((conv=>whnf);first|refine zP ?_|refine zN ?_|refine Ej ?_|refine Ee ?_|refine NIdx.tab (fun _=>rfl) t ?_|refine I3 g ?_|(refine NSl.bytes j xs c u ?_)|refine Al A Hh ?_|refine zI ?_|refine zF ?_));(all_goals(conv=>whnf))
   refine⟨(i+1,q,{d with i:=f}),⟨by show i+1≤_;omega,a⟩,by show l.length-(i+1)<l.length-i;omega,?_⟩
   exact leQ
 ·have N:=cT c Aa
  have T:vlO 102 c=if c=[255] then some .fl else none:=rfl
  rw[T] at a
  clear T
  unfold eT at N
  by_cases c5:c=[255]
  ·rw[Aj c5] at a N
   have a:drF b k (l.drop (i+1)) q {d with fl:=fun m=>m==q||d.fl m}=R:=a
   rcases X with rfl|rfl|rfl|rfl
   all_goals
    (repeat'((conv=>whnf);first|refine zP ?_|refine zN ?_|refine Ej ?_|refine Ee ?_|refine NIdx.tab (fun _=>rfl) t ?_|refine I3 g ?_|(refine NSl.bytes j xs c u ?_)|refine Al N Hh ?_|(refine Cs (Fs (m:=6) (sz:=1) 1 rfl rfl (ltN rfl) rfl (Eg.ty rfl) rfl rfl rfl Aa) ?_)|(refine Cs (Fs (m:=6) (sz:=1) 2 rfl rfl (ltN rfl) rfl (Eg.ty rfl) rfl rfl rfl Aa) ?_)|(refine Cs (Fs (m:=6) (sz:=1) 4 rfl rfl (ltN rfl) rfl (Eg.ty rfl) rfl rfl rfl Aa) ?_)|(refine Cs (Fs (m:=6) (sz:=1) 5 rfl rfl (ltN rfl) rfl (Eg.ty rfl) rfl rfl rfl Aa) ?_)|refine zI ?_|refine zF ?_));(all_goals(conv=>whnf))
    refine⟨(i+1,_,_),⟨by show i+1≤_;omega,a⟩,by show l.length-(i+1)<l.length-i;omega,?_⟩
    exact leQ
  ·rw[Ai c5] at a N
   have a:(none,6,j)=R:=a
   subst a
   by_cases c6:c=[0]
   ·rw[Aj c6] at N
    rcases X with rfl|rfl|rfl|rfl
    all_goals
     (repeat'((conv=>whnf);first|refine zP ?_|refine zN ?_|refine Ej ?_|refine Ee ?_|refine NIdx.tab (fun _=>rfl) t ?_|refine I3 g ?_|(refine NSl.bytes j xs c u ?_)|refine Al N Hh ?_|(refine Cs (Fs (m:=6) (sz:=1) 1 rfl rfl (ltN rfl) rfl (Eg.ty rfl) rfl rfl rfl Aa) ?_)|(refine Cs (Fs (m:=6) (sz:=1) 2 rfl rfl (ltN rfl) rfl (Eg.ty rfl) rfl rfl rfl Aa) ?_)|(refine Cs (Fs (m:=6) (sz:=1) 4 rfl rfl (ltN rfl) rfl (Eg.ty rfl) rfl rfl rfl Aa) ?_)|(refine Cs (Fs (m:=6) (sz:=1) 5 rfl rfl (ltN rfl) rfl (Eg.ty rfl) rfl rfl rfl Aa) ?_)|refine zF ?_|exact zE))
   ·rw[Ai c6] at N
    rcases X with rfl|rfl|rfl|rfl
    all_goals
     (repeat'((conv=>whnf);first|refine zP ?_|refine zN ?_|refine Ej ?_|refine Ee ?_|refine NIdx.tab (fun _=>rfl) t ?_|refine I3 g ?_|(refine NSl.bytes j xs c u ?_)|refine Al N Hh ?_|(refine Cs (Fs (m:=6) (sz:=1) 1 rfl rfl (ltN rfl) rfl (Eg.ty rfl) rfl rfl rfl Aa) ?_)|(refine Cs (Fs (m:=6) (sz:=1) 2 rfl rfl (ltN rfl) rfl (Eg.ty rfl) rfl rfl rfl Aa) ?_)|(refine Cs (Fs (m:=6) (sz:=1) 4 rfl rfl (ltN rfl) rfl (Eg.ty rfl) rfl rfl rfl Aa) ?_)|(refine Cs (Fs (m:=6) (sz:=1) 5 rfl rfl (ltN rfl) rfl (Eg.ty rfl) rfl rfl rfl Aa) ?_)|refine zF ?_|exact zE))
abbrev ptQ (p:Pt):AV:= .agg [.d (Nl p.f),.d (Y7 p.r),iv p.s,.d (Nl p.i)]
abbrev isQ (x:Iss):AV:= .agg [.d (Nl x.f),.d (Y7 x.r),bv x.u,bv x.c,bv x.n,bv x.a,iv x.s]
abbrev ptZ:AV:= .agg [Ff,Ff,iv 0,Ff]
abbrev isZ:AV:= .agg [Ff,Ff,bv false,bv false,bv false,bv false,iv 0]
def ptR:Option Pt×Nat×Nat→AV
 |(some p,_)=> .tup [ptQ p,erA 0 0]
 |(none,c,o)=> .tup [ptZ,erA c o]
def isR:Option Iss×Nat×Nat→AV
 |(some p,_)=> .tup [isQ p,erA 0 0]
 |(none,c,o)=> .tup [isZ,erA c o]
theorem X7 (h:p:=by first|rfl|(simp only[D8,AV.ren,AV.give,D.un,Ef,D7,D6,Ap,Am,Ak,Ea,Ed,G2,F8,Ex,Gv,Ha,I4,Fi,Fy,E8,Ep,Eo,Pr,Oa,Md];first|done|rfl)):p:=h
theorem kY (h:p:=by((try simp only[D8,AV.ren,AV.give,D.un,Ef,D7,D6,Ap,Am,Ak,Ea,Ed,G2,F8,Ex,Gv,Ha,I4,Fi,Fy,E8,Ep,Eo,Pr,Oa,Md]);(repeat'(first|exact trivial|exact Er _|refine A1 ?_ ?_|exact rfl|exact Cv rfl|exact Cz rfl|exact Cz Ah|omega|refine Cv ?_));first|done|fail)):p:=h
theorem GT (b:List UInt8) (B:b.length≤399000):aC 270 [.d (By false b)] (ptR (ptP b)):=by
 have a:=gV k3 b nu Aa
 unfold ptP
 rcases Zs (k:=k3) (b:=b) Aa bn with⟨d,⟨vs,u,t,w,x⟩,q⟩|⟨c,o,C,F,A⟩
 ·rw[q] at a⊢
  obtain⟨p,rfl,h,j,m⟩:=bp u t
  have z:pM d=p:=by rw[x];exact AP h j
  have y:p.sm:=GM h m (by show(vsE (kU p)).length≤_;rw[←w];exact B)
  have e:=GR p y.m (PB j)
  clear q x w t u y h j m
  subst z
  show Es _ _ _ (fun r=>r=ptR (if ptW (pM d)=true then(some (pM d),0,0) else(none,6,0)))
  obtain⟨f,r,s,i,fl⟩:=d
  have a:aC 295 [sv k3,.d (By false b)] (.tup [.agg [.d (Nl f),.d (Y7 r),iv s,.d (Nl i),bv (fl 0),bv (fl 1),bv (fl 2),bv (fl 3),bv (fl 4),bv (fl 5)],erA 0 0]):=a
  have l:pM ⟨f,r,s,i,fl⟩=⟨f,r,s,i⟩:=rfl
  rw[l] at e⊢
  cases g:ptW ⟨f,r,s,i⟩
  ·rw[g] at e
   rw[Ai Ab]
   clear g
   refine acQ 35 Tryz.func270 rfl rfl fun _ _ _=> ?_
   (repeat'((conv=>whnf);first|refine Ej ?_|refine Ee ?_|refine Al a X7 ?_|refine H0 e kY ?_|exact zE))
  ·rw[g] at e
   rw[Aj rfl]
   clear g
   refine acQ 35 Tryz.func270 rfl rfl fun _ _ _=> ?_
   (repeat'((conv=>whnf);first|refine Ee ?_|refine Al a X7 ?_|refine H0 e kY ?_|exact zE))
 ·rw[A] at a⊢
  have E:((c:Int) !=0)=true:=by rw[Av];omega
  have a:aC 295 [sv k3,.d (By false b)] (.tup [.agg drZ,erA c o]):=a
  show Es _ _ _ (fun r=>r= .tup [ptZ,erA c o])
  refine acQ 35 Tryz.func270 rfl rfl fun _ _ _=> ?_
  (repeat'((conv=>whnf);first|refine zP ?_|refine Al a X7 ?_|refine zF ?_|exact zE))
theorem GU (b:List UInt8) (A:b.length≤399000):aC 229 [.d (By false b)] (isR (isP b)):=by
 have a:=gV k6 b nv Aa
 unfold isP
 rcases Zs (k:=k6) (b:=b) Aa bo with⟨d,⟨vs,t,u,w,x⟩,q⟩|⟨c,o,C,F,z⟩
 ·rw[q] at a⊢
  obtain⟨p,rfl,h,l⟩:=bq t u
  have B:pN d=p:=by rw[x];exact AQ h l
  have y:p.sm:=GN h (by show(vsE (kV p)).length≤_;rw[←w];exact A)
  have e:=GS p y.m (PB l)
  clear q x w u t y h l
  subst B
  show Es _ _ _ (fun r=>r=isR (if isW (pN d)=true then(some (pN d),0,0) else(none,6,0)))
  obtain⟨f,r,s,i,fl⟩:=d
  have a:aC 295 [sv k6,.d (By false b)] (.tup [.agg [.d (Nl f),.d (Y7 r),iv s,.d (Nl i),bv (fl 0),bv (fl 1),bv (fl 2),bv (fl 3),bv (fl 4),bv (fl 5)],erA 0 0]):=a
  have j:pN ⟨f,r,s,i,fl⟩=⟨f,r,fl 1,fl 2,fl 4,fl 5,s⟩:=rfl
  rw[j] at e⊢
  generalize fl 0=b0 at a
  generalize fl 1=b1 at a e⊢
  generalize fl 2=b2 at a e⊢
  generalize fl 3=b3 at a
  generalize fl 4=b4 at a e⊢
  generalize fl 5=b5 at a e⊢
  cases g:isW ⟨f,r,b1,b2,b4,b5,s⟩
  ·rw[g] at e
   rw[Ai Ab]
   clear g
   refine acQ 45 Tryz.func229 rfl rfl fun _ _ _=> ?_
   (repeat'((conv=>whnf);first|refine Ej ?_|refine Ee ?_|refine Al a X7 ?_|refine H0 e kY ?_|(refine Cs (Fs (m:=6) (sz:=1) 1 rfl rfl (ltN rfl) rfl (Eg.ty rfl) rfl rfl rfl Aa) ?_)|(refine Cs (Fs (m:=6) (sz:=1) 2 rfl rfl (ltN rfl) rfl (Eg.ty rfl) rfl rfl rfl Aa) ?_)|(refine Cs (Fs (m:=6) (sz:=1) 4 rfl rfl (ltN rfl) rfl (Eg.ty rfl) rfl rfl rfl Aa) ?_)|(refine Cs (Fs (m:=6) (sz:=1) 5 rfl rfl (ltN rfl) rfl (Eg.ty rfl) rfl rfl rfl Aa) ?_)|exact zE))
  ·rw[g] at e
   rw[Aj rfl]
   clear g
   refine acQ 45 Tryz.func229 rfl rfl fun _ _ _=> ?_
   (repeat'((conv=>whnf);first|refine Ee ?_|refine Al a X7 ?_|refine H0 e kY ?_|(refine Cs (Fs (m:=6) (sz:=1) 1 rfl rfl (ltN rfl) rfl (Eg.ty rfl) rfl rfl rfl Aa) ?_)|(refine Cs (Fs (m:=6) (sz:=1) 2 rfl rfl (ltN rfl) rfl (Eg.ty rfl) rfl rfl rfl Aa) ?_)|(refine Cs (Fs (m:=6) (sz:=1) 4 rfl rfl (ltN rfl) rfl (Eg.ty rfl) rfl rfl rfl Aa) ?_)|(refine Cs (Fs (m:=6) (sz:=1) 5 rfl rfl (ltN rfl) rfl (Eg.ty rfl) rfl rfl rfl Aa) ?_)|exact zE))
 ·rw[z] at a⊢
  have E:((c:Int) !=0)=true:=by rw[Av];omega
  have a:aC 295 [sv k6,.d (By false b)] (.tup [.agg drZ,erA c o]):=a
  show Es _ _ _ (fun r=>r= .tup [isZ,erA c o])
  refine acQ 45 Tryz.func229 rfl rfl fun _ _ _=> ?_
  (repeat'((conv=>whnf);first|refine zP ?_|refine Al a X7 ?_|refine zF ?_|exact zE))
def ptC (p:Pt):List D:=[Uz p.f,Uy p.r,.v (.int .i64 p.s),Uz p.i]
def l6 (l:List Pt):D:=J5 false 4 ptC l
theorem PD (p:Pt):Ef (ptC p)=ptC p:=by simp only[ptC,Ef,D.un,G2,F8]
theorem XO (l:List Pt):Ef (l.flatMap ptC)=l.flatMap ptC:=by
 induction l with
 |nil=>rfl
 |cons g r a=>rw[A4,X3,PD,a]
theorem XP (l:List Pt):(l6 l).un=l6 l:=by
 show D.sl false l.length 4 (Ef (l.flatMap ptC))=_
 rw[XO];rfl
theorem kZ (h:p:=by first|rfl|(simp only[D8,AV.ren,AV.give,D.un,Ef,D7,D6,Ap,Am,Ak,AV.share,Hq,Ea,Ed,G2,F8,Ex,Gv,Ha,I4,Fi,Fy,E8,Ep,Eo,Pr,Oa,Md,XP,PD];first|done|rfl)):p:=h
def ptO (p:Pt):List D:=[Nl p.f,Y7 p.r,.v (.int .i64 p.s),Nl p.i]
def ny (l:List Pt):D:=J5 true 4 ptO l
def nz:Option (List Pt)×Nat×Nat→AV
 |(some l,_)=> .tup [.d (ny l),erA 0 0]
 |(none,c,o)=> .tup [Ff,erA c o]
theorem XQ (d:b.length≤399000) {q:Nat×Nat} (h:ptP b=(none,q)):q.1≠0:=by
 rcases cV b Aa with⟨p,-,e⟩|⟨c,o,a,-,e⟩
 ·rw[e] at h;cases h
 ·rw[e] at h;cases h;exact a
theorem PE {b:List UInt8} (d:b.length≤399000) {p:Pt} {q:Nat×Nat} (h:ptP b=(some p,q)):q=(0,0):=by
 rcases cV b Aa with⟨p,-,e⟩|⟨c,o,a,-,e⟩
 ·rw[e] at h;cases h;rfl
 ·rw[e] at h;cases h
theorem cX (b:List UInt8) (W:b.length≤100000000) (j:∀x∈(Dn b 0 16).l,(elO b x).length≤399000):aC 206 [.d (By false b)] (nz (pU b)):=by
 have d:=Fc b 0 16 Aa
 have s:=fun x=>Ez (b:=b) (c:=0) (n:=16) (x:=x)
 have u:=F4 b 0 16
 unfold pU
 generalize Dn b 0 16=R at d s u j⊢
 by_cases E:R.code≠0
 ·rw[Aj E]
  rw[lrA,Aj E] at d
  have L:((R.code:Int) !=0)=true:=by rw[Av];omega
  generalize R.code=c at d L
  generalize R.off=o at d
  refine acQ 60 Tryz.func206 rfl rfl fun _ _ _=> ?_
  (repeat'((conv=>whnf);first|refine zP ?_|refine Al d kZ ?_|refine zF ?_|exact zE))
 rw[Ai E]
 rw[lrA,Ai E] at d
 generalize R.l=l at d s u j⊢
 have C:ptL b l=cW [] (ptL b (l.drop 0)):=by rw[GO,List.drop_zero]
 generalize V:ptL b l=q at C⊢
 refine acQ 60 Tryz.func206 rfl rfl fun _ _ _=> ?_
 (repeat'((conv=>whnf);first|refine Ee ?_|refine Al d kZ ?_));(all_goals(conv=>whnf))
 refine F2 [.s 6 4 445] (fun z:Nat×List Pt=>z.1≤l.length∧z.2.length=z.1∧q=cW z.2 (ptL b (l.drop z.1))) (fun z=>l.length-z.1) (fun z=>⟨[(0,.d (By false b)),(3,.ptr 3 0),(6,Fy 6 4 445 ptO z.2),(20,.d (Gw l)),(21,iv l.length),(22,iv z.1)],[(3,[iv 0,iv 0])],[(6,(z.2.length,4,445))]⟩) (0,[]) ⟨Ab,rfl,C⟩ leQ ?_
 rintro⟨i,A⟩ ⟨P,M,m⟩
 simp only at P M m
 by_cases w:i<l.length
 ·have O:decide ((i:Int)<l.length)=true:=Aq Aa
  obtain⟨x,y⟩:∃p,l[i]?=some p:=⟨_,Ev w⟩
  obtain⟨X,U,T⟩:=s x (F9 y)
  have N:=S1 b x
  have f:=j x (F9 y)
  have a:=GT (elO b x) f
  rw[Lt y] at m
  have F:=cV (elO b x) Aa
  have H:=@PE (elO b x) f
  cases t:ptP (elO b x) with
  |mk o r=>
   obtain⟨c,p⟩:=r
   cases o with
   |none=>
    have J:q=(none,c,x.at'+p):=by rw[m,ptL,t];rfl
    rw[J,Ai (by rintro rfl;simp at w)]
    have I:=XQ f t
    rw[t] at a F
    have Q:p≤(elO b x).length:=by
     rcases F with⟨v,-,e⟩|⟨c',o',-,B,e⟩
     ·cases e
     ·cases e;exact B
    have a:aC 270 [.d (By false (elO b x))] (.tup [ptZ,erA c p]):=a
    simp only at I
    have L:((c:Int) !=0)=true:=by rw[Av];omega
    clear F H
    unfold elO at a
    (repeat'((conv=>whnf);first|refine zP ?_|refine NIdx.tab (fun _=>rfl) y ?_|refine NSl.slice (x.at') (x.stop) ?_|refine Al a kZ ?_|refine zI ?_|refine zF ?_|exact zE))
   |some g=>
    rw[vP A t] at m
    cases H t
    rw[t] at a
    have a:aC 270 [.d (By false (elO b x))] (.tup [ptQ g,erA 0 0]):=a
    clear F H
    unfold elO at a
    (repeat'((conv=>whnf);first|refine zP ?_|refine zN ?_|refine Ej ?_|refine Ee ?_|refine NIdx.tab (fun _=>rfl) y ?_|refine NSl.slice (x.at') (x.stop) ?_|refine Al a kZ ?_|refine E4 ptO g ?_|refine zI ?_));(all_goals(conv=>whnf))
    refine⟨(i+1,A++[g]),⟨by show i+1≤_;omega,Af,m⟩,by show l.length-(i+1)<l.length-i;omega,?_⟩
    exact leQ
 ·have O:decide ((i:Int)<l.length)=false:=Ao Aa
  obtain rfl:i=l.length:=Aa
  rw[List.drop_length,ptL] at m
  have K:q=(some A,0,0):=by rw[m];simp[cW]
  subst K
  by_cases B:l=[]
  ·subst B
   obtain rfl:A=[]:=Bn M
   rw[Aj rfl]
   (repeat'((conv=>whnf);first|refine zP ?_|refine zN ?_|refine Ej ?_|refine Ee ?_|exact zE))
  ·have Y:((A.length:Int)==0)=false:=by
    rw[An]
    intro h
    exact B (Bn Aa)
   rw[Ai B]
   (repeat'((conv=>whnf);refine zN ?_));(all_goals(conv=>whnf))
   all_goals exact zE
end Go.Proofs.YtbedjionhmaafaaGreatDoor
