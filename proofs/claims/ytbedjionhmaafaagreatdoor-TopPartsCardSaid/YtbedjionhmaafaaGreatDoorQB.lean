/- QB: the texts TmP AlP ExP CeP CeQ CeR DeP DiP LoP LoQ, one behind the other. No condition but what each lemma says. -/
import Derived.Test.YtbedjionhmaafaaGreatDoorNB
import Derived.Test.YtbedjionhmaafaaGreatDoorQA
set_option linter.all false
namespace Go.Proofs.YtbedjionhmaafaaGreatDoor
open Go.RowKit
set_option maxRecDepth 100000
variable {n c p q:Nat} {k:Bool} {b:List UInt8} {x:Tv} {ts:List Tv} {M:Lit→Option Value}
theorem qD {b:Bool} (h:¬b=false):b=true:=by
 grind
structure Tm where
 y:Nat
 mo:Nat
 d:Nat
 h:Nat
 mi:Nat
 s:Nat
 deriving DecidableEq
variable {t:Tm}
def Wy (y:Nat):Bool:=y%4==0&&(!(y%100==0)||y%400==0)
def HE (m:Nat):Nat:=[31,28,31,30,31,30,31,31,30,31,30,31].getD (m-1) 0
def BB (y m:Nat):Nat:=if 9999<y∨m<1∨12<m then 0 else if m=2∧Wy y=true then 29 else HE m
def Tm.v (t:Tm):Bool:=(decide (t.h<24)&&(decide (t.mi<60)&&decide (t.s<60)))&&(decide (1≤t.d)&&decide (t.d≤BB t.y t.mo))
def Tm.z:Tm:=⟨0,0,0,0,0,0⟩
def Tm.sm (t:Tm):Prop:=t.y≤9999∧t.mo≤99∧t.d≤99∧t.h≤99∧t.mi≤99∧t.s≤99
def chr (n:Nat):UInt8:=UInt8.ofNat (48+n)
def O3 (n:Nat):List UInt8:=[chr (n/10),chr (n%10)]
def BC (t:Tm):List UInt8:=O3 t.mo++(O3 t.d++(O3 t.h++(O3 t.mi++(O3 t.s++[90]))))
def dF (t:Tm):List UInt8:=O3 (t.y%100)++BC t
def dG (t:Tm):List UInt8:=O3 (t.y/100)++(O3 (t.y%100)++BC t)
def Ny (x:UInt8):Bool:=decide (48≤x.toNat)&&decide (x.toNat≤57)
def dgN (a b:UInt8):Nat:=(a.toNat-48)*10+(b.toNat-48)
def ifV (p:Bool) (t:Tm):Option Tm:=if(p&&t.v)=true then some t else none
def Rk (n:Nat):Nat:=if n+1900<1950 then n+2000 else n+1900
def qE:List UInt8→Option Tm
 |[a,b,c,d,e,f,g,h,i,j,k,l,z]=>ifV (z==90&&[a,b,c,d,e,f,g,h,i,j,k,l].all Ny) ⟨Rk (dgN a b),dgN c d,dgN e f,dgN g h,dgN i j,dgN k l⟩
 |_=>none
def dH:List UInt8→Option Tm
 |[p,q,a,b,c,d,e,f,g,h,i,j,k,l,z]=>ifV (z==90&&[p,q,a,b,c,d,e,f,g,h,i,j,k,l].all Ny) ⟨100*dgN p q+dgN a b,dgN c d,dgN e f,dgN g h,dgN i j,dgN k l⟩
 |_=>none
theorem qF {p:Bool} {u:Tm} (h:ifV p t=some u):p=true∧t.v=true∧u=t:=by
 unfold ifV at h
 grind
theorem Fr {x:UInt8} (h:Ny x=true):48≤x.toNat∧x.toNat≤57:=by
 unfold Ny at h
 grind
theorem BD {x:UInt8} (h:Ny x=true):chr (x.toNat-48)=x:=by
 grind [Fr,chr,UInt8.ofNat_toNat]
theorem Hi {a b:UInt8} (d:Ny a=true) (e:Ny b=true):dgN a b≤99:=by
 grind [Fr,dgN]
theorem Pw {a b:UInt8} (d:Ny a=true) (e:Ny b=true):O3 (dgN a b)=[a,b]:=by
 have f:=Fr d;have g:=Fr e
 unfold O3 dgN
 rw[show((a.toNat-48)*10+(b.toNat-48))/10=a.toNat-48 by omega,show((a.toNat-48)*10+(b.toNat-48))%10=b.toNat-48 by omega,BD d,BD e]
theorem BE (h:n≤99):1950≤Rk n∧Rk n≤2049∧Rk n%100=n:=by
 unfold Rk
 split<;>omega
theorem PK {c:List UInt8} (h:qE c=some t):t.v=true∧t.sm∧1950≤t.y∧t.y≤2049∧dF t=c:=by
 unfold qE at h
 split at h
 ·rename_i a b c d e f g K i j k l z
  obtain⟨u,F,rfl⟩:=qF h
  simp only[Et,A9,List.all_cons,List.all_nil,Di] at u
  obtain⟨rfl,y,B,I,J,E,H,A,C,w,r,o,m⟩:=u
  have v:=BE (Hi y B)
  refine⟨F,⟨by show Rk _≤_;omega,Hi I J,Hi E H,Hi A C,Hi w r,Hi o m⟩,v.1,v.2.1,?_⟩
  grind [dF,BC,Pw]
 ·cases h
theorem PL {c:List UInt8} (h:dH c=some t):t.v=true∧t.sm∧dG t=c:=by
 unfold dH at h
 split at h
 ·rename_i p q a b c d e f g O i j k l z
  obtain⟨u,K,rfl⟩:=qF h
  simp only[Et,A9,List.all_cons,List.all_nil,Di] at u
  obtain⟨rfl,H,C,w,A,I,J,E,F,y,B,v,r,o,m⟩:=u
  have N:=Hi H C
  have L:=Hi w A
  refine⟨K,⟨by grind,Hi I J,Hi E F,Hi y B,Hi v r,Hi o m⟩,?_⟩
  unfold dG BC
  simp only
  rw[show(100*dgN p q+dgN a b)/100=dgN p q by omega,show(100*dgN p q+dgN a b)%100=dgN a b by omega,Pw H C,Pw w A,Pw I J,Pw E F,Pw y B,Pw v r,Pw o m]
  rfl
 ·cases h
def tmE (t:Tm):List UInt8:=if t.y≤2049 then Ei 0 23 false (dF t) else Ei 0 24 false (dG t)
def Tm.ok (t:Tm):Bool:=t.v&&decide (1950≤t.y)
def tmO (b:List UInt8):Option Tm×Nat×Nat:=
 if(Em b).code≠0 then(none,(Em b).code,(Em b).off) else
 if(Em b).x.isB 0 23 false=true then(match qE ((b.drop (Em b).x.body).take ((Em b).x.stop-(Em b).x.body)) with
  |some t=>(some t,0,0)
  |none=>(none,6,(Em b).x.body)) else
 if(Em b).x.isB 0 24 false=true then(match dH ((b.drop (Em b).x.body).take ((Em b).x.stop-(Em b).x.body)) with
  |some t=>if t.y≤2049 then(none,6,(Em b).x.body) else(some t,0,0)
  |none=>(none,6,(Em b).x.body)) else(none,3,(Em b).x.body)
theorem O4 {t:Tv} {a:Nat} (h:(t.el a).isB c n k=true):t.c=c∧t.n=n∧t.k=k:=by
 unfold El.isB Tv.el at h
 grind
theorem Zu {r:Nat×Nat} (h:tmO b=(some t,r)):t.ok=true∧t.sm∧b=tmE t∧r=(0,0):=by
 unfold tmO at h
 split at h
 ·cases h
 rename_i z
 obtain⟨u,A,i,f⟩:=Qn (As.1 z)
 have w:(b.drop (Em b).x.body).take ((Em b).x.stop-(Em b).x.body)=u.v:=by
  rw[i]
  simp only[Tv.el,A0]
  rw[f,Tv.body,Tv.len,Nat.add_sub_cancel_left,Bv]
 rw[w] at h
 split at h
 ·rename_i a
  rw[i] at a
  obtain⟨j,g,d⟩:=O4 a
  split at h
  ·rename_i q m
   cases h
   obtain⟨y,l,k3,o,e⟩:=PK m
   refine⟨by grind [Tm.ok,decide_eq_true],l,?_,rfl⟩
   unfold tmE
   rw[Aj o,e,f]
   unfold Tv.enc
   rw[j,g,d]
  ·cases h
 ·split at h
  ·rename_i a
   rw[i] at a
   obtain⟨j,g,d⟩:=O4 a
   split at h
   ·rename_i q m
    split at h
    ·cases h
    rename_i v
    cases h
    obtain⟨y,l,e⟩:=PL m
    refine⟨by grind [Tm.ok,decide_eq_true],l,?_,rfl⟩
    unfold tmE
    rw[Ai v,e,f]
    unfold Tv.enc
    rw[j,g,d]
   ·cases h
  ·cases h
theorem Qt (h:(Dn b c n).code=0):∃(q:Nat) (ts:List Tv),(∀t∈ts,t.ok)∧b=Ei c n true (tvsE ts)∧Dn b c n=⟨els q ts,0,0⟩∧(els q ts).map (elO b)=ts.map Tv.enc∧b.drop q=tvsE ts∧b.length=q+(tvsE ts).length:=by
 grind [J2,O1]
theorem Vb {a:Nat} {t:Tv} (h:elO b (t.el a)=t.enc):bod b (t.el a)=t.v:=by rw[NU,h,Tv.body]
structure Alg where
 oid:List UInt8
 par:List UInt8
 deriving DecidableEq
def Alg.z:Alg:=⟨[],[]⟩
def X8 (a:Alg):Bool:=H7 a.oid&&(a.par==[]||Gt a.par)
def Rl (a:Alg):List UInt8:=Ei 0 16 true (Ei 0 6 false (Gs a.oid)++a.par)
def alX (b:List UInt8) (x:El) (y:Option El):Alg×Nat×Nat:=
 if x.isB 0 6 false=false then(.z,3,x.at') else if odC (bod b x)≠0 then(.z,odC (bod b x),x.body) else match y with
 |none=>(⟨odT (bod b x),[]⟩,0,0)
 |some y=>if Mc (elO b y)≠0 then(.z,Mc (elO b y),y.at'+N3 (elO b y)) else(⟨odT (bod b x),elO b y⟩,0,0)
def alQ (b:List UInt8) (r:LR):Alg×Nat×Nat:=if r.code≠0 then(.z,r.code,r.off) else match r.l with
 |[]=>(.z,1,b.length)
 |[x]=>alX b x none
 |[x,y]=>alX b x (some y)
 |_::_::z::_=>(.z,2,z.at')
def Ju (b:List UInt8):Alg×Nat×Nat:=alQ b (Dn b 0 16)
theorem BF {y:Option El} {r:Alg×Nat×Nat} (l:elO b (x.el p)=x.enc) (h:alX b (x.el p) y=r) (m:r.2.1=0):H7 r.1.oid=true∧x.enc=Ei 0 6 false (Gs r.1.oid)∧match y with
 |none=>r.1.par=[]
 |some y=>Gt (elO b y)=true∧r.1.par=elO b y:=by
 unfold alX at h
 rw[Vb l] at h
 split at h
 ·subst h;cases m
 rename_i a
 have a:=qD a
 obtain⟨i,g,f⟩:=O4 a
 split at h
 ·grind
 rename_i j
 have e:=bA (As.1 j)
 have d:x.enc=Ei 0 6 false (Gs (odT x.v)):=by rw[e.2,Tv.enc,i,g,f]
 cases y with
 |none=>
  grind
 |some y=>
  simp only at h
  split at h
  ·grind
  rename_i k3
  subst h
  exact⟨e.1,d,by rw[Re];grind,rfl⟩
theorem dI (h:(Ju b).2.1=0):X8 (Ju b).1=true∧b=Rl (Ju b).1:=by
 unfold Ju alQ at h⊢
 by_cases k:(Dn b 0 16).code≠0
 ·rw[Aj k] at h;exact Bg h k
 obtain⟨q,ts,i,l,g,a,-,-⟩:=Qt (As.1 k)
 rw[Ai k] at h⊢
 rw[g] at h⊢
 match ts,a with
 |[],_=>cases h
 |[x],a=>
  simp only[els,Bc,List.map_nil,Cn,and_true] at a h⊢
  obtain⟨d,f,e⟩:=BF a rfl h
  grind [X8,Rl,tvsE]
 |[x,y],a=>
  simp only[els,Bc,List.map_nil,Cn,and_true] at a h⊢
  obtain⟨d,f,e,j⟩:=BF a.1 rfl h
  grind [X8,Rl,tvsE]
 |x::y::z::r,_=>cases h
structure Ky where
 a:Alg
 l:List UInt8
 u:Nat
 deriving DecidableEq
def Ky.z:Ky:=⟨.z,[],0⟩
def qG (k:Ky):Bool:=X8 k.a&&Jd k.l k.u
def O5 (l:List UInt8) (u:Nat):List UInt8:=UInt8.ofNat u::l
def PM (k:Ky):List UInt8:=Ei 0 16 true (Rl k.a++Ei 0 3 false (O5 k.l k.u))
def keX (b:List UInt8) (x y:El):Ky×Nat×Nat:=
 if y.isB 0 3 false=false then(.z,3,y.at') else if(Ju (elO b x)).2.1≠0 then(.z,(Ju (elO b x)).2.1,x.at'+(Ju (elO b x)).2.2) else match dcB (bod b y) with
 |none=>(.z,6,y.body)
 |some (l,u)=>(⟨(Ju (elO b x)).1,l,u⟩,0,0)
def keQ (b:List UInt8) (r:LR):Ky×Nat×Nat:=if r.code≠0 then(.z,r.code,r.off) else match r.l with
 |[]=>(.z,1,b.length)
 |[_]=>(.z,1,b.length)
 |[x,y]=>keX b x y
 |_::_::z::_=>(.z,2,z.at')
def O6 (b:List UInt8):Ky×Nat×Nat:=keQ b (Dn b 0 16)
theorem Zv {c l:List UInt8} {u:Nat} (h:dcB c=some (l,u)):Jd l u=true∧u≤255∧c=O5 l u:=by
 unfold dcB at h
 split at h
 ·cases h
 ·rename_i x r
  split at h
  ·rename_i a
   cases h
   exact⟨a,by have:=x.toNat_lt;omega,by unfold O5;rw[UInt8.ofNat_toNat]⟩
  ·cases h
theorem PN (h:(O6 b).2.1=0):qG (O6 b).1=true∧(O6 b).1.u≤255∧b=PM (O6 b).1:=by
 unfold O6 keQ at h⊢
 by_cases k:(Dn b 0 16).code≠0
 ·rw[Aj k] at h;exact Bg h k
 obtain⟨q,ts,g,j,f,a,-,-⟩:=Qt (As.1 k)
 rw[Ai k] at h⊢
 rw[f] at h⊢
 match ts,a with
 |[],_=>cases h
 |[_],_=>cases h
 |[x,y],a=>
  simp only[els,Bc,List.map_nil,Cn,and_true] at a h⊢
  unfold keX at h⊢
  rw[Vb a.2,a.1] at h⊢
  split at h
  ·cases h
  rename_i d
  rw[Ai d]
  split at h
  ·rename_i e;exact Bg h e
  rename_i e
  rw[Ai e]
  have d:=qD d
  obtain⟨l,u,i⟩:=O4 d
  obtain⟨m,o⟩:=dI (As.1 e)
  grind [dcB,Zv,qG,PM,tvsE,Ei,Tv.enc]
 |x::y::z::r,_=>cases h
structure Ext where
 oid:List UInt8
 cr:Bool
 val:List UInt8
 deriving DecidableEq
def Ext.z:Ext:=⟨[],false,[]⟩
def HH (x:Ext):List UInt8:=Ei 0 16 true (Ei 0 6 false (Gs x.oid)++((if x.cr=true then Ei 0 1 false [255] else [])++Ei 0 4 false x.val))
def exX (b:List UInt8) (x:El) (m:Option El) (y:El):Ext×Nat×Nat:=
 if x.isB 0 6 false=false then(.z,3,0) else if odC (bod b x)≠0 then(.z,odC (bod b x),x.body) else match m with
 |none=>if y.isB 0 4 false=false then(.z,3,y.at') else(⟨odT (bod b x),false,bod b y⟩,0,0)
 |some z=>if(z.isB 0 1 false&&bod b z==[255])=false then(.z,6,z.at') else if y.isB 0 4 false=false then(.z,3,y.at') else(⟨odT (bod b x),true,bod b y⟩,0,0)
def exQ (b:List UInt8) (r:LR):Ext×Nat×Nat:=if r.code≠0 then(.z,r.code,r.off) else match r.l with
 |[x,y]=>exX b x none y
 |[x,z,y]=>exX b x (some z) y
 |_=>(.z,3,0)
def Ua (b:List UInt8):Ext×Nat×Nat:=exQ b (Dn b 0 16)
theorem BG {y:Tv} {m:Option El} {r:Ext×Nat×Nat} (B:elO b (x.el p)=x.enc) (o:elO b (y.el q)=y.enc) (h:exX b (x.el p) m (y.el q)=r) (e:r.2.1=0):
 H7 r.1.oid=true∧x.enc=Ei 0 6 false (Gs r.1.oid)∧y.enc=Ei 0 4 false r.1.val∧match m with
 |none=>r.1.cr=false
 |some z=>r.1.cr=true∧z.isB 0 1 false=true∧bod b z=[255]:=by
 unfold exX at h
 rw[Vb B,Vb o] at h
 split at h
 ·subst h;cases e
 rename_i v
 obtain⟨w,u,l⟩:=O4 (qD v)
 split at h
 ·grind
 rename_i A
 have j:=bA (As.1 A)
 have d:x.enc=Ei 0 6 false (Gs (odT x.v)):=by rw[j.2,Tv.enc,w,u,l]
 cases m with
 |none=>
  simp only at h
  split at h
  ·subst h;cases e
  rename_i k3
  obtain⟨g,f,i⟩:=O4 (qD k3)
  subst h
  exact⟨j.1,d,by rw[Tv.enc,g,f,i],rfl⟩
 |some z=>
  simp only at h
  split at h
  ·subst h;cases e
  rename_i a
  have a:=qD a
  rw[Et,A9] at a
  split at h
  ·subst h;cases e
  rename_i k3
  obtain⟨g,f,i⟩:=O4 (qD k3)
  subst h
  exact⟨j.1,d,by rw[Tv.enc,g,f,i],rfl,a.1,a.2⟩
theorem PO (h:(Ua b).2.1=0):H7 (Ua b).1.oid=true∧b=HH (Ua b).1:=by
 unfold Ua exQ at h⊢
 by_cases k:(Dn b 0 16).code≠0
 ·rw[Aj k] at h;exact Bg h k
 obtain⟨q,ts,o,i,m,a,-,-⟩:=Qt (As.1 k)
 rw[Ai k] at h⊢
 rw[m] at h⊢
 match ts,a with
 |[],_=>cases h
 |[_],_=>cases h
 |[x,y],a=>
  simp only[els,Bc,List.map_nil,Cn,and_true] at a h⊢
  obtain⟨d,g,e,f⟩:=BG a.1 a.2 rfl h
  refine⟨d,?_⟩
  unfold HH
  rw[f,Ai Ab,←g,←e,Ap,i]
  simp only[tvsE,A4,List.flatMap_nil,Am]
 |[x,z,y],a=>
  simp only[els,Bc,List.map_nil,Cn,and_true] at a h⊢
  obtain⟨d,g,e,f,l,j⟩:=BG a.1 a.2.2 rfl h
  obtain⟨v,u,r⟩:=O4 l
  rw[Vb a.2.1] at j
  refine⟨d,?_⟩
  unfold HH
  rw[f,Aj rfl,←g,←e,i]
  grind [tvsE,Ei,Tv.enc]
 |_::_::_::_::_,_=>cases h
def HL:List (List UInt8)→List Ext→Bool
 |_,[]=>true
 |s,x::r=>if(s.contains x.oid|| !H7 x.oid)=true then false else HL (x.oid::s) r
def eV (l:List Ext):Bool:=HL [] l&& !l.isEmpty
def XV (l:List Ext):List UInt8:=Ei 0 16 true (l.map HH).flatten
def S2 (b:List UInt8):List El→List Ext→List Ext×Nat×Nat
 |[],a=>if eV a=true then(a,0,0) else([],6,0)
 |y::r,a=>if(Ua (elO b y)).2.1≠0 then([],(Ua (elO b y)).2.1,y.at'+(Ua (elO b y)).2.2) else S2 b r (a++[(Ua (elO b y)).1])
def PP (b:List UInt8) (r:LR):List Ext×Nat×Nat:=if r.code≠0 then([],r.code,r.off) else S2 b r.l []
def Ub (b:List UInt8):List Ext×Nat×Nat:=PP b (Dn b 0 16)
theorem qH {b:List UInt8}:∀{l:List El} {a:List Ext},(S2 b l a).2.1=0→∃m,(S2 b l a).1=a++m∧eV (a++m)=true∧l.map (elO b)=m.map HH
 |[],a,h=>by
  unfold S2 at h⊢
  split at h
  all_goals simp_all
 |y::r,a,h=>by
  unfold S2 at h⊢
  split at h
  ·rename_i k;exact Bg h k
  rename_i k
  rw[Ai k]
  obtain⟨m,f,g,d⟩:=qH h
  obtain⟨-,e⟩:=PO (As.1 k)
  grind
theorem PQ (h:(Ub b).2.1=0):eV (Ub b).1=true∧b=XV (Ub b).1:=by
 unfold Ub PP at h⊢
 by_cases k:(Dn b 0 16).code≠0
 ·rw[Aj k] at h;exact Bg h k
 obtain⟨q,ts,a,e,f,d,-,-⟩:=Qt (As.1 k)
 rw[Ai k] at h⊢
 grind [qH,XV,Iq]
structure Src where
 l:List El
 c:Nat
 o:Nat
variable {s s':Src}
def Src.fail (n:Nat) (s:Src) (c o:Nat):Src:=if s.c=0∧c≠0 then⟨s.l,c,min o n⟩ else s
def E5 {α:Type} (b:List UInt8) (z:α) (p:List UInt8→α×Nat×Nat) (s:Src):α×Src:=
 if s.c≠0 then(z,s) else match s.l with
 |[]=>(z,s.fail b.length 1 b.length)
 |x::r=>((p (elO b x)).1,Src.fail b.length ⟨r,s.c,s.o⟩ (p (elO b x)).2.1 (x.at'+(p (elO b x)).2.2))
def Mg (k:Bool) (n:Nat) (s:Src):Option El×Src:=
 if s.c≠0 then(none,s) else match s.l with
 |[]=>(none,s)
 |x::r=>if x.isB 2 n k=true then(some x,⟨r,s.c,s.o⟩) else(none,s)
def H1 (b:List UInt8):Src:=if(Dn b 0 16).code≠0 then⟨[],(Dn b 0 16).code,(Dn b 0 16).off⟩ else⟨(Dn b 0 16).l,0,0⟩
def P7 (b:List UInt8) (v:Bool) (s:Src):Src:=
 let s1:=match s.l with
  |[]=>s
  |x::_=>s.fail b.length 2 x.at'
 if v=true then s1 else s1.fail b.length 6 0
theorem Ik {o:Nat} (h:(s.fail n c o).c=0):s.c=0∧c=0∧s.fail n c o=s:=by
 unfold Src.fail at h⊢
 grind
theorem Ld {a:Type} {z:a} {p:List UInt8→a×Nat×Nat} (h:(E5 b z p s).2.c=0):s.c=0∧∃x r,s.l=x::r∧(p (elO b x)).2.1=0∧E5 b z p s=((p (elO b x)).1,⟨r,s.c,s.o⟩):=by
 unfold E5 at h⊢
 split at h
 ·rename_i k;exact Bg h k
 rename_i k
 rw[Ai k]
 obtain⟨l,c,o⟩:=s
 cases l with
 |nil=>exact Bg (Ik h).2.1 Aa
 |cons x r=>
  obtain⟨d,f,e⟩:=Ik h
  grind
theorem BH {v:Bool} (h:(P7 b v s).c=0):v=true∧s.c=0∧s.l=[]:=by
 unfold P7 at h
 have d:∀{s:Src},(match s.l with|[]=>s|x::_=>s.fail b.length 2 x.at':Src).c=0→s.c=0∧s.l=[]:=by
  intro s a
  obtain⟨l,c,o⟩:=s
  cases l with
  |nil=>exact⟨a,rfl⟩
  |cons x r=>exact Bg (Ik a).2.1 Aa
 grind [absurd,Ik]
def M3 (b:List UInt8):List UInt8×Nat×Nat:=if(Em b).code≠0 then([],(Em b).code,(Em b).off) else if(Em b).x.isB 0 2 false=false then([],3,0) else(bod b (Em b).x,0,0)
def Sa (b:List UInt8):(List UInt8×Nat)×Nat×Nat:=if(Em b).code≠0 then(([],0),(Em b).code,(Em b).off) else if(Em b).x.isB 0 3 false=false then(([],0),3,0) else match dcB (bod b (Em b).x) with
 |none=>(([],0),6,0)
 |some p=>(p,0,0)
theorem PR (h:(Em b).code=0):∃t:Tv,t.ok∧(Em b).x=t.el 0∧b=t.enc∧bod b (Em b).x=t.v:=by
 obtain⟨t,d,e,f⟩:=Qn h
 have a:(Em b).x=t.el 0:=by rw[e]
 refine⟨t,d,a,f,?_⟩
 rw[a]
 refine Vb ?_
 unfold elO Tv.el
 grind
theorem qI (h:(M3 b).2.1=0):b=Ei 0 2 false (M3 b).1:=by
 unfold M3 at h⊢
 split at h
 ·rename_i k;exact Bg h k
 rename_i k
 rw[Ai k]
 split at h
 ·cases h
 rename_i a
 rw[Ai a]
 obtain⟨t,e,d,l,g⟩:=PR (As.1 k)
 rw[d] at a
 obtain⟨i,j,f⟩:=O4 (qD a)
 grind [Tv.enc]
theorem PS (h:(Sa b).2.1=0):Jd (Sa b).1.1 (Sa b).1.2=true∧(Sa b).1.2≤255∧b=Ei 0 3 false (O5 (Sa b).1.1 (Sa b).1.2):=by
 unfold Sa at h⊢
 split at h
 ·rename_i k;exact Bg h k
 rename_i k
 rw[Ai k]
 split at h
 ·cases h
 rename_i a
 rw[Ai a]
 obtain⟨t,e,d,l,g⟩:=PR (As.1 k)
 rw[d] at a
 obtain⟨i,j,f⟩:=O4 (qD a)
 grind [dcB,bod,Em,Zv,Tv.enc]
def lC (a z:Tm):List UInt8:=Ei 0 16 true (tmE a++tmE z)
def paX (b:List UInt8) (x y:El):(Tm×Tm)×Nat×Nat:=match tmO (elO b x) with
 |(none,c,o)=>((.z,.z),c,min o b.length)
 |(some f,_)=>match tmO (elO b y) with
  |(none,c,o)=>((.z,.z),c,min (o+y.at') b.length)
  |(some t,_)=>((f,t),0,0)
def paQ (b:List UInt8) (r:LR):(Tm×Tm)×Nat×Nat:=if r.code≠0 then((.z,.z),r.code,r.off) else match r.l with
 |[x,y]=>paX b x y
 |_=>((.z,.z),6,0)
def Il (b:List UInt8):(Tm×Tm)×Nat×Nat:=paQ b (Dn b 0 16)
theorem dJ {r:Nat×Nat} (h:tmO b=(none,r)):r.1≠0:=by
 unfold tmO at h
 grind
theorem HU (h:(Il b).2.1=0):(Il b).1.1.ok=true∧(Il b).1.1.sm∧(Il b).1.2.ok=true∧(Il b).1.2.sm∧b=lC (Il b).1.1 (Il b).1.2:=by
 unfold Il paQ at h⊢
 by_cases k:(Dn b 0 16).code≠0
 ·rw[Aj k] at h;exact Bg h k
 obtain⟨q,ts,e,f,d,a,-,-⟩:=Qt (As.1 k)
 rw[Ai k] at h⊢
 rw[d] at h⊢
 match ts,a with
 |[],_=>cases h
 |[_],_=>cases h
 |[x,y],a=>
  simp only[els,Bc,List.map_nil,Cn,and_true] at a h⊢
  grind [paX,tmO,absurd,dJ,Zu,lC,tvsE]
 |_::_::_::_,_=>cases h
def nmO (b:List UInt8):List (List Att)×Nat×Nat:=((nmR b).1.getD [],(nmR b).2)
structure Tbs where
 ver:Nat
 ser:List UInt8
 sig:Alg
 iss:List (List Att)
 na:Tm
 nb:Tm
 sub:List (List Att)
 key:Ky
 hi:Bool
 il:List UInt8
 iu:Nat
 hs:Bool
 sl:List UInt8
 su:Nat
 ext:List Ext
variable {V:Tbs→Bool}
def Tbs.z:Tbs:=⟨0,[],.z,[],.z,.z,[],.z,false,[],0,false,[],0,[]⟩
def qJ (b:List UInt8):Nat:=if(M3 b).2.1≠0 then 0 else if(M3 b).1=[1] then 1 else if(M3 b).1=[2] then 2 else 0
def Nz (b:List UInt8) (s:Src):Nat×Src:=match Mg true 0 s with
 |(none,s)=>(0,s)
 |(some x,s)=>if qJ (bod b x)=0 then(0,s.fail b.length 6 x.body) else(qJ (bod b x),s)
def Kn (n:Nat) (b:List UInt8) (s:Src):(Bool×List UInt8×Nat)×Src:=match Mg false n s with
 |(none,s)=>((false,[],0),s)
 |(some x,s)=>match dcB (bod b x) with
  |none=>((true,[],0),s.fail b.length 6 x.body)
  |some (l,u)=>((true,l,u),s)
def Sb (b:List UInt8) (s:Src):List Ext×Src:=match Mg true 3 s with
 |(none,s)=>([],s)
 |(some x,s)=>((Ub (bod b x)).1,s.fail b.length (Ub (bod b x)).2.1 (x.body+(Ub (bod b x)).2.2))
def Mh (b:List UInt8):Tbs×Src:=match Nz b (H1 b) with
 |(v,s1)=>match E5 b [] M3 s1 with
 |(se,s2)=>match E5 b .z Ju s2 with
 |(sg,s3)=>match E5 b [] nmO s3 with
 |(is,s4)=>match E5 b (.z,.z) Il s4 with
 |((na,nb),s5)=>match E5 b [] nmO s5 with
 |(su,s6)=>match E5 b .z O6 s6 with
 |(ky,s7)=>match Kn 1 b s7 with
 |((h1,l1,u1),s8)=>match Kn 2 b s8 with
 |((h2,l2,u2),s9)=>match Sb b s9 with
 |(ex,s10)=>(⟨v,se,sg,is,na,nb,su,ky,h1,l1,u1,h2,l2,u2,ex⟩,s10)
def M4 (V:Tbs→Bool) (b:List UInt8):Tbs×Nat×Nat:=match Mh b with
 |(t,s)=>match P7 b (V t) s with
 |⟨_,k,o⟩=>if k≠0 then(.z,k,o) else(t,0,0)
def S3 (a:Alg):Tv:=⟨0,16,true,Ei 0 6 false (Gs a.oid)++a.par⟩
def nmT (n:List (List Att)):Tv:=⟨0,16,true,(n.map Ka).flatten⟩
def lD (v:Nat):List Tv:=if v=0 then [] else [⟨2,0,true,Ei 0 2 false [UInt8.ofNat v]⟩]
def Rm (t:Tbs):List Tv:=[⟨0,2,false,t.ser⟩,S3 t.sig,nmT t.iss,⟨0,16,true,tmE t.na++tmE t.nb⟩,nmT t.sub,⟨0,16,true,Rl t.key.a++Ei 0 3 false (O5 t.key.l t.key.u)⟩]
def O7 (n:Nat) (h:Bool) (l:List UInt8) (u:Nat):List Tv:=if h=true then [⟨2,n,false,O5 l u⟩] else []
def Wz (l:List Ext):List Tv:=if l=[] then [] else [⟨2,3,true,XV l⟩]
def Tbs.tvs (t:Tbs):List Tv:=lD t.ver++(Rm t++(O7 1 t.hi t.il t.iu++(O7 2 t.hs t.sl t.su++Wz t.ext)))
def la (t:Tbs):List UInt8:=Ei 0 16 true (tvsE t.tvs)
theorem W1 {v:List UInt8} (e:x.ok) (d:c≤3) (a:n≤30) (g:x.enc.length≤2147483647) (h:x.enc=Ei c n k v):x=⟨c,n,k,v⟩:=by
 have f:v.length≤2147483647:=by
  have:=Cf List.length h
  unfold Ei at this
  rw[L9] at this;omega
 exact(Tv.inj (u:=⟨c,n,k,v⟩) e ⟨d,a,f⟩ (r:=[]) (s:=[]) (by rw[Am,Am];exact h)).1
theorem PT (h:x∈ts):x.enc.length≤(tvsE ts).length:=by
 induction ts with
 |nil=>cases h
 |cons y r a=>
  rw[Fm,En]
  grind
structure Rest (b:List UInt8) (s:Src) (p:Nat) (ts:List Tv):Prop where
 c:s.c=0
 l:s.l=els p ts
 ok:∀t∈ts,t.ok
 e:(els p ts).map (elO b)=ts.map Tv.enc
 n:(tvsE ts).length≤2147483647
theorem Rest.tail {o:Nat} (h:Rest b s p (x::ts)):x.ok∧elO b (x.el p)=x.enc∧x.enc.length≤2147483647∧Rest b ⟨els (p+x.enc.length) ts,s.c,o⟩ (p+x.enc.length) ts:=by
 have a:=h.e
 have d:=h.n
 rw[Fm,En] at d
 simp only[els,Bc,Cn] at a
 exact⟨h.ok x Ab,a.1,Aa,h.c,rfl,fun t e=>h.ok t (by simp[e]),a.2,Aa⟩
theorem Kv {g:Type} {z a:g} {q:List UInt8→g×Nat×Nat} (h:Rest b s p ts) (e:E5 b z q s=(a,s')) (f:s'.c=0):∃x r,ts=x::r∧x.ok∧x.enc.length≤2147483647∧(q x.enc).2.1=0∧a=(q x.enc).1∧Rest b s' (p+x.enc.length) r:=by
 have f:(E5 b z q s).2.c=0:=by rw[e];exact f
 obtain⟨i,x,r,d,j,l⟩:=Ld f
 rw[h.l] at d
 match ts,h,d with
 |t::ts,h,d=>
  simp only[els,Cn] at d
  obtain⟨rfl,rfl⟩:=d
  obtain⟨u,v,k3,m⟩:=h.tail (o:=s.o)
  grind
theorem dK (h:Rest b s p ts):(∃x r,ts=x::r∧x.ok∧x.enc.length≤2147483647∧x.c=2∧x.n=n∧x.k=k∧Mg k n s=(some (x.el p),⟨els (p+x.enc.length) r,s.c,s.o⟩)∧bod b (x.el p)=x.v∧Rest b ⟨els (p+x.enc.length) r,s.c,s.o⟩ (p+x.enc.length) r)∨Mg k n s=(none,s):=by
 unfold Mg
 rw[Ai (by rw[h.c];simp),h.l]
 match ts,h with
 |[],h=>exact .inr rfl
 |x::r,h=>
  obtain⟨f,j,k3,g⟩:=h.tail (o:=s.o)
  simp only[els]
  by_cases a:(x.el p).isB 2 n k=true
  ·obtain⟨i,e,d⟩:=O4 a
   rw[Aj a]
   exact .inl ⟨x,r,rfl,f,k3,i,e,d,rfl,Vb j,g⟩
  ·rw[Ai a];exact .inr rfl
theorem PU {c:List UInt8} (h:qJ c≠0):c=Ei 0 2 false [UInt8.ofNat (qJ c)]∧qJ c≤2:=by
 unfold qJ at h⊢
 split at h
 ·exact Bg rfl h
 rename_i k
 rw[Ai k]
 have a:=qI (As.1 k)
 split at h
 ·rename_i d;rw[Aj d];rw[d] at a;exact⟨a,Aa⟩
 rename_i d
 rw[Ai d]
 split at h
 ·rename_i e;rw[Aj e];rw[e] at a;exact⟨a,Aa⟩
 ·exact Bg rfl h
theorem PV (h:Rest b s p ts) (e:(Nz b s).2.c=0):(Nz b s).1≤2∧∃r q,ts=lD (Nz b s).1++r∧Rest b (Nz b s).2 q r:=by
 unfold Nz at e⊢
 rcases dK (k:=true) (n:=0) h with⟨x,r,rfl,o,u,k3,l,v,k6,j,i⟩|g
 ·rw[k6] at e⊢
  simp only at e⊢
  rw[j] at e⊢
  split at e
  ·exact Bg (Ik e).2.1 Aa
  rename_i f
  rw[Ai f]
  obtain⟨v1,v2⟩:=PU f
  refine⟨v2,r,_,?_,i⟩
  show x::r=lD (qJ x.v)++r
  unfold lD
  rw[Ai f,←v1]
  obtain⟨a,m,c,d⟩:=x
  grind
 ·rw[g];exact⟨Nat.zero_le _,ts,p,rfl,h⟩
theorem PW (h:Rest b s p ts) (e:(Kn n b s).2.c=0):(Kn n b s).1.2.2≤255∧∃r q,ts=O7 n (Kn n b s).1.1 (Kn n b s).1.2.1 (Kn n b s).1.2.2++r∧Rest b (Kn n b s).2 q r:=by
 unfold Kn at e⊢
 rcases dK (k:=false) (n:=n) h with⟨x,r,rfl,z,A,k3,f,i,k6,v,o⟩|j
 ·rw[k6] at e⊢
  simp only at e⊢
  rw[v] at e⊢
  match hd:dcB x.v with
  |none=>rw[hd] at e;exact Bg (Ik e).2.1 Aa
  |some (l,u)=>
   rw[hd] at e
   obtain⟨w,m,g⟩:=Zv hd
   refine⟨m,r,_,?_,o⟩
   obtain⟨a,y,c,d⟩:=x
   simp only at k3 f i g
   subst k3 f i g
   rfl
 ·rw[j];exact⟨Nat.zero_le _,ts,p,rfl,h⟩
theorem XW {l:List Ext} (h:eV l=true):l≠[]:=by
 rintro rfl
 cases h
theorem PX (h:Rest b s p ts) (e:(Sb b s).2.c=0):∃r q,ts=Wz (Sb b s).1++r∧Rest b (Sb b s).2 q r:=by
 unfold Sb at e⊢
 rcases dK (k:=true) (n:=3) h with⟨x,r,rfl,y,z,k3,u,A,k6,o,j⟩|f
 ·rw[k6] at e⊢
  simp only at e⊢
  rw[o] at e⊢
  obtain⟨w,l,m⟩:=Ik e
  obtain⟨i,g⟩:=PQ l
  rw[m]
  refine⟨r,_,?_,j⟩
  unfold Wz
  rw[Ai (XW i),←g]
  obtain⟨a,v,c,d⟩:=x
  grind
 ·rw[f];exact⟨ts,p,rfl,h⟩
set_option maxHeartbeats 400000
theorem vU:(Mg k n s).2.c=s.c:=by
 grind [Mg]
theorem fu (h:(Nz b s).2.c=0):s.c=0:=by
 grind [Nz,vU,Mg,Ik]
theorem PY (h:(Kn n b s).2.c=0):s.c=0:=by
 grind [Kn,vU,Mg,dcB,bod,Ik]
theorem fx (h:(Sb b s).2.c=0):s.c=0:=by
 grind [Sb,vU,Mg,Ik]
theorem BI (h:(nmO b).2.1=0) (d:b.length≤2147483600):nmV (nmO b).1=true∧b=nmE (nmO b).1:=by
 unfold nmO at h⊢
 cases a:(nmR b).1 with
 |some n=>exact kO a d
 |none=>exact Bg h (vC b a).1
theorem qK (h:(H1 b).c=0) (j:b.length≤2147483600):∃q ts,Rest b (H1 b) q ts∧b=Ei 0 16 true (tvsE ts)∧b.drop q=tvsE ts∧b.length=q+(tvsE ts).length∧Dn b 0 16=⟨els q ts,0,0⟩:=by
 unfold H1 at h⊢
 split at h
 ·rename_i k;exact Bg h k
 rename_i k
 rw[Ai k]
 obtain⟨q,ts,d,g,a,e,i,f⟩:=Qt (As.1 k)
 exact⟨q,ts,⟨rfl,by rw[a],d,e,Aa⟩,g,i,f,a⟩
structure TbsF (b:List UInt8) (t:Tbs):Prop where
 e:b=la t
 ok:∀x∈t.tvs,x.ok
 ver:t.ver≤2
 u1:t.iu≤255
 u2:t.su≤255
 uk:t.key.u≤255
 na:t.na.sm
 nb:t.nb.sm
theorem fy {v:Nat} (h:Rest b s p ts) (e:Nz b s=(v,s')) (a:s'.c=0):v≤2∧∃r q,ts=lD v++r∧Rest b s' q r:=by
 grind [PV]
theorem PZ {l:List UInt8} {u:Nat} (h:Rest b s p ts) (e:Kn n b s=((k,l,u),s')) (a:s'.c=0):u≤255∧∃r q,ts=O7 n k l u++r∧Rest b s' q r:=by
 grind [PW]
theorem g8 {x:List Ext} (h:Rest b s p ts) (e:Sb b s=(x,s')) (a:s'.c=0):∃r q,ts=Wz x++r∧Rest b s' q r:=by
 grind [PX]
theorem QA {t:Tbs} (e:Mh b=(t,s)) (T:s.c=0) (hl:b.length≤2147483600) (hn:s.l=[]):TbsF b t:=by
 unfold Mh at e
 generalize d:Nz b (H1 b)=p at e
 obtain⟨v,P⟩:=p
 simp only at e
 generalize h2:E5 b [] M3 P=p at e
 obtain⟨se,s2⟩:=p
 simp only at e
 generalize U:E5 b .z Ju s2=p at e
 obtain⟨sg,W⟩:=p
 simp only at e
 generalize h4:E5 b [] nmO W=p at e
 obtain⟨Y,L⟩:=p
 simp only at e
 generalize h5:E5 b (.z,.z) Il L=p at e
 obtain⟨⟨na,F⟩,s5⟩:=p
 simp only at e
 generalize Z:E5 b [] nmO s5=p at e
 obtain⟨su,J⟩:=p
 simp only at e
 generalize h7:E5 b .z O6 J=p at e
 obtain⟨i,s7⟩:=p
 simp only at e
 generalize h8:Kn 1 b s7=p at e
 obtain⟨⟨R,I,K⟩,s8⟩:=p
 simp only at e
 generalize C:Kn 2 b s8=p at e
 obtain⟨⟨b2,Q,E⟩,N⟩:=p
 simp only at e
 generalize g:Sb b N=p at e
 obtain⟨ex,s10⟩:=p
 simp only at e
 obtain⟨rfl,rfl⟩:=Prod.mk.inj e
 have z:N.c=0:=fx (by rw[g];exact T)
 have c8:s8.c=0:=PY (by rw[C];exact z)
 have c7:s7.c=0:=PY (by rw[h8];exact c8)
 have X:J.c=0:=(Ld (by rw[h7];exact c7)).1
 have c5:s5.c=0:=(Ld (by rw[Z];exact X)).1
 have B:L.c=0:=(Ld (by rw[h5];exact c5)).1
 have c3:W.c=0:=(Ld (by rw[h4];exact B)).1
 have c2:s2.c=0:=(Ld (by rw[U];exact c3)).1
 have c1:P.c=0:=(Ld (by rw[h2];exact c2)).1
 have c0:(H1 b).c=0:=fu (by rw[d];exact c1)
 obtain⟨q,ts,R0,hb,-,hlen,-⟩:=qK c0 hl
 have l:=R0.ok
 obtain⟨v1,r1,q1,e1,R1⟩:=fy R0 d c1
 obtain⟨x2,r2,e2,o2,y2,k2,a2,R2⟩:=Kv R1 h2 c2
 obtain⟨A,r3,e3,o3,y3,k3,a3,R3⟩:=Kv R2 U c3
 obtain⟨y,r4,e4,o4,y4,k4,a4,R4⟩:=Kv R3 h4 B
 obtain⟨x5,r5,e5,o5,y5,k5,a5,R5⟩:=Kv R4 h5 c5
 obtain⟨w,r6,e6,o6,y6,k6,a6,R6⟩:=Kv R5 Z X
 obtain⟨x7,r7,e7,o7,y7,k7,a7,R7⟩:=Kv R6 h7 c7
 obtain⟨u8,r8,q8,e8,R8⟩:=PZ R7 h8 c8
 obtain⟨u9,r9,q9,e9,R9⟩:=PZ R8 C z
 obtain⟨f,q10,o,j⟩:=g8 R9 g T
 have h:f=[]:=by
  have d:=j.l
  rw[hn] at d
  cases f with
  |nil=>rfl
  |cons x r=>cases d
 have H:∀x∈ts,x.enc.length≤2147483600:=fun x hx=>by have:=PT hx;omega
 obtain⟨-,m1,-,m2,m3⟩:=HU k5
 obtain⟨-,O,m5⟩:=PN k7
 rw[←a5] at m1 m2 m3
 rw[←a7] at O m5
 have a:ts=lD v++(x2::A::y::x5::w::x7::(O7 1 R I K++(O7 2 b2 Q E++(Wz ex++[])))):=by rw[e1,e2,e3,e4,e5,e6,e7,e8,e9,o,h]
 have u:=H y (by rw[a];simp)
 have m:=H w (by rw[a];simp)
 have g2:x2=⟨0,2,false,se⟩:=by rw[a2];exact W1 o2 Aa Aa y2 (qI k2)
 have g3:A=S3 sg:=by rw[a3];exact W1 o3 Aa Aa y3 (dI k3).2
 have g4:y=nmT Y:=by rw[a4];exact W1 o4 Aa Aa y4 (BI k4 u).2
 have g5:x5=⟨0,16,true,tmE na++tmE F⟩:=W1 o5 Aa Aa y5 m3
 have g6:w=nmT su:=by rw[a6];exact W1 o6 Aa Aa y6 (BI k6 m).2
 have g7:x7=⟨0,16,true,Rl i.a++Ei 0 3 false (O5 i.l i.u)⟩:=W1 o7 Aa Aa y7 m5
 have et:ts=Tbs.tvs ⟨v,se,sg,Y,na,F,su,i,R,I,K,b2,Q,E,ex⟩:=by
  rw[a,g2,g3,g4,g5,g6,g7,Am]
  rfl
 exact⟨by rw[hb,et];rfl,by rw[←et];exact l,v1,u8,u9,O,m1,m2⟩
structure Cer where
 t:Tbs
 a:Alg
 l:List UInt8
 u:Nat
def Cer.z:Cer:=⟨.z,.z,[],0⟩
def O8 (c:Cer):List Tv:=[⟨0,16,true,tvsE c.t.tvs⟩,S3 c.a,⟨0,3,false,O5 c.l c.u⟩]
def IA (V:Tbs→Bool) (b:List UInt8):Cer×Src:=match E5 b .z (M4 V) (H1 b) with
 |(t,s1)=>match E5 b .z Ju s1 with
 |(a,s2)=>match E5 b ([],0) Sa s2 with
 |((l,u),s3)=>(⟨t,a,l,u⟩,s3)
def Rn (V:Tbs→Bool) (b:List UInt8):Cer×Nat×Nat:=match IA V b with
 |(c,s)=>match P7 b (decide (c.a=c.t.sig)) s with
 |⟨_,k,o⟩=>if k≠0 then(.z,k,o) else(c,0,0)
theorem QB (h:(M4 V b).2.1=0) (i:b.length≤2147483600):V (M4 V b).1=true∧TbsF b (M4 V b).1:=by
 unfold M4 at h⊢
 generalize d:Mh b=p at h⊢
 obtain⟨t,s⟩:=p
 simp only at h⊢
 generalize j:P7 b (V t) s=q at h⊢
 obtain⟨l,k,o⟩:=q
 simp only at h⊢
 split at h
 ·rename_i a;exact Bg h a
 rename_i a
 rw[Ai a]
 obtain⟨e,g,f⟩:=BH (b:=b) (v:=V t) (s:=s) (by rw[j];exact As.1 a)
 exact⟨e,QA d g i f⟩
theorem g9 (h:(Rn V b).2.1≠0):(Rn V b).1= .z:=by
 unfold Rn at h⊢
 grind
structure CerF (V:Tbs→Bool) (b:List UInt8) (q:Nat) (c:Cer):Prop where
 v:V c.t=true
 a:c.a=c.t.sig
 e:b=Ei 0 16 true (tvsE (O8 c))
 ok:∀x∈O8 c,x.ok
 d:b.drop q=tvsE (O8 c)
 n:b.length=q+(tvsE (O8 c)).length
 p:Dn b 0 16=⟨els q (O8 c),0,0⟩
 t:TbsF (la c.t) c.t
 u:c.u≤255
 s:Jd c.l c.u=true
 av:X8 c.a=true
theorem QC (h:(Rn V b).2.1=0) (hl:b.length≤2147483600):∃q,CerF V b q (Rn V b).1:=by
 unfold Rn at h⊢
 generalize d:IA V b=p at h⊢
 obtain⟨c,s⟩:=p
 simp only at h⊢
 generalize R:P7 b (decide (c.a=c.t.sig)) s=w at h⊢
 obtain⟨l,k,o⟩:=w
 simp only at h⊢
 split at h
 ·rename_i f;exact Bg h f
 rename_i f
 rw[Ai f]
 obtain⟨g,L,hn⟩:=BH (b:=b) (v:=decide (c.a=c.t.sig)) (s:=s) (by rw[R];exact As.1 f)
 rw[A3] at g
 clear R f h
 unfold IA at d
 generalize Z:E5 b .z (M4 V) (H1 b)=p at d
 obtain⟨t,O⟩:=p
 simp only at d
 generalize U:E5 b .z Ju O=p at d
 obtain⟨a,s2⟩:=p
 simp only at d
 generalize P:E5 b ([],0) Sa s2=p at d
 obtain⟨⟨bl,W⟩,s3⟩:=p
 simp only at d
 obtain⟨rfl,rfl⟩:=Prod.mk.inj d
 have F:s2.c=0:=(Ld (by rw[P];exact L)).1
 have J:O.c=0:=(Ld (by rw[U];exact F)).1
 have c0:(H1 b).c=0:=(Ld (by rw[Z];exact J)).1
 obtain⟨q,ts,E,hb,H,e,X⟩:=qK c0 hl
 have j:=E.ok
 obtain⟨y,r1,f1,o1,y1,f,a1,R1⟩:=Kv E Z J
 obtain⟨Q,r2,f2,o2,y2,k2,a2,R2⟩:=Kv R1 U F
 obtain⟨B,N,f3,o3,y3,k3,a3,R3⟩:=Kv R2 P L
 have u:N=[]:=by
  have g:=R3.l
  rw[hn] at g
  cases N with
  |nil=>rfl
  |cons x r=>cases g
 have i:ts=[y,Q,B]:=by rw[f1,f2,f3,u]
 have z:y.enc.length≤2147483600:=by have:=PT (x:=y) (ts:=ts) (by rw[i];simp);omega
 obtain⟨K,m⟩:=QB f z
 obtain⟨I,A⟩:=dI k2
 obtain⟨T,Y,C⟩:=PS k3
 rw[←a1] at K m
 rw[←a2] at I A
 rw[←a3] at T Y C
 have t1:y=⟨0,16,true,tvsE t.tvs⟩:=W1 o1 Aa Aa y1 m.e
 have t2:Q=S3 a:=W1 o2 Aa Aa y2 A
 have t3:B=⟨0,3,false,O5 bl W⟩:=W1 o3 Aa Aa y3 C
 have et:ts=O8 ⟨t,a,bl,W⟩:=by rw[i,t1,t2,t3];rfl
 rw[et] at hb H e X j
 rw[m.e] at m
 exact⟨q,K,g,hb,j,H,e,X,m,Y,T,I⟩
def s8 (x:UInt8):Int:=if x.toNat<128 then(x.toNat:Int) else(x.toNat:Int)-256
def qL (n:Int) (l:List UInt8):Int:=l.foldl (fun n x=>n*256+(x.toNat:Int)) n
def Oc (c:List UInt8):Int×Bool:=match c with
 |[]=>(0,false)
 |x::r=>if(!T6 c||decide (8<c.length))=true then(0,false) else(qL (s8 x) r,true)
def Uc (c:List UInt8):Int×Bool:=((Oc c).1,(Oc c).2&&(decide (0≤(Oc c).1)&&decide ((Oc c).1≤2147483647)))
def O9 {α:Type} (z:α) (b:List UInt8) (x:El) (c n:Nat) (d:List UInt8→α×Bool):α×Bool:=if x.isB c n false=false then(z,false) else if(d (bod b x)).2=false then(z,false) else((d (bod b x)).1,true)
def eW (c:List UInt8):Bool×Bool:=(c==[255],c==[255])
def lc (b:List UInt8) (l:List El):(Bool×Bool×Int)×Nat×Nat:=match l with
 |[]=>((false,false,0),0,0)
 |x::r=>if(O9 false b x 0 1 eW).2=false then((false,false,0),6,x.at') else match r with
  |[]=>(((O9 false b x 0 1 eW).1,false,0),0,0)
  |y::s=>if(O9 0 b y 0 2 Uc).2=false then((false,false,0),6,y.at') else match s with
   |[]=>(((O9 false b x 0 1 eW).1,true,(O9 0 b y 0 2 Uc).1),0,0)
   |z::_=>((false,false,0),2,z.at')
def XX (b:List UInt8):(Bool×Bool×Int)×Nat×Nat:=if(Dn b 0 16).code≠0 then((false,false,0),(Dn b 0 16).code,(Dn b 0 16).off) else lc b (Dn b 0 16).l
def vV (b:List UInt8):List El→Int→Bool×Int→Bool×Int→((Bool×Int)×(Bool×Int))×Nat×Nat
 |[],last,r,i=>if last<0 then(((false,0),(false,0)),1,b.length) else((r,i),0,0)
 |y::l,last,r,i=>if(!(O9 0 b y 2 y.n Uc).2||(decide (1<y.n)||decide ((y.n:Int)≤last)))=true then(((false,0),(false,0)),6,y.at') else
  if y.n=0 then vV b l y.n (true,(O9 0 b y 2 y.n Uc).1) i else vV b l y.n r (true,(O9 0 b y 2 y.n Uc).1)
def XY (b:List UInt8):((Bool×Int)×(Bool×Int))×Nat×Nat:=if(Dn b 0 16).code≠0 then(((false,0),(false,0)),(Dn b 0 16).code,(Dn b 0 16).off) else vV b (Dn b 0 16).l (-1) (false,0) (false,0)
def dL {α:Type} (z:α) (b:List UInt8) (d:List UInt8→α×Bool):α×Nat×Nat:=if(Em b).code≠0 then(z,(Em b).code,(Em b).off) else if(O9 z b (Em b).x 0 2 d).2=false then(z,6,(Em b).x.body) else((O9 z b (Em b).x 0 2 d).1,0,0)
def XZ (b:List UInt8):Int×Nat×Nat:=dL 0 b Uc
def IB (c:List UInt8):Bool:=match c with
 |[]=>true
 |x::_=>decide (x.toNat<128)
def YA (c:List UInt8):Bool:=T6 c&&(decide (c.length≤20)&&IB c)
def QD (b:List UInt8):List UInt8×Nat×Nat:=dL [] b fun c=>(c,YA c)
def YB (b:List UInt8):Nat×Nat×Nat:=if(Em b).code≠0 then(0,(Em b).code,(Em b).off) else if(Em b).x.isB 0 3 false=false then(0,3,0) else match Wv (bod b (Em b).x) with
 |none=>(0,6,(Em b).x.body)
 |some s=>if s=0 then(0,6,(Em b).x.body) else(s,0,0)
def IC (b:List UInt8):List El→List (List UInt8)→List (List UInt8)×Nat×Nat
 |[],a=>if a=[] then([],1,b.length) else(a,0,0)
 |x::r,a=>if x.isB 0 6 false=false then([],3,x.at') else if odC (bod b x)≠0 then([],odC (bod b x),x.body) else IC b r (a++[odT (bod b x)])
def YC (b:List UInt8):List (List UInt8)×Nat×Nat:=if(Dn b 0 16).code≠0 then([],(Dn b 0 16).code,(Dn b 0 16).off) else IC b (Dn b 0 16).l []
def lf (c:List UInt8):Int×Bool:=if((Oc c).2&&(decide (0≤(Oc c).1)&&(decide ((Oc c).1≤10)&& !((Oc c).1==7))))=true then((Oc c).1,true) else(0,false)
def YD {α:Type} (z:α) (b:List UInt8) (n:Nat) (d:List UInt8→α×Bool):α×Nat×Nat:=if(Em b).code≠0 then(z,(Em b).code,(Em b).off) else if(Em b).x.isB 0 n false=false then(z,3,0) else if(d (bod b (Em b).x)).2=false then((d (bod b (Em b).x)).1,6,(Em b).x.body) else((d (bod b (Em b).x)).1,0,0)
def YE (b:List UInt8):Int×Nat×Nat:=YD 0 b 10 lf
def YF (b:List UInt8):Tm×Nat×Nat:=YD .z b 24 fun c=>((dH c).getD .z,(dH c).isSome)
def Kb (b:List UInt8):List UInt8×Bool:=if(!((Em b).code==0)|| !(Em b).x.isB 0 6 false)=true then([],false) else(odT (bod b (Em b).x),odC (bod b (Em b).x)==0)
def X9 (b:List UInt8) (lo hi:Nat):Option (List El):=if(Dn b 0 16).code≠0 then none else if(Dn b 0 16).l.length<lo∨hi<(Dn b 0 16).l.length then none else some (Dn b 0 16).l
def QE (b:List UInt8):Option (List UInt8×List UInt8):=match X9 b 2 2 with
 |some [x,y]=>if((Kb (elO b x)).2&&Gt (elO b y))=true then some ((Kb (elO b x)).1,elO b y) else none
 |_=>none
def dM (b:List UInt8):List El→Option (List (List UInt8×List UInt8))
 |[]=>some []
 |x::r=>match QE (elO b x) with
  |none=>none
  |some q=>(dM b r).map (q:: ·)
def QF (b:List UInt8):Option (List UInt8×List (List UInt8×List UInt8)):=match X9 b 1 2 with
 |some [x]=>if(Kb (elO b x)).2=true then some ((Kb (elO b x)).1,[]) else none
 |some [x,y]=>if(Kb (elO b x)).2=true then(match X9 (elO b y) 1 2147483647 with
  |none=>none
  |some l=>(dM (elO b y) l).map fun q=>((Kb (elO b x)).1,q)) else none
 |_=>none
def dN (b:List UInt8):List El→Option (List (List UInt8×List (List UInt8×List UInt8)))
 |[]=>some []
 |x::r=>match QF (elO b x) with
  |none=>none
  |some q=>(dN b r).map (q:: ·)
def Um:List (List UInt8)→List (List UInt8×List (List UInt8×List UInt8))→Bool
 |_,[]=>true
 |s,p::r=>if(!H7 p.1||s.contains p.1)=true then false else if(p.2.any fun q=> !H7 q.1|| !Gt q.2)=true then false else Um (p.1::s) r
def hX (b:List UInt8):Option (List (List UInt8×List (List UInt8×List UInt8))):=match X9 b 1 2147483647 with
 |none=>none
 |some l=>match dN b l with
  |none=>none
  |some p=>if(Um [] p&& !p.isEmpty)=true then some p else none
def QG (b:List UInt8):Option (List UInt8×List UInt8):=match X9 b 2 2 with
 |some [x,y]=>if((Kb (elO b x)).2&&(Kb (elO b y)).2)=true then some ((Kb (elO b x)).1,(Kb (elO b y)).1) else none
 |_=>none
def dO (b:List UInt8):List El→Option (List (List UInt8×List UInt8))
 |[]=>some []
 |x::r=>match QG (elO b x) with
  |none=>none
  |some q=>(dO b r).map (q:: ·)
abbrev od:List UInt8:=[50,46,53,46,50,57,46,51,50,46,48]
def P8 (s:List UInt8):Bool:=H7 s&& !(s==od)
def iA (b:List UInt8):Option (List (List UInt8×List UInt8)):=match X9 b 1 2147483647 with
 |none=>none
 |some l=>match dO b l with
  |none=>none
  |some p=>if(!p.isEmpty&&p.all fun m=>P8 m.1&&P8 m.2)=true then some p else none
theorem YG {n m:Int} (h:n%18446744073709551616=m%18446744073709551616):IntKind.i64.wrap n=IntKind.i64.wrap m:=by
 have e:∀n:Int,IntKind.i64.wrap n=if(true&&decide (n%18446744073709551616≥9223372036854775808))=true then n%18446744073709551616-18446744073709551616 else n%18446744073709551616:=fun n=>rfl
 rw[e,e,h]
theorem or8 {q:Int} {x:Nat} (d:x<256) (f: -9223372036854775808≤q*256) (g:q*256<9223372036854775808):IntKind.i64.wrap ((BitVec.ofInt 64 (q*256)|||BitVec.ofInt 64 (x:Int)).toNat:Int)=q*256+x:=by
 have a:(BitVec.ofInt 64 (q*256)).toNat=(q%72057594037927936).toNat*256:=by
  rw[BitVec.toNat_ofInt]
  omega
 have c:(BitVec.ofInt 64 (x:Int)).toNat=x:=by
  rw[BitVec.toNat_ofInt]
  omega
 rw[BitVec.toNat_or,a,c]
 have e:(q%72057594037927936).toNat*256|||x=(q%72057594037927936).toNat*256+x:=by
  have:=Nat.shiftLeft_add_eq_or_of_lt (i:=8) (b:=x) d (q%72057594037927936).toNat
  rw[Nat.shiftLeft_eq] at this
  exact this.symm
 rw[e,YG (m:=q*256+x) Aa]
 exact Bl _ Aa
def ce (l:List UInt8):List UInt8:=[50,46,53,46,50,57,46]++l
def ID:List (Nat×List UInt8):=[(9,ce [57]),(14,ce [49,52]),(15,ce [49,53]),(17,ce [49,55]),(18,ce [49,56]),(19,ce [49,57]),(20,ce [50,48]),(21,ce [50,49]),(24,ce [50,52]),(27,ce [50,55]),(28,ce [50,56]),(29,ce [50,57]),(30,ce [51,48]),(31,ce [51,49]),(32,ce [51,50]),(33,ce [51,51]),(35,ce [51,53]),(36,ce [51,54]),(37,ce [51,55]),(46,ce [52,54]),(54,ce [53,52]),
 (101,[49,46,51,46,54,46,49,46,53,46,53,46,55,46,49,46,49]),(111,[49,46,51,46,54,46,49,46,53,46,53,46,55,46,49,46,49,49])]
def qM (id:List UInt8):Nat:=((ID.find? fun p=>p.2==id).map (·.1)).getD 0
def YH (b:List UInt8):Nat:=if(Dn b 0 16).code≠0 then(Dn b 0 16).code else match Pe b (Dn b 0 16).l with
 |(none,_)=>6
 |(some [],_)=>1
 |(some _,_)=>0
def Y0 (b:List UInt8):Nat:=if(Dn b 0 16).code≠0 then(Dn b 0 16).code else match Kk b (Dn b 0 16).l with
 |(none,_)=>6
 |(some [],_)=>1
 |(some _,_)=>0
def Np (k:Nat) (b:List UInt8):Bool:=match k with
 |9=>YH b==0
 |14=>(psS b).2.1==0
 |15=>(YB b).2.1==0
 |17=>(X4 b).1.isSome
 |18=>(X4 b).1.isSome
 |19=>(XX b).2.1==0
 |20=>(QD b).2.1==0
 |21=>(YE b).2.1==0
 |24=>(YF b).2.1==0
 |27=>(QD b).2.1==0
 |28=>(isP b).1.isSome
 |29=>(X4 b).1.isSome
 |30=>(sbO b).1.isSome
 |31=>(pU b).1.isSome
 |32=>(hX b).isSome
 |33=>(iA b).isSome
 |35=>(kyO b).1.isSome
 |36=>(XY b).2.1==0
 |37=>(YC b).2.1==0
 |46=>(pU b).1.isSome
 |54=>(XZ b).2.1==0
 |101=>Y0 b==0
 |111=>Y0 b==0
 |_=>true
def dP (x:Ext):Bool:=H7 x.oid&&Np (qM x.oid) x.val
def qN (h:Bool) (l:List UInt8) (u v:Nat):Bool:=if h=true then decide (1≤v)&&Jd l u else(l==[])&&u==0
def S4 (t:Tbs):Bool:=
 if(decide (2<t.ver)||(decide (20<t.ser.length)|| !T6 t.ser))=true then false else
 if(!X8 t.sig||((t.iss==[])||(!nmV t.iss||(!t.na.ok|| !t.nb.ok))))=true then false else
 if(!nmV t.sub||(!qG t.key||(!qN t.hi t.il t.iu t.ver|| !qN t.hs t.sl t.su t.ver)))=true then false else
 if t.ext=[] then true else t.ver==2&&(eV t.ext&&t.ext.all dP)
def J7 (b:List UInt8) (f t:Nat):List El:=if(F7 b (f+(Em ((b.drop f).take (t-f))).x.body) t).code≠0 then [] else(F7 b (f+(Em ((b.drop f).take (t-f))).x.body) t).l
theorem vW {f t:Nat} (i:(⟨c,n,k,tvsE ts⟩:Tv).ok) (g:∀x∈ts,x.ok) (h:(b.drop f).take (t-f)=(⟨c,n,k,tvsE ts⟩:Tv).enc) (m:t=f+(⟨c,n,k,tvsE ts⟩:Tv).enc.length) (j:t≤b.length):J7 b f t=els (f+(⟨c,n,k,tvsE ts⟩:Tv).hd) ts:=by
 unfold J7
 rw[h,Nk i]
 have o:=Tv.len ⟨c,n,k,tvsE ts⟩
 have d:=Tv.body ⟨c,n,k,tvsE ts⟩
 generalize e:(⟨c,n,k,tvsE ts⟩:Tv)=u at*
 have l:u.v=tvsE ts:=by rw[←e]
 have a:(b.take (f+u.hd)).length=f+u.hd:=by rw[Ec];omega
 have key:b.take t=b.take (f+u.hd)++tvsE ts:=by
  rw[←l,←d,←h,C2,C3]
  conv=>lhs;rw[show t=(f+u.hd)+(t-f-u.hd) by omega,List.take_add]
 have:=Qo ts b (b.take (f+u.hd)) t g key j
 rw[a] at this
 simp only[Tv.el,A0]
 rw[this,Ai Ab]
abbrev rgV (a z:Nat):Value:= .agg #[.int .i64 a,.int .i64 z]
def Ro (M:Lit→Option Value) (nm:List UInt8):List El→Lit→Option Value
 |[]=>M
 |x::_=>F6 M (.string nm) (rgV x.at' x.stop)
def Za (b:List UInt8) (M:Lit→Option Value) (nm:List UInt8):List El→Lit→Option Value
 |[]=>M
 |x::_=>Ro M nm (J7 b x.at' x.stop)
def Jr (l:List El) (n:Nat):Bool:=match l with
 |[]=>false
 |x::_=>x.c==2&&x.n==n
abbrev IE:List UInt8:=[116,98,115]
abbrev IF:List UInt8:=[97,108,103,111,114,105,116,104,109]
abbrev IG:List UInt8:=[118,97,108,117,101]
abbrev Zb:List UInt8:=[118,101,114,115,105,111,110]
abbrev Sc:List UInt8:=[105,115,115,117,101,114,73,68]
abbrev Sd:List UInt8:=[115,117,98,106,101,99,116,73,68]
abbrev Ia:List UInt8:=[101,120,116,101,110,115,105,111,110,115]
abbrev Rp:List UInt8:=[101,120,116,101,110,115,105,111,110,47]
abbrev six:List (List UInt8):=[[115,101,114,105,97,108],[115,105,103,110,97,116,117,114,101],[105,115,115,117,101,114],[118,97,108,105,100,105,116,121],[115,117,98,106,101,99,116],[107,101,121]]
def J9:(Lit→Option Value)→List (List UInt8)→List El→(Lit→Option Value)×List El
 |M,[],l=>(M,l)
 |M,nm::r,l=>J9 (Ro M nm l) r l.tail
def Nq (l:List El):Lit→Option Value:=(J9 (fun _=>none) [IE,IF,IG] l).1
def Pa (M:Lit→Option Value):List El→List Ext→Lit→Option Value
 |x::r,e::s=>Pa (F6 M (.string (Rp++e.oid)) (rgV x.at' x.stop)) r s
 |_,_=>M
def Pb (t:Bool) (M M':Lit→Option Value) (l:List El):(Lit→Option Value)×List El:=if t=true then(M',l.tail) else(M,l)
def rgF:Value→Nat×Nat
 | .agg ⟨[.int _ a,.int _ z]⟩=>(a.toNat,z.toNat)
 |_=>(0,0)
def qO (b:List UInt8) (M:Lit→Option Value) (l:List Ext):Lit→Option Value:=match M (.string Ia) with
 |none=>M
 |some v=>Pa M (J7 b (rgF v).1 (rgF v).2) l
def Vc (b:List UInt8) (c:Cer) (l0 l1:List El):Lit→Option Value:=
 let v:=Pb (Jr l1 0) (Nq l0) (Za b (Nq l0) Zb l1) l1
 let s:=J9 v.1 six v.2
 let i:=Pb (Jr s.2 1) s.1 (Ro s.1 Sc s.2) s.2
 let j:=Pb (Jr i.2 2) i.1 (Ro i.1 Sd i.2) i.2
 let x:=Pb (Jr j.2 3) j.1 (Za b j.1 Ia j.2) j.2
 qO b x.1 c.t.ext
theorem Hl (M:Lit→Option Value) (s:List UInt8) (v:Value):F6 M (.string s) v (.string s)=some v:=by
 unfold F6
 rw[show(Lit.string s).sameKey (.string s)=true from WideAt.sameKey_self trivial];rfl
theorem Ft {s s':List UInt8} {v:Value} (h:s'≠s):F6 M (.string s) v (.string s')=M (.string s'):=by
 unfold F6
 rw[show(Lit.string s').sameKey (.string s)=false from beq_false_of_ne h];rfl
theorem lE {s s':List UInt8} (h:s'≠s):∀l:List El,Ro M s l (.string s')=M (.string s')
 |[]=>rfl
 |_::_=>Ft h
theorem BJ {s s':List UInt8} (h:s'≠s):∀l:List El,Za b M s l (.string s')=M (.string s')
 |[]=>rfl
 |_::_=>lE h _
theorem YI {t:Bool} {a:Lit→Option Value} {l:List El} {k:Lit} (h:a k=M k):(Pb t M a l).1 k=M k:=by
 unfold Pb
 split
 ·exact h
 ·rfl
theorem BK {s':List UInt8} (h:∀o,s'≠Rp++o):∀(M:Lit→Option Value) (l:List El) (m:List Ext),Pa M l m (.string s')=M (.string s')
 |M,[],_=>by unfold Pa;rfl
 |M,_::_,[]=>by unfold Pa;rfl
 |M,x::r,e::s=>by
  unfold Pa
  rw[BK h]
  exact Ft (h _)
theorem YJ {s':List UInt8} (h:∀o,s'≠Rp++o) (M:Lit→Option Value) (l:List Ext):qO b M l (.string s')=M (.string s'):=by
 unfold qO
 cases M (.string Ia) with
 |none=>rfl
 |some v=>exact BK h _ _ _
theorem IH {c:Cer} {d a:List El} {s:List UInt8} (e:s≠Sc) (h:s≠Sd) (f:s≠Ia) (g:∀o,s≠Rp++o):
 Vc b c d a (.string s)=(J9 (Pb (Jr a 0) (Nq d) (Za b (Nq d) Zb a) a).1 six (Pb (Jr a 0) (Nq d) (Za b (Nq d) Zb a) a).2).1 (.string s):=by
 unfold Vc
 grind [YJ,YI,BJ,lE]
theorem lg {s:List UInt8} (h:s.take 10≠Rp):∀o,s≠Rp++o:=fun o e=>h (by rw[e];rfl)
theorem dQ (x y z:Tv):tvsE [x,y,z]=x.enc++(y.enc++z.enc):=by
 simp only[tvsE,A4,List.flatMap_nil,Am]
abbrev Jy (t:Tbs):Tv:=⟨0,16,true,tvsE t.tvs⟩
theorem YK {c:Cer} (h:CerF V b q c) (e:b.length≤2147483600):(⟨0,16,true,tvsE (O8 c)⟩:Tv).ok∧b=(⟨0,16,true,tvsE (O8 c)⟩:Tv).enc∧(⟨0,16,true,tvsE (O8 c)⟩:Tv).hd=q:=by
 have d:=h.n
 have a:b=(⟨0,16,true,tvsE (O8 c)⟩:Tv).enc:=h.e
 refine⟨⟨by show(0:Nat)≤3;omega,by show(16:Nat)≤30;omega,by grind⟩,a,?_⟩
 grind [Tv.len,tvsE,O8]
theorem iB {c:Cer} (h:CerF V b q c) (g:b.length≤2147483600):J7 b 0 b.length=els q (O8 c):=by
 obtain⟨a,e,d⟩:=YK h g
 have:=vW (b:=b) (f:=0) (t:=b.length) a h.ok (by grind) (by rw[←e];omega) (At _)
 rwa[d,A0] at this
theorem Nr {r:List UInt8} (h:b.drop p=x.enc++r):b.drop (p+x.enc.length)=r∧(b.drop p).take x.enc.length=x.enc:=by
 grind [List.drop_drop,List.drop_left,List.take_left]
theorem QH {c:Cer} (h:CerF V b q c):J7 b q (q+(Jy c.t).enc.length)=els (q+(Jy c.t).hd) c.t.tvs∧b.drop (q+(Jy c.t).hd)=tvsE c.t.tvs++((S3 c.a).enc++(⟨0,3,false,O5 c.l c.u⟩:Tv).enc)∧b.length=q+(Jy c.t).hd+(tvsE c.t.tvs).length+((S3 c.a).enc.length+(⟨0,3,false,O5 c.l c.u⟩:Tv).enc.length):=by
 have f:=h.d
 have d:=h.n
 have e:tvsE (O8 c)=(Jy c.t).enc++((S3 c.a).enc++(⟨0,3,false,O5 c.l c.u⟩:Tv).enc):=dQ _ _ _
 rw[e] at f d
 have a:=Tv.len (Jy c.t)
 rw[En,En] at d
 refine⟨vW (h.ok _ (by unfold O8;simp)) h.t.ok (by simp_all) rfl Aa,?_,by simp only at a;omega⟩
 rw[←C3,f,List.drop_append_of_le_length Aa,Tv.body]
structure LocF (b:List UInt8) (c:Cer) (M:Lit→Option Value) (p:Nat→Nat):Prop where
 s0:M (.string [115,101,114,105,97,108])=some (rgV (p 0) (p 1))
 s1:M (.string [115,105,103,110,97,116,117,114,101])=some (rgV (p 1) (p 2))
 s2:M (.string [105,115,115,117,101,114])=some (rgV (p 2) (p 3))
 s3:M (.string [118,97,108,105,100,105,116,121])=some (rgV (p 3) (p 4))
 s4:M (.string [115,117,98,106,101,99,116])=some (rgV (p 4) (p 5))
 s5:M (.string [107,101,121])=some (rgV (p 5) (p 6))
 a:M (.string IF)=some (rgV (p 7) (p 8))
 v:M (.string IG)=some (rgV (p 8) b.length)
 lt:∀i,i<6→p i<p (i+1)
 n:p 6≤b.length
 o7:p 7<p 8
 o8:p 8≤b.length
 e1:(b.drop (p 1)).take (p 2-p 1)=Rl c.t.sig
 e7:(b.drop (p 7)).take (p 8-p 7)=Rl c.a
def lh:Nat→List Tv→Nat→Nat
 |p,_,0=>p
 |p,[],_+1=>p
 |p,x::r,i+1=>lh (p+x.enc.length) r i
theorem gm {a d f e h g:Tv} {L r:List Tv} {w:List UInt8} (i:L=a::d::f::e::h::g::r) (l:b.drop p=tvsE L++w):
 ∃q:Nat→Nat,(J9 M six (els p L)).1=F6 (F6 (F6 (F6 (F6 (F6 M (.string [115,101,114,105,97,108]) (rgV (q 0) (q 1))) (.string [115,105,103,110,97,116,117,114,101]) (rgV (q 1) (q 2))) (.string [105,115,115,117,101,114]) (rgV (q 2) (q 3))) (.string [118,97,108,105,100,105,116,121]) (rgV (q 3) (q 4))) (.string [115,117,98,106,101,99,116]) (rgV (q 4) (q 5))) (.string [107,101,121]) (rgV (q 5) (q 6))∧
  q 0=p∧q 1=q 0+a.enc.length∧q 2=q 1+d.enc.length∧q 3=q 2+f.enc.length∧q 4=q 3+e.enc.length∧q 5=q 4+h.enc.length∧q 6=q 5+g.enc.length∧(b.drop (q 1)).take (q 2-q 1)=d.enc:=by
 subst i
 have j:=Nr (x:=a) (by rw[l,Fm,Bt])
 have m:=Nr (x:=d) (by rw[j.1,Fm,Bt])
 refine⟨lh p (a::d::f::e::h::g::r),rfl,rfl,rfl,rfl,rfl,rfl,rfl,rfl,?_⟩
 show(b.drop (p+a.enc.length)).take (p+a.enc.length+d.enc.length-(p+a.enc.length))=d.enc
 grind
theorem oe {c:Cer} (h:CerF V b q c) (Q:b.length≤2147483600):∃p,LocF b c (Vc b c (J7 b 0 b.length) (J7 b q (q+(Jy c.t).enc.length))) p:=by
 obtain⟨N,f,O⟩:=QH h
 have U:=iB h Q
 have R:=h.t.ok
 rw[N,U]
 generalize hP:q+(Jy c.t).hd=P at f O⊢
 have w:=h.n
 have z:=h.d
 have E:tvsE (O8 c)=(Jy c.t).enc++((S3 c.a).enc++(⟨0,3,false,O5 c.l c.u⟩:Tv).enc):=dQ _ _ _
 rw[E] at z w
 rw[En,En] at w
 have C:=Nr z
 have F:=Nr C.1
 have ka:=N9 (h.ok (S3 c.a) (by unfold O8;simp))
 have W:∃(j:Nat) (M:Lit→Option Value),(Pb (Jr (els P c.t.tvs) 0) (Nq (els q (O8 c))) (Za b (Nq (els q (O8 c))) Zb (els P c.t.tvs)) (els P c.t.tvs))=(M,els j (Rm c.t++(O7 1 c.t.hi c.t.il c.t.iu++(O7 2 c.t.hs c.t.sl c.t.su++Wz c.t.ext))))∧(∀s,s≠Zb→M (.string s)=Nq (els q (O8 c)) (.string s))∧b.drop j=tvsE (Rm c.t++(O7 1 c.t.hi c.t.il c.t.iu++(O7 2 c.t.hs c.t.sl c.t.su++Wz c.t.ext)))++((S3 c.a).enc++(⟨0,3,false,O5 c.l c.u⟩:Tv).enc)∧P≤j:=by
  unfold Tbs.tvs lD at f⊢
  by_cases y:c.t.ver=0
  ·rw[Aj y,Ap] at f⊢
   exact⟨P,_,rfl,fun _ _=>rfl,f,At _⟩
  ·rw[Ai y,Ak,Ap] at f⊢
   rw[Fm,Bt] at f
   exact⟨_,_,rfl,fun s K=>BJ K _,(Nr f).1,Nat.le_add_right _ _⟩
 obtain⟨j,M,B,H,A,r4⟩:=W
 have e:∀{s:List UInt8},s≠Sc→s≠Sd→s≠Ia→s.take 10≠Rp→Vc b c (els q (O8 c)) (els P c.t.tvs) (.string s)=(J9 M six (els j (Rm c.t++(O7 1 c.t.hi c.t.il c.t.iu++(O7 2 c.t.hs c.t.sl c.t.su++Wz c.t.ext))))).1 (.string s):=by
  intro s m r k3 o
  rw[IH m r k3 (lg o),B]
 have a:∀x∈Rm c.t,x.ok:=fun x I=>R x (by unfold Tbs.tvs;simp[I])
 obtain⟨p,g,q0,q1,q2,q3,q4,q5,q6,X⟩:=gm (M:=M) (L:=Rm c.t++(O7 1 c.t.hi c.t.il c.t.iu++(O7 2 c.t.hs c.t.sl c.t.su++Wz c.t.ext))) rfl A
 have d:=Cf List.length A
 rw[Eh] at d
 have y0:=N9 (a _ (by unfold Rm;exact Bd))
 have y1:=N9 (a _ (by unfold Rm;exact .tail _ Bd))
 have y2:=N9 (a _ (by unfold Rm;exact .tail _ (.tail _ Bd)))
 have y3:=N9 (a _ (by unfold Rm;exact .tail _ (.tail _ (.tail _ Bd))))
 have y4:=N9 (a _ (by unfold Rm;exact .tail _ (.tail _ (.tail _ (.tail _ Bd)))))
 have y5:=N9 (a _ (by unfold Rm;exact .tail _ (.tail _ (.tail _ (.tail _ (.tail _ Bd))))))
 have Y:∀{s:List UInt8},s≠Zb→M (.string s)=Nq (els q (O8 c)) (.string s):=fun h=>H _ h
 have u:∀{s:List UInt8} {v:Value},s≠Zb→s≠[115,101,114,105,97,108]→s≠[115,105,103,110,97,116,117,114,101]→s≠[105,115,115,117,101,114]→s≠[118,97,108,105,100,105,116,121]→s≠[115,117,98,106,101,99,116]→s≠[107,101,121]→Nq (els q (O8 c)) (.string s)=some v→(J9 M six (els j (Rm c.t++(O7 1 c.t.hi c.t.il c.t.iu++(O7 2 c.t.hs c.t.sl c.t.su++Wz c.t.ext))))).1 (.string s)=some v:=by
  intro s v Z m r k3 o k5 k6 J
  rw[g,Ft k6,Ft k5,Ft o,Ft k3,Ft r,Ft m,Y Z]
  exact J
 have l:Nq (els q (O8 c))=F6 (F6 (F6 (fun _=>none) (.string IE) (rgV q (q+(Jy c.t).enc.length))) (.string IF) (rgV (q+(Jy c.t).enc.length) (q+(Jy c.t).enc.length+(S3 c.a).enc.length))) (.string IG) (rgV (q+(Jy c.t).enc.length+(S3 c.a).enc.length) (q+(Jy c.t).enc.length+(S3 c.a).enc.length+(⟨0,3,false,O5 c.l c.u⟩:Tv).enc.length)):=rfl
 rw[l] at u
 refine⟨fun i=>match i with
  |7=>q+(Jy c.t).enc.length
  |8=>q+(Jy c.t).enc.length+(S3 c.a).enc.length
  |i=>p i,?_,?_,?_,?_,?_,?_,?_,?_,?_,?_,?_,?_,?_,?_⟩
 ·rw[e Ae Ae Ae Ae,g];exact(Ft Ae).trans ((Ft Ae).trans ((Ft Ae).trans ((Ft Ae).trans ((Ft Ae).trans (Hl _ _ _)))))
 ·rw[e Ae Ae Ae Ae,g];exact(Ft Ae).trans ((Ft Ae).trans ((Ft Ae).trans ((Ft Ae).trans (Hl _ _ _))))
 ·rw[e Ae Ae Ae Ae,g];exact(Ft Ae).trans ((Ft Ae).trans ((Ft Ae).trans (Hl _ _ _)))
 ·rw[e Ae Ae Ae Ae,g];exact(Ft Ae).trans ((Ft Ae).trans (Hl _ _ _))
 ·rw[e Ae Ae Ae Ae,g];grind [Ft,trans,Hl]
 ·rw[e Ae Ae Ae Ae,g];exact Hl _ _ _
 ·rw[e Ae Ae Ae Ae]
  exact u Ae Ae Ae Ae Ae Ae Ae ((Ft Ae).trans (Hl _ _ _))
 ·rw[e Ae Ae Ae Ae]
  refine u Ae Ae Ae Ae Ae Ae Ae ((Hl _ _ _).trans ?_)
  grind
 ·intro i T
  match i,T with
  |0,_=>show p 0<p 1;omega
  |1,_=>show p 1<p 2;omega
  |2,_=>show p 2<p 3;omega
  |3,_=>show p 3<p 4;omega
  |4,_=>show p 4<p 5;omega
  |5,_=>show p 5<p 6;omega
 ·show p 6≤b.length
  unfold Rm at d
  simp only[Ak,Ap,Fm,En] at d
  omega
 ·grind
 ·grind
 ·exact X
 ·show(b.drop (q+(Jy c.t).enc.length)).take (q+(Jy c.t).enc.length+(S3 c.a).enc.length-(q+(Jy c.t).enc.length))=_
  rw[Nat.add_sub_cancel_left]
  exact F.2
end Go.Proofs.YtbedjionhmaafaaGreatDoor
