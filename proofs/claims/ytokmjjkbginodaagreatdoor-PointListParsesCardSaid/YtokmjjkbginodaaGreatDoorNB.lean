/- NB: the texts PtP PtQ PtR PtL Pla Plm Pli, one behind the other. No condition but what each lemma says. -/
import Derived.Test.YtokmjjkbginodaaGreatDoorMW
import Derived.Test.YtokmjjkbginodaaGreatDoorNA
namespace Go.Proofs.YtokmjjkbginodaaGreatDoor
open Go.RowKit
set_option maxRecDepth 100000
inductive Vl where
 |nm (f:List Gn) (r:List Att)
 |rs (s:Nat)
 |is (i:List Gn)
 |fl
def Dj (r:List Att):List UInt8:=(r.map atE).flatten
def nmC (f:List Gn) (r:List Att):List UInt8:=if f=[] then Ah 2 1 true (Dj r) else Ah 2 0 true (Bm f)
def vlC:Vl→List UInt8
 | .nm f r=>nmC f r
 | .rs s=>Dd s
 | .is i=>Bm i
 | .fl=>[255]
def vlK:Vl→Bool
 | .nm _ _=>true
 | .rs _=>false
 | .is _=>true
 | .fl=>false
abbrev vlT (p:Nat×Vl):Tv:=⟨2,p.1,vlK p.2,vlC p.2⟩
def vlW (k:UInt8):Vl→Prop
 | .nm f r=>k=110∧((f≠[]∧r=[]∧f.all gnW=true)∨(f=[]∧Eh r=true))
 | .rs s=>k=114∧0<s∧s<512
 | .is i=>k=105∧i≠[]∧i.all gnW=true
 | .fl=>k=102
def Vl.mid:Vl→Prop
 | .nm f r=>gnsM f∧rdnZ r
 | .rs _=>True
 | .is i=>gnsM i
 | .fl=>True
def Fx (c:List UInt8):Option (List Gn):=(bU (Ah 0 16 true c)).1
def He (c:List UInt8):Option Vl:=match By c 0 with
 |some d=>(Fx d).map fun f=> .nm f []
 |none=>match By c 1 with
  |some d=>(Je (Ah 0 17 true d)).1.map fun r=> .nm [] r
  |none=>none
def vlO (k:UInt8) (c:List UInt8):Option Vl:=if k=110 then He c else if k=114 then(Tc c).map .rs else if k=105 then(Fx c).map .is else if c=[255] then some .fl else none
def kOk (k:UInt8):Prop:=k=110∨k=114∨k=105∨k=102
theorem Xa {l:List Gn} (h0:l≠[]) (h:l.all gnW=true) (hs:gnsM l):Fx (Bm l)=some l:=by
 have:=IJ h0 h hs
 show(bU (Ta l)).1=_
 rw[this]
theorem Pw {c:List UInt8} {l:List Gn} (h:Fx c=some l) (hl:c.length≤700000):l≠[]∧l.all gnW=true∧c=Bm l:=by
 unfold Fx at h
 have hel:=As 0 16 true c (by omega)
 rcases pU (Ah 0 16 true c) (by omega) with⟨v,v0,v1,v2,v3⟩|⟨a,o,-,-,c2⟩
 ·rw[v3] at h
  obtain rfl:=Option.some.inj h
  have hl2:(Bm v).length≤2147483647:=by
   have:=Dp 0 16 true (Bm v)
   have e:Ah 0 16 true (Bm v)=Ta v:=rfl
   rw[e,←v2] at this;omega
  exact⟨v0,v1,gZ (c:=0) (n:=16) (k:=true) (by omega) (by omega) (by omega) hl2 v2⟩
 ·rw[c2] at h;cases h
theorem Xb {b v:List UInt8} {n:Nat} (h:By b n=some v):v.length≤b.length:=by
 have:=Dp 2 n true v
 rw[Hy h];omega
theorem mJ {n m:Nat} {v:List UInt8} (hn:n≤30) (hv:v.length≤2147483600) (h:n≠m):By (Ah 2 n true v) m=none:=by
 have:=Pp (t:=⟨2,n,true,v⟩) ⟨by show(2:Nat)≤3;omega,hn,by show v.length≤_;omega⟩ m
 rw[if_neg (by simp;exact fun e=>h e)] at this
 exact this
theorem mK {f:List Gn} {r:List Att} (h:(f≠[]∧r=[]∧f.all gnW=true)∨(f=[]∧Eh r=true)) (hs:gnsM f∧rdnZ r):He (nmC f r)=some (.nm f r):=by
 rcases h with⟨h0,rfl,h1⟩|⟨rfl,h1⟩
 ·have:=hs.1.e
  unfold He nmC
  rw[if_neg h0,Jf (by omega) (by show(Bm f).length≤_;unfold Bm;omega)]
  show(Fx (Bm f)).map _=_
  rw[Xa h0 h1 hs.1];rfl
 ·have:=hs.2.e
  unfold He nmC
  rw[if_pos rfl,mJ (by omega) (by unfold Dj;omega) (by omega),Jf (by omega) (by unfold Dj;omega)]
  show((Je (Ct r)).1).map _=_
  rw[gH h1 hs.2];rfl
theorem mL {c:List UInt8} {v:Vl} (h:He c=some v) (hl:c.length≤700000):∃f r,v= .nm f r∧((f≠[]∧r=[]∧f.all gnW=true)∨(f=[]∧Eh r=true))∧c=nmC f r:=by
 unfold He at h
 cases h0:By c 0 with
 |some d=>
  rw[h0] at h
  have e:=Hy h0
  have hd:=Xb h0
  have h:(Fx d).map (fun f=>Vl.nm f [])=some v:=h
  cases hn:Fx d with
  |none=>rw[hn] at h;cases h
  |some f=>
   rw[hn] at h
   obtain rfl:=Option.some.inj h
   obtain⟨n0,n1,n2⟩:=Pw hn (by omega)
   refine⟨f,[],rfl,.inl ⟨n0,rfl,n1⟩,?_⟩
   unfold nmC
   rw[if_neg n0,←n2];exact e
 |none=>
  rw[h0] at h
  have h:(match By c 1 with|some d=>(Je (Ah 0 17 true d)).1.map (fun r=>Vl.nm [] r)|none=>none)=some v:=h
  cases h1:By c 1 with
  |none=>rw[h1] at h;cases h
  |some d=>
   rw[h1] at h
   have e:=Hy h1
   have hd:=Xb h1
   have h:(Je (Ah 0 17 true d)).1.map (fun r=>Vl.nm [] r)=some v:=h
   cases hn:(Je (Ah 0 17 true d)).1 with
   |none=>rw[hn] at h;cases h
   |some r=>
    rw[hn] at h
    obtain rfl:=Option.some.inj h
    have hel:=As 0 17 true d (by omega)
    obtain⟨n1,n2⟩:=gI hn (by omega)
    refine⟨[],r,rfl,.inr ⟨rfl,n1⟩,?_⟩
    have hl2:(Dj r).length≤2147483647:=by
     have:=Dp 0 17 true (Dj r)
     have e:Ah 0 17 true (Dj r)=Ct r:=rfl
     rw[e,←n2] at this;omega
    have:d=Dj r:=gZ (c:=0) (n:=17) (k:=true) (by omega) (by omega) (by omega) hl2 n2
    unfold nmC
    rw[if_pos rfl,←this];exact e
theorem IV {k:UInt8} {v:Vl} (h:vlW k v) (hs:v.mid):vlO k (vlC v)=some v:=by
 cases v with
 |nm f r=>
  obtain⟨rfl,h⟩:=h
  show He (nmC f r)=_
  exact mK h hs
 |rs s=>
  obtain⟨rfl,h0,h1⟩:=h
  show(Tc (Dd s)).map Vl.rs=_
  rw[CN h1 (by omega)];rfl
 |is i=>
  obtain⟨rfl,h0,h1⟩:=h
  show(Fx (Bm i)).map Vl.is=_
  rw[Xa h0 h1 hs];rfl
 |fl=>
  obtain rfl:k=102:=h
  rfl
theorem IW {k:UInt8} {c:List UInt8} {v:Vl} (hk:kOk k) (h:vlO k c=some v) (hl:c.length≤700000):vlW k v∧c=vlC v:=by
 rcases hk with rfl|rfl|rfl|rfl
 ·obtain⟨f,r,rfl,h1,h2⟩:=mL (show He c=some v from h) hl
  exact⟨⟨rfl,h1⟩,h2⟩
 ·have h:(Tc c).map Vl.rs=some v:=h
  cases hn:Tc c with
  |none=>rw[hn] at h;cases h
  |some s=>
   rw[hn] at h
   obtain rfl:=Option.some.inj h
   obtain⟨a1,a2,a3⟩:=CO hn
   exact⟨⟨rfl,a1,a2⟩,a3⟩
 ·have h:(Fx c).map Vl.is=some v:=h
  cases hn:Fx c with
  |none=>rw[hn] at h;cases h
  |some s=>
   rw[hn] at h
   obtain rfl:=Option.some.inj h
   obtain⟨a1,a2,a3⟩:=Pw hn hl
   exact⟨⟨rfl,a1,a2⟩,a3⟩
 ·have h:(if c=[255] then some Vl.fl else none)=some v:=h
  by_cases hc:c=[255]
  ·rw[if_pos hc] at h
   obtain rfl:=Option.some.inj h
   exact⟨rfl,hc⟩
  ·rw[if_neg hc] at h;cases h
def IX (k:UInt8):Bool:=k==110||k==105
theorem qF {k:UInt8} {v:Vl} (h:vlW k v):vlK v=IX k:=by
 cases v with
 |nm f r=>obtain⟨rfl,-⟩:=h;rfl
 |rs s=>obtain⟨rfl,-⟩:=h;rfl
 |is i=>obtain⟨rfl,-⟩:=h;rfl
 |fl=>obtain rfl:k=102:=h;rfl
structure Dr where
 f:List Gn
 r:List Att
 s:Nat
 i:List Gn
 fl:Nat→Bool
def dr0:Dr:=⟨[],[],0,[],fun _=>false⟩
def Dr.set (d:Dr) (n:Nat):Vl→Dr
 | .nm f r=>if f=[] then{d with r:=r} else{d with f:=f}
 | .rs s=>{d with s:=s}
 | .is i=>{d with i:=i}
 | .fl=>{d with fl:=fun m=>m==n||d.fl m}
def drF (b k:List UInt8):List El→Int→Dr→Option Dr×Nat×Nat
 |[],_,d=>(some d,0,0)
 |x::l,last,d=>if x.c≠2∨k.length≤x.n∨(x.n:Int)≤last then(none,3,x.at') else if x.k≠IX (k.getD x.n 0) then(none,3,x.at') else match vlO (k.getD x.n 0) (bod b x) with
  |none=>(none,6,x.body)
  |some v=>drF b k l x.n (d.set x.n v)
def rdD (b k:List UInt8):Option Dr×Nat×Nat:=if(A6 b 0 16).code≠0 then(none,(A6 b 0 16).code,(A6 b 0 16).off) else drF b k (A6 b 0 16).l (-1) dr0
def asc (m:Nat):Int→List (Nat×Vl)→Prop
 |_,[]=>True
 |last,p::r=>last<p.1∧p.1<m∧asc m p.1 r
def Ol (d:Dr) (vs:List (Nat×Vl)):Dr:=vs.foldl (fun d p=>d.set p.1 p.2) d
def vsW (k:List UInt8) (vs:List (Nat×Vl)):Prop:=∀p∈vs,vlW (k.getD p.1 0) p.2
theorem qG {b k:List UInt8} (hb:b.length≤700000) (hk:∀x∈k,kOk x):∀(ts:List Tv) (a:Nat) (last:Int) (d:Dr),(els a ts).map (elO b)=ts.map Tv.enc→(∀x∈els a ts,x.stop≤b.length)→pT b.length (fun d'=>∃vs,asc k.length last vs∧vsW k vs∧ts=vs.map vlT∧d'=Ol d vs) (drF b k (els a ts) last d)
 |[],a,last,d,_,_=> .inl ⟨d,⟨[],trivial,(fun _ h=>by cases h),rfl,rfl⟩,rfl⟩
 |t::ts,a,last,d,h,hin=>by
  obtain⟨e1,e2,e3,e4,e5,e6⟩:=pW h hin
  have e3':a+t.hd≤(t.el a).stop:=e3
  rw[e1,drF]
  by_cases h1:(t.el a).c≠2∨k.length≤(t.el a).n∨((t.el a).n:Int)≤last
  ·rw[if_pos h1]
   exact .inr ⟨3,a,by omega,by omega,rfl⟩
  rw[if_neg h1]
  by_cases h2:(t.el a).k≠IX (k.getD (t.el a).n 0)
  ·rw[if_pos h2]
   exact .inr ⟨3,a,by omega,by omega,rfl⟩
  rw[if_neg h2]
  have hn:t.n<k.length:=by
   have:(t.el a).n=t.n:=rfl
   omega
  have hko:kOk (k.getD (t.el a).n 0):=by
   show kOk (k.getD t.n 0)
   rw[List.getD_eq_getElem?_getD,Am hn,Option.getD_some]
   exact hk _ (List.getElem_mem hn)
  rw[e2]
  have hvl:t.v.length≤700000:=by
   rw[←e2];unfold bod;rw[Al,Az];omega
  cases hv:vlO (k.getD (t.el a).n 0) t.v with
  |none=>exact .inr ⟨6,_,by omega,Nat.le_trans e3 e4,rfl⟩
  |some v=>
   obtain⟨v1,v2⟩:=IW hko hv hvl
   have hc:t.c=2:=by
    have:(t.el a).c=t.c:=rfl
    omega
   have hkk:t.k=vlK v:=by
    rw[qF v1]
    exact Decidable.not_not.1 h2
   have ht:t=vlT (t.n,v):=by
    obtain⟨c,n,kk,w⟩:=t
    simp only at hc hkk v2
    subst hc hkk v2
    rfl
   rcases qG hb hk ts _ (t.el a).n (d.set (t.el a).n v) e5 e6 with⟨d',⟨vs,w1,w2,w3,w4⟩,w5⟩|hbad
   ·refine .inl ⟨d',⟨(t.n,v)::vs,⟨by show last<(t.n:Int);have:(t.el a).n=t.n:=rfl;omega,hn,w1⟩,?_,?_,w4⟩,w5⟩
    ·intro p hp
     rcases List.mem_cons.1 hp with rfl|hp
     ·exact v1
     ·exact w2 p hp
    ·rw[List.map_cons,←ht,←w3]
   ·exact .inr hbad
theorem qH {b k:List UInt8}:∀(vs:List (Nat×Vl)) (a:Nat) (last:Int) (d:Dr),(els a (vs.map vlT)).map (elO b)=(vs.map vlT).map Tv.enc→(∀x∈els a (vs.map vlT),x.stop≤b.length)→asc k.length last vs→vsW k vs→(∀p∈vs,p.2.mid)→drF b k (els a (vs.map vlT)) last d=(some (Ol d vs),0,0)
 |[],_,_,_,_,_,_,_,_=>rfl
 |p::vs,a,last,d,h,hin,ha,hw,hm=>by
  rw[List.map_cons] at h hin⊢
  obtain⟨e1,e2,e3,e4,e5,e6⟩:=pW h hin
  obtain⟨a1,a2,a3⟩:=ha
  have hw0:=hw p (by simp)
  rw[e1,drF]
  have c1:((vlT p).el a).c=2:=rfl
  have c2:((vlT p).el a).n=p.1:=rfl
  have c3:((vlT p).el a).k=vlK p.2:=rfl
  rw[if_neg (by rw[c1,c2];simp only[ne_eq,not_true_eq_false,false_or,not_or];omega),if_neg (by rw[c3,c2,qF hw0];simp),e2,c2]
  show(match vlO (k.getD p.1 0) (vlC p.2) with|none=>(none,6,((vlT p).el a).body)|some v=>drF b k (els (a+(vlT p).enc.length) (vs.map vlT)) p.1 (d.set p.1 v))=_
  rw[IV hw0 (hm p (by simp))]
  exact qH vs _ p.1 (d.set p.1 p.2) e5 e6 a3 (fun q hq=>hw q (by simp[hq])) fun q hq=>hm q (by simp[hq])
def vsB (vs:List (Nat×Vl)):List (List UInt8):=vs.map fun p=>(vlT p).enc
def vsE (vs:List (Nat×Vl)):List UInt8:=Ah 0 16 true (vsB vs).flatten
theorem mM (vs:List (Nat×Vl)):(vsB vs).flatten=C6 (vs.map vlT):=by
 rw[Eg,List.map_map];rfl
theorem qI {b k:List UInt8} (hb:b.length≤700000) (hk:∀x∈k,kOk x):pT b.length (fun d'=>∃vs,asc k.length (-1) vs∧vsW k vs∧b=vsE vs∧d'=Ol dr0 vs) (rdD b k):=by
 unfold rdD
 by_cases h1:(A6 b 0 16).code≠0
 ·rw[if_pos h1]
  exact .inr ⟨_,_,h1,Hx b 0 16,rfl⟩
 rw[if_neg h1]
 obtain⟨ts,t1,t2,-,-,hl⟩:=Iy (Decidable.not_not.1 h1)
 obtain⟨q,p1,p2,-,-⟩:=W2 (c:=0) (n:=16) ts (by omega) (by omega) t1 hl
 rw[←t2] at p1 p2
 have hin:∀x∈els q ts,x.stop≤b.length:=fun x hx=>by
  have:=D4 (b:=b) (c:=0) (n:=16) (x:=x) (by rw[p1];exact hx)
  omega
 rw[p1]
 rcases qG hb hk ts q (-1) dr0 p2 hin with⟨d',⟨vs,w1,w2,w3,w4⟩,w5⟩|hbad
 ·refine .inl ⟨d',⟨vs,w1,w2,?_,w4⟩,w5⟩
  unfold vsE
  rw[mM,←w3];exact t2
 ·exact .inr hbad
theorem qJ {k:List UInt8} {vs:List (Nat×Vl)} (ha:asc k.length (-1) vs) (hw:vsW k vs) (hm:∀p∈vs,p.2.mid) (hn:k.length≤30) (hc:∀p∈vs,(vlC p.2).length≤900000000) (hl:(vsB vs).flatten.length≤2147483647):rdD (vsE vs) k=(some (Ol dr0 vs),0,0):=by
 have hlt:∀(vs:List (Nat×Vl)) (last:Int),asc k.length last vs→∀p∈vs,p.1<k.length:=by
  intro vs
  induction vs with
  |nil=>intro _ _ p hp;cases hp
  |cons q r ih=>
   intro last h p hp
   rcases List.mem_cons.1 hp with rfl|hp
   ·exact h.2.1
   ·exact ih _ h.2.2 p hp
 have tok:∀t∈vs.map vlT,t.ok:=fun t ht=>by
  obtain⟨p,hp,rfl⟩:=List.mem_map.1 ht
  have:=hc p hp
  have:=hlt vs _ ha p hp
  exact⟨by show(2:Nat)≤3;omega,by show p.1≤30;omega,by show(vlC p.2).length≤_;omega⟩
 rw[mM] at hl
 obtain⟨q,p1,p2,-,-⟩:=W2 (c:=0) (n:=16) (vs.map vlT) (by omega) (by omega) tok hl
 have hb:vsE vs=Ah 0 16 true (C6 (vs.map vlT)):=by unfold vsE;rw[mM]
 rw[hb]
 generalize Ah 0 16 true (C6 (vs.map vlT))=b at p1 p2
 have hin:∀x∈els q (vs.map vlT),x.stop≤b.length:=fun x hx=>by
  have:=D4 (b:=b) (c:=0) (n:=16) (x:=x) (by rw[p1];exact hx)
  omega
 unfold rdD
 rw[p1,if_neg (by simp)]
 exact qH vs q (-1) dr0 p2 hin ha hw hm
structure Pt where
 f:List Gn
 r:List Att
 s:Int
 i:List Gn
 deriving DecidableEq
structure Iss where
 f:List Gn
 r:List Att
 u:Bool
 c:Bool
 n:Bool
 a:Bool
 s:Int
 deriving DecidableEq
def opt (n:Nat) (c:Prop) [Decidable c] (v:Vl):List (Nat×Vl):=if c then [(n,v)] else []
def nmW (f:List Gn) (r:List Att):Prop:=(f=[]∨r=[]∧f.all gnW=true)∧(r=[]∨Eh r=true)
instance (f:List Gn) (r:List Att):Decidable (nmW f r):=by unfold nmW;infer_instance
def rsW (s:Int):Prop:=0≤s∧s<512
instance (s:Int):Decidable (rsW s):=by unfold rsW;infer_instance
def Hf (p:Pt):List (Nat×Vl):=opt 0 (p.f≠[]∨p.r≠[]) (.nm p.f p.r)++(opt 1 (p.s≠0) (.rs p.s.toNat)++opt 2 (p.i≠[]) (.is p.i))
def Sc (x:Iss):List (Nat×Vl):=opt 0 (x.f≠[]∨x.r≠[]) (.nm x.f x.r)++(opt 1 (x.u=true) .fl++(opt 2 (x.c=true) .fl++(opt 3 (x.s≠0) (.rs x.s.toNat)++(opt 4 (x.n=true) .fl++opt 5 (x.a=true) .fl))))
def ptE (p:Pt):List UInt8:=vsE (Hf p)
def isE (x:Iss):List UInt8:=vsE (Sc x)
def ptW (p:Pt):Bool:=decide (nmW p.f p.r∧rsW p.s∧(p.i=[]∨p.i.all gnW=true)∧(p.f≠[]∨p.r≠[]∨p.i≠[]))
def Xc (x:Iss):Prop:=¬(x.u=true∧x.c=true)∧¬(x.u=true∧x.a=true)∧¬(x.c=true∧x.a=true)
def Zk (x:Iss):Prop:=x.f≠[]∨x.r≠[]∨x.u=true∨x.c=true∨x.n=true∨x.a=true∨x.s≠0
instance (x:Iss):Decidable (Xc x):=by unfold Xc;infer_instance
instance (x:Iss):Decidable (Zk x):=by unfold Zk;infer_instance
def isW (x:Iss):Bool:=decide (nmW x.f x.r∧rsW x.s∧Xc x∧Zk x)
abbrev k3:List UInt8:=[110,114,105]
abbrev k6:List UInt8:=[110,102,102,114,102,102]
theorem KA:∀x∈k3,kOk x:=by simp[kOk]
theorem Sd {m n:Nat} {last:Int} {vs:List (Nat×Vl)} (hl:last=(n:Int)-1) (h:asc m last vs):∃o:Option Vl,∃vs',vs=(o.map fun v=>(n,v)).toList++vs'∧asc m n vs':=by
 cases vs with
 |nil=>exact⟨none,[],rfl,trivial⟩
 |cons p r=>
  obtain⟨h1,h2,h3⟩:=h
  by_cases hp:p.1=n
  ·refine⟨some p.2,r,?_,by rw[hp] at h3;exact h3⟩
   show p::r=(n,p.2)::r
   rw[←hp]
  ·exact⟨none,p::r,rfl,by omega,h2,h3⟩
theorem IY {m n:Nat} {vs:List (Nat×Vl)} (h:asc m n vs) (hn:m≤n+1):vs=[]:=by
 cases vs with
 |nil=>rfl
 |cons p r=>obtain⟨h1,h2,-⟩:=h;omega
theorem bZ {k:List UInt8} {a b:List (Nat×Vl)} (h:vsW k (a++b)):vsW k a∧vsW k b:=⟨fun p hp=>h p (by simp[hp]),fun p hp=>h p (by simp[hp])⟩
theorem QU {k:List UInt8} {n:Nat} {o:Option Vl} (hk:k.getD n 0=110) (h:vsW k (o.map fun v=>(n,v)).toList):∃f r,(o.map fun v=>(n,v)).toList=opt n (f≠[]∨r≠[]) (.nm f r)∧nmW f r:=by
 cases o with
 |none=>exact⟨[],[],rfl,.inl rfl,.inl rfl⟩
 |some v=>
  have hv:vlW (k.getD n 0) v:=h (n,v) (by simp)
  rw[hk] at hv
  cases v with
  |nm f r=>
   obtain⟨-,h|h⟩:=hv
   ·obtain⟨h0,rfl,h1⟩:=h
    exact⟨f,[],by unfold opt;rw[if_pos (.inl h0)];rfl,.inr ⟨rfl,h1⟩,.inl rfl⟩
   ·obtain⟨rfl,h1⟩:=h
    exact⟨[],r,by unfold opt;rw[if_pos (.inr (N6 h1).1)];rfl,.inl rfl,.inr h1⟩
  |rs s=>exact absurd hv.1 (by decide)
  |is i=>exact absurd hv.1 (by decide)
  |fl=>exact absurd (show(110:UInt8)=102 from hv) (by decide)
theorem QV {k:List UInt8} {n:Nat} {o:Option Vl} (hk:k.getD n 0=114) (h:vsW k (o.map fun v=>(n,v)).toList):∃s:Int,(o.map fun v=>(n,v)).toList=opt n (s≠0) (.rs s.toNat)∧rsW s:=by
 cases o with
 |none=>exact⟨0,rfl,by unfold rsW;omega⟩
 |some v=>
  have hv:vlW (k.getD n 0) v:=h (n,v) (by simp)
  rw[hk] at hv
  cases v with
  |nm f r=>exact absurd hv.1 (by decide)
  |rs s=>
   obtain⟨-,h0,h1⟩:=hv
   exact⟨s,by unfold opt;rw[if_pos (by omega)];rfl,by unfold rsW;omega⟩
  |is i=>exact absurd hv.1 (by decide)
  |fl=>exact absurd (show(114:UInt8)=102 from hv) (by decide)
theorem QW {k:List UInt8} {n:Nat} {o:Option Vl} (hk:k.getD n 0=105) (h:vsW k (o.map fun v=>(n,v)).toList):∃i:List Gn,(o.map fun v=>(n,v)).toList=opt n (i≠[]) (.is i)∧(i=[]∨i.all gnW=true):=by
 cases o with
 |none=>exact⟨[],rfl,.inl rfl⟩
 |some v=>
  have hv:vlW (k.getD n 0) v:=h (n,v) (by simp)
  rw[hk] at hv
  cases v with
  |nm f r=>exact absurd hv.1 (by decide)
  |rs s=>exact absurd hv.1 (by decide)
  |is i=>
   obtain⟨-,h0,h1⟩:=hv
   exact⟨i,by unfold opt;rw[if_pos h0];rfl,.inr h1⟩
  |fl=>exact absurd (show(105:UInt8)=102 from hv) (by decide)
theorem KB {vs:List (Nat×Vl)} (h:asc 3 (-1) vs) (hw:vsW k3 vs):∃p:Pt,vs=Hf p∧nmW p.f p.r∧rsW p.s∧(p.i=[]∨p.i.all gnW=true):=by
 obtain⟨o0,v1,rfl,h1⟩:=Sd (n:=0) (by omega) h
 obtain⟨o1,v2,rfl,h2⟩:=Sd (n:=1) (by omega) h1
 obtain⟨o2,v3,rfl,h3⟩:=Sd (n:=2) (by omega) h2
 obtain rfl:=IY h3 (by omega)
 obtain⟨w0,hw⟩:=bZ hw
 obtain⟨w1,hw⟩:=bZ hw
 obtain⟨w2,-⟩:=bZ hw
 obtain⟨f,r,e0,q0⟩:=QU rfl w0
 obtain⟨s,e1,q1⟩:=QV rfl w1
 obtain⟨i,e2,q2⟩:=QW rfl w2
 exact⟨⟨f,r,s,i⟩,by rw[e0,e1,e2,List.append_nil];rfl,q0,q1,q2⟩
theorem Jj (d:Dr) (a b:List (Nat×Vl)):Ol d (a++b)=Ol (Ol d a) b:=List.foldl_append
theorem Ra (d:Dr) (n:Nat) (c:Prop) [Decidable c] (v:Vl):Ol d (opt n c v)=if c then d.set n v else d:=by
 unfold opt
 split<;>rfl
theorem qK {f:List Gn} {r:List Att} (h:nmW f r):Ol dr0 (opt 0 (f≠[]∨r≠[]) (.nm f r))=⟨f,r,0,[],fun _=>false⟩:=by
 rw[Ra]
 by_cases h0:f=[]
 ·subst h0
  by_cases h1:r=[]
  ·subst h1;rfl
  ·rw[if_pos (.inr h1)];rfl
 ·obtain⟨h|⟨rfl,-⟩,-⟩:=h
  ·exact absurd h h0
  ·rw[if_pos (.inl h0)]
   show(if f=[] then _ else _)=_
   rw[if_neg h0];rfl
theorem qL (d:Dr) (n:Nat) {s:Int} (h:rsW s) (h0:d.s=0):Ol d (opt n (s≠0) (.rs s.toNat))={d with s:=s.toNat}:=by
 rw[Ra]
 by_cases hs:s=0
 ·subst hs
  rw[if_neg (by simp)]
  obtain⟨f,r,s,i,fl⟩:=d
  simp only at h0
  subst h0;rfl
 ·rw[if_pos hs];rfl
theorem IZ (d:Dr) (n:Nat) {i:List Gn} (h0:d.i=[]):Ol d (opt n (i≠[]) (.is i))={d with i:=i}:=by
 rw[Ra]
 by_cases hs:i=[]
 ·subst hs
  rw[if_neg (by simp)]
  obtain⟨f,r,s,i,fl⟩:=d
  simp only at h0
  subst h0;rfl
 ·rw[if_pos hs];rfl
theorem T6 (d:Dr) (n:Nat) (b:Bool):Ol d (opt n (b=true) .fl)={d with fl:=fun m=>(b&&m==n)||d.fl m}:=by
 rw[Ra]
 cases b
 ·rw[if_neg (by simp)]
  obtain⟨f,r,s,i,fl⟩:=d
  simp only[Bool.false_and,Bool.false_or]
 ·rw[if_pos rfl]
  show({d with fl:=fun m=>m==n||d.fl m}:Dr)=_
  simp only[Bool.true_and]
def iC (d:Dr):Pt:=⟨d.f,d.r,d.s,d.i⟩
def NY (d:Dr):Iss:=⟨d.f,d.r,d.fl 1,d.fl 2,d.fl 4,d.fl 5,d.s⟩
theorem cA {p:Pt} (h:nmW p.f p.r) (hs:rsW p.s):iC (Ol dr0 (Hf p))=p:=by
 obtain⟨f,r,s,i⟩:=p
 unfold Hf
 simp only at h hs⊢
 rw[Jj,qK h,Jj,qL _ 1 hs rfl,IZ _ 2 rfl]
 obtain⟨h0,-⟩:=hs
 show Pt.mk f r (s.toNat:Int) i=_
 rw[Int.toNat_of_nonneg h0]
theorem JA {x:Iss} (h:nmW x.f x.r) (hs:rsW x.s):NY (Ol dr0 (Sc x))=x:=by
 obtain⟨f,r,u,c,n,a,s⟩:=x
 unfold Sc
 simp only at h hs⊢
 rw[Jj,qK h,Jj,T6,Jj,T6,Jj,qL _ 3 hs rfl,Jj,T6,T6]
 obtain⟨h0,-⟩:=hs
 show Iss.mk f r _ _ _ _ (s.toNat:Int)=_
 rw[Int.toNat_of_nonneg h0]
 cases u<;>cases c<;>cases n<;>cases a<;>rfl
def ptP (b:List UInt8):Option Pt×Nat×Nat:=match rdD b k3 with
 |(none,c,o)=>(none,c,o)
 |(some d,_)=>if ptW (iC d)=true then(some (iC d),0,0) else(none,6,0)
def isP (b:List UInt8):Option Iss×Nat×Nat:=match rdD b k6 with
 |(none,c,o)=>(none,c,o)
 |(some d,_)=>if isW (NY d)=true then(some (NY d),0,0) else(none,6,0)
theorem Se (b:List UInt8) (hb:b.length≤700000):pT b.length (fun p=>ptW p=true∧b=ptE p) (ptP b):=by
 unfold ptP
 rcases qI (k:=k3) hb KA with⟨d,⟨vs,w1,w2,w3,w4⟩,w5⟩|⟨c,o,h1,h2,h3⟩
 ·rw[w5]
  obtain⟨p,rfl,q1,q2,q3⟩:=KB w1 w2
  have hd:iC d=p:=by rw[w4];exact cA q1 q2
  simp only
  rw[hd]
  by_cases hw:ptW p=true
  ·rw[if_pos hw];exact .inl ⟨p,⟨hw,w3⟩,rfl⟩
  ·rw[if_neg hw];exact .inr ⟨6,0,by omega,Nat.zero_le _,rfl⟩
 ·rw[h3];exact .inr ⟨c,o,h1,h2,rfl⟩
structure nmM (f:List Gn) (r:List Att):Prop where
 f:gnsM f
 r:rdnZ r
structure Pt.mid (p:Pt):Prop where
 m:nmM p.f p.r
 i:gnsM p.i
theorem Cz {n:Nat} {c:Prop} [Decidable c] {v:Vl} {p:Nat×Vl} (h:p∈opt n c v):c∧p=(n,v):=by
 unfold opt at h
 by_cases hc:c
 ·rw[if_pos hc,List.mem_singleton] at h;exact⟨hc,h⟩
 ·rw[if_neg hc] at h;cases h
theorem Lz {m n:Nat} {last:Int} {c:Prop} [Decidable c] {v:Vl} {vs:List (Nat×Vl)} (h1:last<n) (h2:n<m) (h:∀l:Int,l≤n→asc m l vs):asc m last (opt n c v++vs):=by
 unfold opt
 split
 ·exact⟨h1,h2,h n (Int.le_refl _)⟩
 ·exact h last (by omega)
theorem iE {m n:Nat} {c:Prop} [Decidable c] {v:Vl} (h2:n<m):∀l:Int,l<n→asc m l (opt n c v):=fun l hl=>by
 unfold opt
 split
 ·exact⟨hl,h2,trivial⟩
 ·trivial
theorem NZ (p:Pt):asc 3 (-1) (Hf p):=by
 unfold Hf
 exact Lz (by omega) (by omega) fun l hl=>Lz (by omega) (by omega) fun l hl=>iE (by omega) l (by omega)
theorem OA (x:Iss):asc 6 (-1) (Sc x):=by
 unfold Sc
 exact Lz (by omega) (by omega) fun l hl=>Lz (by omega) (by omega) fun l hl=>Lz (by omega) (by omega) fun l hl=>Lz (by omega) (by omega) fun l hl=>Lz (by omega) (by omega) fun l hl=>iE (by omega) l (by omega)
theorem mN {f:List Gn} {r:List Att} (h:nmW f r) (h0:f≠[]∨r≠[]):vlW 110 (.nm f r):=by
 refine⟨rfl,?_⟩
 obtain⟨h1,h2⟩:=h
 by_cases hf:f=[]
 ·exact .inr ⟨hf,h2.resolve_left (h0.resolve_left fun h=>h hf)⟩
 ·obtain⟨a,b⟩:=h1.resolve_left hf
  exact .inl ⟨hf,a,b⟩
theorem mO {s:Int} (h:rsW s) (h0:s≠0):vlW 114 (.rs s.toNat):=⟨rfl,by unfold rsW at h;omega,by unfold rsW at h;omega⟩
theorem cB {p:Pt} (h:nmW p.f p.r) (hs:rsW p.s) (hi:p.i=[]∨p.i.all gnW=true):vsW k3 (Hf p):=by
 intro q hq
 unfold Hf at hq
 simp only[List.mem_append] at hq
 rcases hq with hq|hq|hq
 ·obtain⟨h0,rfl⟩:=Cz hq
  exact mN h h0
 ·obtain⟨h0,rfl⟩:=Cz hq
  exact mO hs h0
 ·obtain⟨h0,rfl⟩:=Cz hq
  exact⟨rfl,h0,hi.resolve_left h0⟩
theorem OB {x:Iss} (h:nmW x.f x.r) (hs:rsW x.s):vsW k6 (Sc x):=by
 intro q hq
 unfold Sc at hq
 simp only[List.mem_append] at hq
 rcases hq with hq|hq|hq|hq|hq|hq
 ·obtain⟨h0,rfl⟩:=Cz hq
  exact mN h h0
 ·obtain⟨h0,rfl⟩:=Cz hq
  rfl
 ·obtain⟨h0,rfl⟩:=Cz hq
  rfl
 ·obtain⟨h0,rfl⟩:=Cz hq
  exact mO hs h0
 ·obtain⟨h0,rfl⟩:=Cz hq
  rfl
 ·obtain⟨h0,rfl⟩:=Cz hq
  rfl
def Vl.sz (v:Vl):Prop:=v.mid∧(vlC v).length≤850000000
theorem E1 (s:Nat):(Dd s).length≤3:=by
 unfold Dd
 split
 ·simp
 ·split<;>simp
theorem L0 {f:List Gn} {r:List Att} (h:nmM f r):(nmC f r).length≤(Bm f).length+(Dj r).length+6:=by
 have a:=h.f.e
 have b:=h.r.e
 have e1:=As 2 1 true (Dj r) (by unfold Dj;omega)
 have e2:=As 2 0 true (Bm f) (by unfold Bm;omega)
 unfold nmC
 split<;>omega
theorem L1 {n:Nat} {c:Prop} [Decidable c] {v:Vl} (h:(vlC v).length≤900000000):(vsB (opt n c v)).flatten.length≤(vlC v).length+6:=by
 unfold opt vsB
 split
 ·have:=As 2 n (vlK v) (vlC v) (by omega)
  have e:(vlT (n,v)).enc=Ah 2 n (vlK v) (vlC v):=rfl
  simp only[List.map_cons,List.map_nil,List.flatten_cons,List.flatten_nil,List.append_nil]
  rw[e];omega
 ·simp
theorem Ej (a b:List (Nat×Vl)):vsB (a++b)=vsB a++vsB b:=List.map_append
theorem Sf {p:Pt} (h:p.mid) (hf:(Bm p.f).length≤400000000) (hi:(Bm p.i).length≤400000000):(vsB (Hf p)).flatten.length≤(Bm p.f).length+(Dj p.r).length+(Bm p.i).length+40:=by
 have hc:=L0 h.m
 have hr:(Dj p.r).length≤90000000:=h.m.r.e
 have hs:=E1 p.s.toNat
 have a:=L1 (n:=0) (c:=p.f≠[]∨p.r≠[]) (v:= .nm p.f p.r) (by show(nmC p.f p.r).length≤_;omega)
 have b:=L1 (n:=1) (c:=p.s≠0) (v:= .rs p.s.toNat) (by show(Dd p.s.toNat).length≤_;omega)
 have c:=L1 (n:=2) (c:=p.i≠[]) (v:= .is p.i) (by show(Bm p.i).length≤_;omega)
 have a':(vlC (.nm p.f p.r)).length=(nmC p.f p.r).length:=rfl
 have b':(vlC (.rs p.s.toNat)).length=(Dd p.s.toNat).length:=rfl
 have c':(vlC (.is p.i)).length=(Bm p.i).length:=rfl
 unfold Hf
 rw[Ej,Ej,List.flatten_append,List.flatten_append,Ap,Ap]
 omega
theorem CX {x:Iss} (h:nmM x.f x.r) (hf:(Bm x.f).length≤400000000):(vsB (Sc x)).flatten.length≤(Bm x.f).length+(Dj x.r).length+70:=by
 have hc:=L0 h
 have hr:(Dj x.r).length≤90000000:=h.r.e
 have hs:=E1 x.s.toNat
 have a:=L1 (n:=0) (c:=x.f≠[]∨x.r≠[]) (v:= .nm x.f x.r) (by show(nmC x.f x.r).length≤_;omega)
 have b:=L1 (n:=3) (c:=x.s≠0) (v:= .rs x.s.toNat) (by show(Dd x.s.toNat).length≤_;omega)
 have hl:(vlC .fl).length=1:=rfl
 have c1:=L1 (n:=1) (c:=x.u=true) (v:= .fl) (by omega)
 have c2:=L1 (n:=2) (c:=x.c=true) (v:= .fl) (by omega)
 have c3:=L1 (n:=4) (c:=x.n=true) (v:= .fl) (by omega)
 have c4:=L1 (n:=5) (c:=x.a=true) (v:= .fl) (by omega)
 have a':(vlC (.nm x.f x.r)).length=(nmC x.f x.r).length:=rfl
 have b':(vlC (.rs x.s.toNat)).length=(Dd x.s.toNat).length:=rfl
 unfold Sc
 rw[Ej,Ej,Ej,Ej,Ej]
 simp only[List.flatten_append,Ap]
 omega
theorem H5 {p:Pt}:ptW p=true↔nmW p.f p.r∧rsW p.s∧(p.i=[]∨p.i.all gnW=true)∧(p.f≠[]∨p.r≠[]∨p.i≠[]):=by
 unfold ptW;exact decide_eq_true_iff
theorem cC {x:Iss}:isW x=true↔nmW x.f x.r∧rsW x.s∧Xc x∧Zk x:=by
 unfold isW;exact decide_eq_true_iff
theorem OC {p:Pt} (h:ptW p=true) (hs:p.mid) (hf:(Bm p.f).length≤400000000) (hi:(Bm p.i).length≤400000000):ptP (ptE p)=(some p,0,0):=by
 obtain⟨h1,h2,h3,-⟩:=H5.1 h
 have hl:=Sf hs hf hi
 have hr:(Dj p.r).length≤90000000:=hs.m.r.e
 have hc:=L0 hs.m
 have hq:=E1 p.s.toNat
 have hmem:∀q∈Hf p,q.2.mid∧(vlC q.2).length≤900000000:=fun q hq'=>by
  unfold Hf at hq'
  simp only[List.mem_append] at hq'
  rcases hq' with hq'|hq'|hq'
  ·obtain⟨-,rfl⟩:=Cz hq'
   exact⟨⟨hs.m.f,hs.m.r⟩,by show(nmC p.f p.r).length≤_;omega⟩
  ·obtain⟨-,rfl⟩:=Cz hq'
   exact⟨trivial,by show(Dd p.s.toNat).length≤_;omega⟩
  ·obtain⟨-,rfl⟩:=Cz hq'
   exact⟨hs.i,by show(Bm p.i).length≤_;omega⟩
 have:=qJ (k:=k3) (NZ p) (cB h1 h2 h3) (fun q hq=>(hmem q hq).1) (by simp) (fun q hq=>(hmem q hq).2) (by omega)
 unfold ptP ptE
 rw[this]
 simp only
 rw[cA h1 h2,if_pos h]
theorem OD {x:Iss} (h:isW x=true) (hs:nmM x.f x.r) (hf:(Bm x.f).length≤400000000):isP (isE x)=(some x,0,0):=by
 obtain⟨h1,h2,-⟩:=cC.1 h
 have hl:=CX hs hf
 have hr:(Dj x.r).length≤90000000:=hs.r.e
 have hc:=L0 hs
 have hq:=E1 x.s.toNat
 have hmem:∀q∈Sc x,q.2.mid∧(vlC q.2).length≤900000000:=fun q hq'=>by
  unfold Sc at hq'
  simp only[List.mem_append] at hq'
  rcases hq' with hq'|hq'|hq'|hq'|hq'|hq'
  ·obtain⟨-,rfl⟩:=Cz hq'
   exact⟨⟨hs.f,hs.r⟩,by show(nmC x.f x.r).length≤_;omega⟩
  ·obtain⟨-,rfl⟩:=Cz hq'
   exact⟨trivial,by show(1:Nat)≤_;omega⟩
  ·obtain⟨-,rfl⟩:=Cz hq'
   exact⟨trivial,by show(1:Nat)≤_;omega⟩
  ·obtain⟨-,rfl⟩:=Cz hq'
   exact⟨trivial,by show(Dd x.s.toNat).length≤_;omega⟩
  ·obtain⟨-,rfl⟩:=Cz hq'
   exact⟨trivial,by show(1:Nat)≤_;omega⟩
  ·obtain⟨-,rfl⟩:=Cz hq'
   exact⟨trivial,by show(1:Nat)≤_;omega⟩
 have:=qJ (k:=k6) (OA x) (OB h1 h2) (fun q hq=>(hmem q hq).1) (by simp) (fun q hq=>(hmem q hq).2) (by omega)
 unfold isP isE
 rw[this]
 simp only
 rw[JA h1 h2,if_pos h]
def Le (n:Tr):List Gn×List Att:=if(n.kid 0).n=0 then((n.kid 0).ks.map Bg,[]) else([],Ei (n.kid 0))
def Ng (p:Pt) (k:Tr):Pt:=if k.n=0 then⟨(Le k).1,(Le k).2,p.s,p.i⟩ else if k.n=1 then{p with s:=rdS k.v} else if k.n=2 then{p with i:=k.ks.map Bg} else p
def pt0:Pt:=⟨[],[],0,[]⟩
def D6 (t:Tr):Pt:=t.ks.foldl Ng pt0
theorem JB {r:List Att} (h:Eh r=true) (hz:rdnZ r):∃ks,okT 18 (Ah 2 1 true (Dj r)) (.mk 2 1 true [] ks)∧ks.map Oi=r:=by
 obtain⟨h0,h1,h2⟩:=N6 h
 obtain⟨hl,hs,hq⟩:=hz
 obtain⟨c1,c2⟩:=Im (d:=17) (c:=2) (n:=1) (r.map atE) (by omega) (by omega) (fun p hp=>by
  obtain⟨a,ha,rfl⟩:=List.mem_map.1 hp
  have:=T2 (hs a ha)
  have:=(hs a ha).o
  have:=(hs a ha).v
  exact⟨(bS (List.all_eq_true.1 h1 a ha) (hs a ha)).1,by omega⟩) (by omega)
 refine⟨_,⟨c1,c2⟩,?_⟩
 rw[List.map_map,List.map_map]
 conv=>rhs;rw[←List.map_id r]
 exact List.map_congr_left fun a ha=>(bS (List.all_eq_true.1 h1 a ha) (hs a ha)).2
def tvR (t:Tr):Vl→Prop
 | .nm f r=>Le t=(f,r)
 | .rs s=>rdS t.v=s
 | .is i=>t.ks.map Bg=i
 | .fl=>True
theorem JC {f:List Gn} {r:List Att} (h:(f≠[]∧r=[]∧f.all gnW=true)∨(f=[]∧Eh r=true)) (hs:nmM f r):∃t:Tr,okT 21 (nmC f r) t∧Le (.mk 2 0 true [] [t])=(f,r):=by
 rcases h with⟨h0,rfl,h1⟩|⟨rfl,h1⟩
 ·obtain⟨ks,k1,k2⟩:=pP h1 hs.f 2 0 (by omega) (by omega)
  refine⟨.mk 2 0 true [] ks,?_,?_⟩
  ·unfold nmC
   rw[if_neg h0];exact k1
  ·show((ks.map Bg,[]):List Gn×List Att)=_
   rw[k2]
 ·obtain⟨ks,k1,k2⟩:=JB h1 hs.r
  refine⟨.mk 2 1 true [] ks,?_,?_⟩
  ·unfold nmC
   rw[if_pos rfl];exact k1.up (by omega)
  ·show(([],ks.map Oi):List Gn×List Att)=_
   rw[k2]
theorem mP {k:UInt8} {n:Nat} {v:Vl} (h:vlW k v) (hs:v.mid) (hn:n≤30) (hl:(vlC v).length≤900000000):∃t:Tr,okT 23 (vlT (n,v)).enc t∧t.n=n∧tvR t v:=by
 cases v with
 |nm f r=>
  obtain⟨-,h⟩:=h
  obtain⟨t,t1,t2⟩:=JC h ⟨hs.1,hs.2⟩
  exact⟨_,(okT.con1 (c:=2) (n:=n) (by omega) hn t1 (by have:(vlC (.nm f r)).length=(nmC f r).length:=rfl;omega)).up (by omega),rfl,t2⟩
 |rs s=>
  obtain⟨-,h0,h1⟩:=h
  exact⟨_,(okT.prim 0 (c:=2) (n:=n) (Dd s) (by omega) hn (by have:=E1 s;omega)).up (by omega),rfl,IM h1⟩
 |is i=>
  obtain⟨-,h0,h1⟩:=h
  obtain⟨ks,k1,k2⟩:=pP h1 hs 2 n (by omega) hn
  exact⟨_,k1.up (by omega),rfl,k2⟩
 |fl=>exact⟨_,(okT.prim 0 (c:=2) (n:=n) [255] (by omega) hn (by simp)).up (by omega),rfl,trivial⟩
def vsT (vs:List (Nat×Vl)):List Tr:=(vsB vs).map (trD 23)
theorem qM (a b:List (Nat×Vl)):vsT (a++b)=vsT a++vsT b:=by unfold vsT;rw[Ej,List.map_append]
theorem qN {k:List UInt8} {vs:List (Nat×Vl)} (hw:vsW k vs) (hm:∀p∈vs,p.1≤30∧p.2.mid∧(vlC p.2).length≤900000000) (hl:(vsB vs).flatten.length≤2000000000):(Bt (vsE vs)).ks=vsT vs:=by
 obtain⟨c1,c2⟩:=Im (d:=23) (c:=0) (n:=16) (vsB vs) (by omega) (by omega) (fun q hq=>by
  obtain⟨p,hp,rfl⟩:=List.mem_map.1 hq
  obtain⟨m1,m2,m3⟩:=hm p hp
  obtain⟨t,t1,-⟩:=mP (n:=p.1) (hw p hp) m2 m1 m3
  have:=As 2 p.1 (vlK p.2) (vlC p.2) (by omega)
  exact⟨t1.1,by show(Ah 2 p.1 (vlK p.2) (vlC p.2)).length≤_;omega⟩) (by omega)
 unfold vsE
 rw[gT (d:=24) ⟨c1,c2⟩ (by omega)]
 rfl
theorem cD {k:UInt8} {n:Nat} {c:Prop} [Decidable c] {v:Vl} (h:c→vlW k v) (hs:v.mid) (hn:n≤30) (hl:(vlC v).length≤900000000):(¬c∧vsT (opt n c v)=[])∨(c∧∃t:Tr,vsT (opt n c v)=[t]∧t.n=n∧tvR t v):=by
 unfold opt
 by_cases hc:c
 ·obtain⟨t,t1,t2,t3⟩:=mP (n:=n) (h hc) hs hn hl
  refine .inr ⟨hc,t,?_,t2,t3⟩
  rw[if_pos hc]
  show [trD 23 (vlT (n,v)).enc]=[t]
  rw[t1.2]
 ·refine .inl ⟨hc,?_⟩
  rw[if_neg hc];rfl
theorem qO {p:Pt} (h:ptW p=true) (hs:p.mid) (hf:(Bm p.f).length≤400000000) (hi:(Bm p.i).length≤400000000):D6 (Bt (ptE p))=p:=by
 obtain⟨h1,h2,h3,-⟩:=H5.1 h
 have hl:=Sf hs hf hi
 have hr:(Dj p.r).length≤90000000:=hs.m.r.e
 have hc:=L0 hs.m
 have hq:=E1 p.s.toNat
 have c0:(vlC (.nm p.f p.r)).length≤900000000:=by show(nmC p.f p.r).length≤_;omega
 have c1:(vlC (.rs p.s.toNat)).length≤900000000:=by show(Dd p.s.toNat).length≤_;omega
 have c2:(vlC (.is p.i)).length≤900000000:=by show(Bm p.i).length≤_;omega
 have hmem:∀q∈Hf p,q.1≤30∧q.2.mid∧(vlC q.2).length≤900000000:=fun q hq'=>by
  unfold Hf at hq'
  simp only[List.mem_append] at hq'
  rcases hq' with hq'|hq'|hq'
  ·obtain⟨-,rfl⟩:=Cz hq'
   exact⟨by simp,⟨hs.m.f,hs.m.r⟩,c0⟩
  ·obtain⟨-,rfl⟩:=Cz hq'
   exact⟨by simp,trivial,c1⟩
  ·obtain⟨-,rfl⟩:=Cz hq'
   exact⟨by simp,hs.i,c2⟩
 unfold D6 ptE
 rw[qN (k:=k3) (cB h1 h2 h3) hmem (by omega)]
 unfold Hf
 rw[qM,qM,List.foldl_append,List.foldl_append]
 have a0:=cD (k:=110) (n:=0) (c:=p.f≠[]∨p.r≠[]) (v:= .nm p.f p.r) (fun h0=>mN h1 h0) ⟨hs.m.f,hs.m.r⟩ (by omega) c0
 have a1:=cD (k:=114) (n:=1) (c:=p.s≠0) (v:= .rs p.s.toNat) (fun h0=>mO h2 h0) trivial (by omega) c1
 have a2:=cD (k:=105) (n:=2) (c:=p.i≠[]) (v:= .is p.i) (fun h0=>⟨rfl,h0,h3.resolve_left h0⟩) hs.i (by omega) c2
 obtain⟨f,r,s,i⟩:=p
 simp only at*
 have e0:(vsT (opt 0 (f≠[]∨r≠[]) (.nm f r))).foldl Ng pt0=⟨f,r,0,[]⟩:=by
  rcases a0 with⟨n0,e⟩|⟨-,t,e,t1,t2⟩
  ·rw[e]
   have:f=[]∧r=[]:=⟨Decidable.not_not.1 fun h=>n0 (.inl h),Decidable.not_not.1 fun h=>n0 (.inr h)⟩
   rw[this.1,this.2];rfl
  ·rw[e]
   have t2:Le t=(f,r):=t2
   show Ng pt0 t=_
   unfold Ng
   rw[if_pos t1,t2];rfl
 rw[e0]
 have e1:(vsT (opt 1 (s≠0) (.rs s.toNat))).foldl Ng ⟨f,r,0,[]⟩=⟨f,r,s,[]⟩:=by
  rcases a1 with⟨n0,e⟩|⟨-,t,e,t1,t2⟩
  ·rw[e,Decidable.not_not.1 n0];rfl
  ·rw[e]
   have t2:rdS t.v=s.toNat:=t2
   show Ng _ t=_
   unfold Ng
   rw[if_neg (by omega),if_pos t1,t2]
   have:=h2.1
   rw[Int.toNat_of_nonneg this]
 rw[e1]
 rcases a2 with⟨n0,e⟩|⟨-,t,e,t1,t2⟩
 ·rw[e,Decidable.not_not.1 n0];rfl
 ·rw[e]
  have t2:t.ks.map Bg=i:=t2
  show Ng _ t=_
  unfold Ng
  rw[if_neg (by omega),if_neg (by omega),if_pos t1,t2]
theorem Nh:gnsZ []:=⟨by simp,(fun g hg=>by cases hg),by simp⟩
theorem Ia:rdnZ []:=⟨by simp,(fun g hg=>by cases hg),by simp⟩
theorem OE {t:Tr} (h:t.ok) (hl:t.enc.length≤3006):t.ks.length≤100000∧(∀k∈t.ks,k.gn)∧gnsZ (t.ks.map Bg):=by
 have hk:=Ji h
 have hc:=Tr.encs_two t.ks
 have hp:=t.parts
 have hm:=Ps (f:=fun k=>gnE (Bg k)) (C:=400) (l:=t.ks) fun k hm=>gW (hk k hm).1 (by have:=(hk k hm).2;omega)
 have hf:((t.ks.map Bg).map gnE).flatten.length≤400*(Tr.encs t.ks).length:=by rw[List.map_map];exact hm
 refine⟨by omega,fun k hm=>JY (hk k hm).1 (by have:=(hk k hm).2;omega),⟨by rw[List.length_map];omega,fun g hg=> ?_,by omega⟩⟩
 obtain⟨k,hm,rfl⟩:=List.mem_map.1 hg
 exact pM (hk k hm).1 (by have:=(hk k hm).2;omega)
structure nmZZ (f:List Gn) (r:List Att):Prop where
 f:gnsZ f
 r:rdnZ r
structure Pt.z (p:Pt):Prop where
 m:nmZZ p.f p.r
 i:gnsZ p.i
theorem JD {t:Tr} (h:t.ok) (hl:t.enc.length≤3004):nmZZ (Le t).1 (Le t).2:=by
 obtain⟨a1,a2⟩:=Jd h 0
 unfold Le
 split
 ·exact⟨(OE a1 (by omega)).2.2,Ia⟩
 ·exact⟨Nh,(Q5 a1 (by omega)).1⟩
theorem mQ:∀{ks:List Tr} {p:Pt},(∀k∈ks,k.ok∧k.enc.length≤3004)→p.z∧rsW p.s→(ks.foldl Ng p).z∧rsW (ks.foldl Ng p).s
 |[],_,_,h=>h
 |k::ks,p,h,h0=>by
  obtain⟨k1,k2⟩:=h k (by simp)
  rw[List.foldl_cons]
  refine mQ (fun y hy=>h y (by simp[hy])) ?_
  have:=NT k.v
  unfold Ng
  split
  ·exact⟨⟨JD k1 k2,h0.1.i⟩,h0.2⟩
  ·split
   ·exact⟨⟨h0.1.m,h0.1.i⟩,by unfold rsW;simp only;omega⟩
   ·split
    ·exact⟨⟨h0.1.m,(OE k1 (by omega)).2.2⟩,h0.2⟩
    ·exact h0
theorem cE {b:List UInt8} (hb:b.length≤3000):(Bt b).ks.length≤100000∧∀k∈(Bt b).ks,k.ok∧k.enc.length≤3004:=by
 obtain⟨s1,s2⟩:=pN hb
 have hk:=Ji s1
 have hc:=Tr.encs_two (Bt b).ks
 have hp:=(Bt b).parts
 exact⟨by omega,fun k hm=>⟨(hk k hm).1,by have:=(hk k hm).2;omega⟩⟩
structure Pt.sm (p:Pt):Prop where
 m:p.mid
 f:(Bm p.f).length≤400000000
 i:(Bm p.i).length≤400000000
structure Iss.sm (x:Iss):Prop where
 m:nmM x.f x.r
 f:(Bm x.f).length≤400000000
theorem CY {n:Nat} {c:Prop} [Decidable c] {v:Vl} (h:c):(vlC v).length≤(vsB (opt n c v)).flatten.length:=by
 unfold opt
 rw[if_pos h]
 show(vlC v).length≤[(vlT (n,v)).enc].flatten.length
 have:=Dp 2 n (vlK v) (vlC v)
 have e:(vlT (n,v)).enc=Ah 2 n (vlK v) (vlC v):=rfl
 simp only[List.flatten_cons,List.flatten_nil,List.append_nil]
 rw[e];omega
theorem CZ (vs:List (Nat×Vl)):(vsB vs).flatten.length+2≤(vsE vs).length:=by
 have:=Dp 0 16 true (vsB vs).flatten
 unfold vsE;omega
theorem Lf:gnsM []:=⟨by simp,(fun g hg=>by cases hg),by simp⟩
theorem DA {f:List Gn} {r:List Att} (h:nmW f r) (hl:f≠[]∨r≠[]→(nmC f r).length≤399000):nmM f r∧(Bm f).length≤399000:=by
 obtain⟨h1,h2⟩:=h
 by_cases hf:f=[]
 ·subst hf
  refine⟨⟨Lf,?_⟩,by simp[Bm]⟩
  by_cases hr:r=[]
  ·subst hr;exact Ia
  ·have hw:=h2.resolve_left hr
   have hq:=hl (.inr hr)
   unfold nmC at hq
   rw[if_pos rfl] at hq
   have e1:=Dp 2 1 true (Dj r)
   have e2:=As 0 17 true (Dj r) (by omega)
   exact(CH hw (by show(Ah 0 17 true (Dj r)).length≤_;omega)).1
 ·obtain⟨rfl,ha⟩:=h1.resolve_left hf
  have hq:=hl (.inl hf)
  unfold nmC at hq
  rw[if_neg hf] at hq
  have e1:=Dp 2 0 true (Bm f)
  exact⟨⟨Wv ha (by show(Bm f).length≤_;omega),Ia⟩,by omega⟩
theorem Zl {p:Pt} (h1:nmW p.f p.r) (h3:p.i=[]∨p.i.all gnW=true) (hl:(ptE p).length≤399000):p.sm:=by
 have hv:=CZ (Hf p)
 have hl:(vsE (Hf p)).length≤399000:=hl
 have hb:(vsB (Hf p)).flatten.length=(vsB (opt 0 (p.f≠[]∨p.r≠[]) (.nm p.f p.r))).flatten.length+((vsB (opt 1 (p.s≠0) (.rs p.s.toNat))).flatten.length+(vsB (opt 2 (p.i≠[]) (.is p.i))).flatten.length):=by
  unfold Hf
  rw[Ej,Ej,List.flatten_append,List.flatten_append,Ap,Ap]
 obtain⟨a,b⟩:=DA h1 fun h0=>by
  have:=CY (n:=0) (v:= .nm p.f p.r) h0
  have e:(vlC (.nm p.f p.r)).length=(nmC p.f p.r).length:=rfl
  omega
 have hi:(Bm p.i).length≤399000:=by
  by_cases h0:p.i=[]
  ·rw[h0];simp[Bm]
  ·have:=CY (n:=2) (v:= .is p.i) (show p.i≠[] from h0)
   have e:(vlC (.is p.i)).length=(Bm p.i).length:=rfl
   omega
 have hm:gnsM p.i:=by
  rcases h3 with h3|h3
  ·rw[h3];exact Lf
  ·exact Wv h3 (by show(Bm p.i).length≤_;omega)
 exact⟨⟨a,hm⟩,by omega,by omega⟩
theorem Xd {p:Pt} (h:ptW p=true) (hl:(ptE p).length≤399000):p.sm:=by
 obtain⟨h1,-,h3,-⟩:=H5.1 h
 exact Zl h1 h3 hl
theorem Pt.sm.put {p:Pt} (h:ptW p=true) (hs:p.sm):ptP (ptE p)=(some p,0,0):=OC h hs.m hs.f hs.i
theorem Iss.sm.put {x:Iss} (h:isW x=true) (hs:x.sm):isP (isE x)=(some x,0,0):=OD h hs.m hs.f
theorem qP (p:Pt):2≤(ptE p).length:=by
 have:=CZ (Hf p)
 unfold ptE;omega
theorem OF {p:Pt} (hs:p.sm):∃t:Tv,t.ok∧ptE p=t.enc:=by
 have:=Sf hs.m hs.f hs.i
 have:=hs.f
 have:=hs.i
 have:(Dj p.r).length≤90000000:=hs.m.m.r.e
 exact⟨⟨0,16,true,(vsB (Hf p)).flatten⟩,⟨by show(0:Nat)≤3;omega,by show(16:Nat)≤30;omega,by show(vsB (Hf p)).flatten.length≤_;omega⟩,rfl⟩
def Xe (b:List UInt8) (p:Pt):Bool:=ptW p&&(ptE p==b)
theorem DB {b:List UInt8} {c o:Nat} (h:ptP b=(none,c,o)) (hb:b.length≤3000):Xe b (D6 (Bt b))=false:=by
 cases hr:Xe b (D6 (Bt b)) with
 |false=>rfl
 |true=>
  generalize D6 (Bt b)=v at hr
  unfold Xe at hr
  rw[At,beq_iff_eq] at hr
  have:=(Xd hr.1 (by rw[hr.2];omega)).put hr.1
  rw[hr.2,h] at this;cases this
theorem vA {b:List UInt8} {p:Pt} (hw:ptW p=true) (he:b=ptE p) (hb:b.length≤3000):p.sm∧D6 (Bt b)=p∧Xe b p=true:=by
 have hm:=Xd hw (by rw[←he];omega)
 refine⟨hm,by rw[he];exact qO hw hm.m hm.f hm.i,?_⟩
 unfold Xe
 rw[hw,he,beq_self_eq_true];rfl
def Td (l:List Pt):Bool:= !l.isEmpty&&l.all ptW
def Jp (l:List Pt):List UInt8:=Ah 0 16 true (l.map ptE).flatten
theorem Lg {l:List Pt}:Td l=true↔l≠[]∧l.all ptW=true:=by
 unfold Td
 cases l<;>simp
def ptS:List (List UInt8)→Option (List Pt)
 |[]=>some []
 |p::r=>match(ptP p).1 with
  |none=>none
  |some g=>(ptS r).map (g:: ·)
def ptL (b:List UInt8):List El→Option (List Pt)×Nat×Nat
 |[]=>(some [],0,0)
 |x::r=>match ptP (elO b x) with
  |(none,c,o)=>(none,c,x.at'+o)
  |(some g,_)=>match ptL b r with
   |(some gs,_)=>(some (g::gs),0,0)
   |(none,p)=>(none,p)
def Xf (ms:List Pt):Option (List Pt)×Nat×Nat→Option (List Pt)×Nat×Nat
 |(some r,_)=>(some (ms++r),0,0)
 |(none,p)=>(none,p)
theorem Xg (b:List UInt8):∀l:List El,(ptL b l).1.isSome=true→(ptL b l).2=(0,0)
 |[],_=>rfl
 |x::r,h=>by
  rw[ptL] at h⊢
  cases hv:ptP (elO b x) with
  |mk o q=>
   rw[hv] at h
   cases o with
   |none=>cases h
   |some m=>
    simp only at h⊢
    cases hp:ptL b r with
    |mk o p=>rw[hp] at h;cases o with
     |none=>cases h
     |some ms=>rfl
theorem vB (b:List UInt8) (l:List El):Xf [] (ptL b l)=ptL b l:=by
 have h:=Xg b l
 cases hp:ptL b l with
 |mk o p=>
  rw[hp] at h
  cases o with
  |none=>rfl
  |some ms=>have:=h rfl;simp only at this;subst this;rfl
theorem mR {b:List UInt8} {x:El} {r:List El} {m:Pt} {q:Nat×Nat} (ms:List Pt) (hv:ptP (elO b x)=(some m,q)):Xf ms (ptL b (x::r))=Xf (ms++[m]) (ptL b r):=by
 rw[ptL,hv]
 simp only
 cases hp:ptL b r with
 |mk o p=>cases o with
  |none=>rfl
  |some l=>simp[Xf]
theorem cF (b:List UInt8):∀l:List El,(ptL b l).1=ptS (l.map (elO b))
 |[]=>rfl
 |x::r=>by
  have ih:=cF b r
  rw[ptL,List.map_cons,ptS]
  cases hv:ptP (elO b x) with
  |mk o q=>
   cases o with
   |none=>rfl
   |some m=>
    simp only
    rw[←ih]
    cases hp:ptL b r with
    |mk o p=>cases o<;>rfl
theorem qQ {b:List UInt8}:∀{l:List El},(∀x∈l,x.at'≤x.stop∧x.stop≤b.length∧(elO b x).length≤700000)→(ptL b l).1=none→(ptL b l).2.1≠0∧(ptL b l).2.2≤b.length
 |[],_,h=>by cases h
 |x::r,hx,h=>by
  have ih:=qQ (b:=b) (l:=r) fun y hy=>hx y (by simp[hy])
  obtain⟨x1,x2,x3⟩:=hx x (by simp)
  have ht:=Se (elO b x) x3
  have hle:=Pl b x
  rw[ptL] at h⊢
  cases hv:ptP (elO b x) with
  |mk o q=>
   rw[hv] at h ht
   cases o with
   |none=>
    rcases ht with⟨v,-,e⟩|⟨c,o,h1,h2,h3⟩
    ·cases e
    ·cases h3
     exact⟨h1,by show x.at'+o≤_;omega⟩
   |some m=>
    simp only at h⊢
    cases hp:ptL b r with
    |mk o p=>
     rw[hp] at h ih
     cases o with
     |none=>exact ih rfl
     |some ms=>cases h
theorem qR:∀{v:List Pt},v.all ptW=true→(∀m∈v,m.sm)→ptS (v.map ptE)=some v
 |[],_,_=>rfl
 |m::r,h,hs=>by
  rw[List.all_cons,At] at h
  rw[List.map_cons,ptS,(hs m (by simp)).put h.1]
  simp only
  rw[qR h.2 fun k hk=>hs k (by simp[hk])];rfl
theorem qS:∀{ps:List (List UInt8)} {v:List Pt},(∀p∈ps,p.length≤700000)→ptS ps=some v→v.all ptW=true∧ps=v.map ptE
 |[],v,_,h=>by
  rw[ptS] at h
  obtain rfl:=Option.some.inj h
  exact⟨rfl,rfl⟩
 |p::r,v,hl,h=>by
  rw[ptS] at h
  rcases Se p (hl p (by simp)) with⟨m,⟨k1,k2⟩,e⟩|⟨c,o,-,-,e⟩
  ·rw[e] at h
   simp only at h
   cases hr:ptS r with
   |none=>rw[hr] at h;cases h
   |some w=>
    rw[hr] at h
    obtain rfl:=Option.some.inj h
    obtain⟨k3,k4⟩:=qS (fun q hq=>hl q (by simp[hq])) hr
    exact⟨by rw[List.all_cons,k1,k3];rfl,by rw[List.map_cons,←k2,←k4]⟩
  ·rw[e] at h;cases h
def mS (b:List UInt8):Option (List Pt)×Nat×Nat:=
 if(A6 b 0 16).code≠0 then(none,(A6 b 0 16).code,(A6 b 0 16).off) else if(A6 b 0 16).l=[] then(none,1,b.length) else ptL b (A6 b 0 16).l
theorem JE (b:List UInt8) (hb:b.length≤700000):pT b.length (fun v=>v≠[]∧v.all ptW=true∧b=Jp v) (mS b):=by
 unfold mS
 by_cases h1:(A6 b 0 16).code≠0
 ·rw[if_pos h1]
  exact .inr ⟨_,_,h1,Hx b 0 16,rfl⟩
 rw[if_neg h1]
 have h1':=Decidable.not_not.1 h1
 obtain⟨ts,t1,t2,-,-,-⟩:=Iy h1'
 have hlt:(C6 ts).length≤700000:=by
  have:=congrArg List.length t2
  unfold Ah at this
  rw[E0] at this;omega
 obtain⟨q,e1,e2⟩:=Fg (c:=0) (n:=16) ts (by omega) (by omega) t1 (by omega)
 rw[←t2] at e1 e2
 rw[e1]
 by_cases h2:els q ts=[]
 ·rw[if_pos h2];exact .inr ⟨1,b.length,by omega,Nat.le_refl _,rfl⟩
 rw[if_neg h2]
 have hf:=cF b (els q ts)
 rw[e2] at hf
 have hoff:=qQ (b:=b) (l:=els q ts) fun x hx=>by
  have:=D4 (b:=b) (c:=0) (n:=16) (x:=x) (by rw[e1];exact hx)
  have:=N7 b x
  omega
 have hz:=Xg b (els q ts)
 show pT _ _ (ptL b (els q ts))
 cases hp:ptL b (els q ts) with
 |mk o p=>
  rw[hp] at hf hoff hz
  obtain⟨c,p⟩:=p
  simp only at hf hoff hz
  cases o with
  |none=>exact .inr ⟨c,p,(hoff rfl).1,(hoff rfl).2,rfl⟩
  |some v=>
   obtain⟨k1,k2⟩:=qS (fun p hp=>by
    have:=Gc hp
    rw[←Eg] at this;omega) hf.symm
   have hz:=hz rfl
   simp only[Prod.mk.injEq] at hz
   obtain⟨rfl,rfl⟩:=hz
   refine .inl ⟨v,⟨?_,k1,?_⟩,rfl⟩
   ·rintro rfl
    cases ts with
    |nil=>exact h2 rfl
    |cons t r=>simp at k2
   ·rw[t2]
    unfold Jp
    rw[Eg,k2]
theorem JF {v:List Pt} (h0:v≠[]) (h:v.all ptW=true) (hs:∀p∈v,p.sm) (hl:(v.map ptE).flatten.length≤2000000000):mS (Jp v)=(some v,0,0):=by
 obtain⟨ts,t1,t2⟩:=Qx (l:=v.map ptE) fun p hp=>by
  obtain⟨m,hm,rfl⟩:=List.mem_map.1 hp
  exact OF (hs m hm)
 have hfl:(v.map ptE).flatten=C6 ts:=by rw[t2,Eg]
 obtain⟨q,e1,e2⟩:=Fg (c:=0) (n:=16) ts (by omega) (by omega) t1 (by rw[←hfl];omega)
 have hf:=cF (Ah 0 16 true (C6 ts)) (els q ts)
 rw[e2,←t2,qR h hs] at hf
 unfold mS Jp
 rw[hfl,e1,if_neg (by simp),if_neg (by
  intro e
  have:=congrArg List.length e
  rw[Tz] at this
  have h3:=congrArg List.length t2
  rw[List.length_map,List.length_map] at h3
  exact h0 (List.eq_nil_of_length_eq_zero (by rw[h3];exact this)))]
 have hz:=Xg (Ah 0 16 true (C6 ts)) (els q ts) (by rw[hf];rfl)
 exact Prod.ext hf hz
set_option maxHeartbeats 16000000
def L2 (s:Int):Prop:= -9223372036854775808≤s∧s≤9223372036854775807
abbrev dpA (p:Pt):AV:= .agg [.d (Gy p.f),.d (Hh p.r),iv p.s,.d (Gy p.i)]
abbrev diA (x:Iss):AV:= .agg [.d (Gy x.f),.d (Hh x.r),bv x.u,bv x.c,bv x.n,bv x.a,iv x.s]
abbrev plA (f:List Gn) (r:List Att):AV:= .agg [.d (Gy f),.d (Hh r)]
def plV (f:List Gn) (r:List Att) (s:Int):Bool:=decide (nmW f r∧rsW s)
def Lh (f:List Gn) (r:List Att):Bool:=f.isEmpty&&r.isEmpty
theorem Rb {α:Type} {l:List α} (h:l≠[]):decide ((l.length:Int)>0)=true:=decide_eq_true (by have:=List.length_pos_iff.2 h;omega)
theorem Rc {α:Type} {l:List α} (h:l≠[]):((l.length:Int)==0)=false:=by
 rw[beq_eq_false_iff_ne];have:=List.length_pos_iff.2 h;omega
theorem Re {l:List Gn} (h:l≠[]):Nc l=l.all gnW:=by
 unfold Nc
 cases l with
 |nil=>exact absurd rfl h
 |cons a r=>rfl
theorem F6 {p:Prop} (h:p:=by first|rfl|(simp only[AV.gives,AV.ren,AV.give,D.un,D.uns,An,Ao,List.nil_append,List.append_nil,List.cons_append,Av,A9,Ca,Bn,Bd,B8,Ck,Bw,Bl,Bx,Bf];first|done|rfl)):p:=h
theorem vC (r:List Att) (hz:rdnZ r):Ab Tryz.prog 73 [.d (Hh r)] (fun x=>x=bv (Eh r)):=by
 have hM:=Pk r hz
 cases h:Eh r
 ·rw[h] at hM
  have hM:Ab Tryz.prog 47 [.d (Hh r)] (fun q=>q= .tup [A4,iv 8]):=hM
  refine acQ 12 Tryz.func73 rfl rfl fun _ _ _=> ?_
  (repeat'((conv=>whnf);refine Aa hM F6 ?_));(all_goals(conv=>whnf))
  all_goals exact zE
 ·rw[h] at hM
  have hM:Ab Tryz.prog 47 [.d (Hh r)] (fun q=>q= .tup [Bb 0 5 (Ct r),iv 0]):=hM
  refine acQ 12 Tryz.func73 rfl rfl fun _ _ _=> ?_
  (repeat'((conv=>whnf);refine Aa hM F6 ?_));(all_goals(conv=>whnf))
  all_goals exact zE
theorem iF (f:List Gn) (r:List Att):(f=[]∧r=[]∧nmW f r)∨(f=[]∧r≠[]∧Eh r=true∧nmW f r)∨(f=[]∧r≠[]∧Eh r=false∧¬nmW f r)∨(f≠[]∧r=[]∧Nc f=true∧nmW f r)∨(f≠[]∧r=[]∧Nc f=false∧¬nmW f r)∨(f≠[]∧r≠[]∧¬nmW f r):=by
 by_cases f0:f=[]<;>by_cases r0:r=[]
 ·exact .inl ⟨f0,r0,.inl f0,.inl r0⟩
 ·cases h:Eh r
  ·refine .inr (.inr (.inl ⟨f0,r0,rfl,fun hw=> ?_⟩))
   have:=hw.2.resolve_left r0
   rw[h] at this;cases this
  ·exact .inr (.inl ⟨f0,r0,rfl,.inl f0,.inr h⟩)
 ·have e:=Re f0
  cases h:Nc f
  ·refine .inr (.inr (.inr (.inr (.inl ⟨f0,r0,rfl,fun hw=> ?_⟩))))
   have:=(hw.1.resolve_left f0).2
   rw[←e,h] at this;cases this
  ·exact .inr (.inr (.inr (.inl ⟨f0,r0,rfl,.inr ⟨r0,by rw[←e,h]⟩,.inl r0⟩)))
 ·exact .inr (.inr (.inr (.inr (.inr ⟨f0,r0,fun hw=>r0 (hw.1.resolve_left f0).1⟩))))
theorem qT (f:List Gn) (r:List Att) (s:Int) (hf:gnsM f) (hr:rdnZ r) (hs:L2 s):Ab Tryz.prog 45 [plA f r,iv s] (fun q=>q=bv (plV f r s)):=by
 have hL:=Wx f hf
 have hR:=vC r hr
 have hfn:=hf.n
 have hrl:=hr.l
 obtain⟨s1,s2⟩:=hs
 rcases iF f r with⟨rfl,rfl,hw⟩|⟨rfl,h0,hv,hw⟩|⟨rfl,h0,hv,hw⟩|⟨h1,rfl,hv,hw⟩|⟨h1,rfl,hv,hw⟩|⟨h1,h0,hw⟩
 rotate_left 2
 ·have e:plV [] r s=false:=decide_eq_false fun h=>hw h.1
  have g0:=Rb h0
  rw[e]
  rw[hv] at hR
  refine acQ 40 Tryz.func45 rfl rfl fun _ _ _=> ?_
  (repeat'((conv=>whnf);first|refine zP ?_|refine Ac ?_|refine Ae ?_|refine Aa hR F6 ?_|exact zE))
 rotate_left 1
 ·have e:plV f [] s=false:=decide_eq_false fun h=>hw h.1
  have g1:=Rb h1
  rw[e]
  rw[hv] at hL
  refine acQ 40 Tryz.func45 rfl rfl fun _ _ _=> ?_
  (repeat'((conv=>whnf);first|refine zP ?_|refine Ac ?_|refine Ae ?_|refine Aa hL F6 ?_|exact zE))
 ·have e:plV f r s=false:=decide_eq_false fun h=>hw h.1
  have g0:=Rb h0
  have g1:=Rb h1
  rw[e]
  refine acQ 40 Tryz.func45 rfl rfl fun _ _ _=> ?_
  (repeat'((conv=>whnf);first|refine zP ?_|refine Ac ?_|exact zE))
 all_goals
  by_cases q0:s<0
  ·have e:∀f r,plV f r s=false:=fun f r=>decide_eq_false fun h=>by have:=h.2.1;omega
   have g3:decide (s≥0)=false:=decide_eq_false (by omega)
   rw[e]
   first|have g0:=Rb h0;rw[hv] at hR|have g1:=Rb h1;rw[hv] at hL|skip
   refine acQ 40 Tryz.func45 rfl rfl fun _ _ _=> ?_
   (repeat'((conv=>whnf);first|refine zP ?_|refine zN ?_|refine Ac ?_|refine Ae ?_|refine Aa hR F6 ?_|refine Aa hL F6 ?_|exact zE))
  ·obtain⟨n,rfl⟩:=Int.eq_ofNat_of_zero_le (Int.not_lt.1 q0)
   have g3:decide ((n:Int)≥0)=true:=decide_eq_true (by omega)
   have hsh:(n:Int).fdiv (2^(min (Int.toNat 9) IntKind.i64.bits))=((n/2^9:Nat):Int):=NU (i:=9) (by omega)
   have hle:=Nat.div_le_self n (2^9)
   have gz:(((n/2^9:Nat):Int)==0)=decide (rsW (n:Int)):=by
    rw[Bool.eq_iff_iff,beq_iff_eq,decide_eq_true_iff];unfold rsW;omega
   have e:∀f r,nmW f r→plV f r (n:Int)=decide (rsW (n:Int)):=fun f r h=>by
    unfold plV
    rw[Bool.eq_iff_iff,decide_eq_true_iff,decide_eq_true_iff]
    exact⟨fun a=>a.2,fun a=>⟨h,a⟩⟩
   rw[e _ _ hw]
   first|have g0:=Rb h0;rw[hv] at hR|have g1:=Rb h1;rw[hv] at hL|skip
   refine acQ 40 Tryz.func45 rfl rfl fun _ _ _=> ?_
   (repeat'((conv=>whnf);first|refine zP ?_|refine Ac ?_|refine Ae ?_|refine Aa hR F6 ?_|refine Aa hL F6 ?_|refine NInt.as (((n/2^9:Nat):Int)) (hsh) ?_|refine Au (by first|decide|omega|(simp only[Ag,List.length_nil];omega)) ?_));(all_goals(conv=>whnf))
   all_goals(refine A7 ?_;(repeat'(first|refine And.intro ?_ ?_|exact rfl));(all_goals(conv=>whnf)))
   all_goals(rw[gz])
theorem T7 (f:List Gn) (r:List Att) (hf:f.length≤1000000) (hr:r.length≤1000000):Ab Tryz.prog 20 [plA f r] (fun q=>q=bv (Lh f r)):=by
 have e:(((f.length:Int)+(r.length:Int))==0)=Lh f r:=by
  unfold Lh
  rw[Bool.eq_iff_iff,beq_iff_eq,At,List.isEmpty_iff,List.isEmpty_iff,←List.length_eq_zero_iff,←List.length_eq_zero_iff];omega
 refine acQ 11 Tryz.func20 rfl rfl fun _ _ _=> ?_
 (repeat'((conv=>whnf);(with_reducible refine NInt.i64 ?_)));(all_goals(conv=>whnf))
 all_goals(refine A7 ?_;(repeat'(first|refine And.intro ?_ ?_|exact rfl));(all_goals(conv=>whnf)))
 all_goals(rw[e])
theorem mT (p:Pt):ptW p=(plV p.f p.r p.s&&((p.i.isEmpty||Nc p.i)&&(!Lh p.f p.r|| !p.i.isEmpty))):=by
 have hg:p.i≠[]→Nc p.i=p.i.all gnW:=Re
 unfold ptW plV Lh
 obtain⟨f,r,s,i⟩:=p
 simp only at hg⊢
 rw[Bool.eq_iff_iff]
 simp only[decide_eq_true_iff,At,Bool.or_eq_true,Bool.not_eq_true',Bool.and_eq_false_iff,List.isEmpty_iff,List.isEmpty_eq_false_iff]
 constructor
 ·rintro⟨a,b,c,d⟩
  refine⟨⟨a,b⟩,?_,?_⟩
  ·by_cases i0:i=[]
   ·exact .inl i0
   ·exact .inr (by rw[hg i0];exact c.resolve_left i0)
  ·rcases d with d|d|d
   ·exact .inl (.inl d)
   ·exact .inl (.inr d)
   ·exact .inr d
 ·rintro⟨⟨a,b⟩,c,d⟩
  refine⟨a,b,?_,?_⟩
  ·by_cases i0:i=[]
   ·exact .inl i0
   ·exact .inr (by rw[←hg i0];exact c.resolve_left i0)
  ·rcases d with(d|d)|d
   ·exact .inl d
   ·exact .inr (.inl d)
   ·exact .inr (.inr d)
theorem Sg (p:Pt) (h:p.mid) (hs:L2 p.s):Ab Tryz.prog 19 [dpA p] (fun q=>q=bv (ptW p)):=by
 have hV:=qT p.f p.r p.s h.m.f h.m.r hs
 have hE:=T7 p.f p.r h.m.f.n (by have:=h.m.r.l;omega)
 have hG:=Wx p.i h.i
 have hn:=h.i.n
 rw[mT]
 obtain⟨f,r,s,i⟩:=p
 simp only at hV hE hG hn⊢
 clear h hs
 generalize plV f r s=w at hV⊢
 generalize Lh f r=m at hE⊢
 cases w
 ·refine acQ 35 Tryz.func19 rfl rfl fun _ _ _=> ?_
  (repeat'((conv=>whnf);first|refine Ae ?_|refine Aa hV F6 ?_|exact zE))
 by_cases i0:i=[]
 ·subst i0
  cases m
  all_goals
   refine acQ 35 Tryz.func19 rfl rfl fun _ _ _=> ?_
   (repeat'((conv=>whnf);first|refine Ac ?_|refine Ae ?_|refine Aa hV F6 ?_|refine Aa hE F6 ?_|exact zE))
 ·have g0:=Rc i0
  have g1:=Rb i0
  rw[show i.isEmpty=false from List.isEmpty_eq_false_iff.2 i0]
  cases w:Nc i
  all_goals rw[w] at hG
  ·refine acQ 35 Tryz.func19 rfl rfl fun _ _ _=> ?_
   (repeat'((conv=>whnf);first|refine zN ?_|refine Ac ?_|refine Ae ?_|refine Aa hV F6 ?_|refine Aa hG F6 ?_|exact zE))
  ·cases m
   all_goals
    refine acQ 35 Tryz.func19 rfl rfl fun _ _ _=> ?_
    (repeat'((conv=>whnf);first|refine zN ?_|refine Ac ?_|refine Ae ?_|refine Aa hV F6 ?_|refine Aa hG F6 ?_|refine Aa hE F6 ?_));(all_goals(conv=>whnf))
    all_goals(refine A7 ?_;(repeat'(first|exact Be _|refine And.intro ?_ ?_|exact rfl));(all_goals(conv=>whnf)))
    all_goals(first|rfl|(rw[g1];rfl))
theorem Fy {P:Program} {C:Cx} {o:Oper} {σ:AS} {t:Nat} {x:Operand} {k i:Nat} (ho:o.op= .nilCheck x) (hd:o.dst=some t) (ht:t<C.N) (hx:σ.eval x=some (.ptr k i)):Bp P C o σ (σ.put t (.ptr k i)):=
 Ba hd ht fun a w bm gt fp hg=>by
  have h:=hg.eval hx
  generalize hv:a.eval x=v at h
  cases h with
  |ptr=>exact⟨_,by simp only[execOp,ho,hv];rfl,.ptr⟩
theorem mU:Ab Tryz.prog 24 [A4,iv 8] (fun r=>r= .tup [A4,iv 8]):=by
 refine acQ 24 Tryz.func24 rfl rfl fun _ _ _=> ?_
 (repeat'((conv=>whnf);refine Ac ?_));(all_goals(conv=>whnf))
 all_goals exact zE
theorem Fk {p:Prop} (h:p:=by first|rfl|(simp only[AV.gives,AV.ren,AV.give,D.un,D.uns,An,Ao,List.nil_append,List.append_nil,List.cons_append,AV.share,AV.shares,Av,A9,Ca,Bn,Bd,B8,Ck,Bw,Bl,Bx,Bf];first|done|rfl)):p:=h
theorem cG (c n:Nat) (k:Bool) (v:List UInt8) (hc1:c≤3) (hn:n≤30) (hl:v.length≤900000000):Ab Tryz.prog 24 [.d (Af false (Ah c n k v)),iv 0] (fun r=>r= .tup [.d (Af false v),iv 0]):=by
 obtain⟨h,hO,hL,hd,-⟩:=GI c n k v hc1 hn hl
 have hel:=As c n k v (by omega)
 generalize Ah c n k v=b at hO hL hd hel⊢
 have hd0:(b.drop h).take (b.length-h)=v:=hd
 refine acQ 24 Tryz.func24 rfl rfl fun _ _ _=> ?_
 (repeat'((conv=>whnf);first|refine Ae ?_|refine Aa hO Fk ?_|(refine NSl.bytes h b.length v hd0 ?_)|refine zF ?_|exact zE))
theorem Zm (f:List Gn) (r:List Att) (hf:gnsM f) (hr:rdnZ r) (hw:nmW f r) (h0:f≠[]∨r≠[]) (hfl:(Bm f).length≤400000000):Ab Tryz.prog 22 [plA f r] (fun q=>q= .tup [Bb 0 5 (Ah 2 0 true (nmC f r)),iv 0]):=by
 have hrl:(Dj r).length≤90000000:=hr.e
 have hnc:=L0 ⟨hf,hr⟩
 have hfn:=hf.n
 have hM:=Ww f hf
 have hW2:=D3 2 0 true (nmC f r) (by omega) (by omega) (by omega)
 by_cases f0:f=[]
 ·subst f0
  have r0:=h0.resolve_left fun h=>h rfl
  have hv:=hw.2.resolve_left r0
  have hM:Ab Tryz.prog 25 [.d (Gy [])] (fun q=>q= .tup [A4,iv 8]):=hM
  have hI:=mU
  have hR:=Pk r hr
  rw[hv] at hR
  have hR:Ab Tryz.prog 47 [.d (Hh r)] (fun q=>q= .tup [Bb 0 5 (Ah 0 17 true (Dj r)),iv 0]):=hR
  have hJ:=cG 0 17 true (Dj r) (by omega) (by omega) (by omega)
  have hW1:=D3 2 1 true (Dj r) (by omega) (by omega) (by omega)
  have e:Ah 2 1 true (Dj r)=nmC [] r:=by unfold nmC;rw[if_pos rfl]
  rw[e] at hW1
  generalize Ah 2 0 true (nmC [] r)=w2 at hW2⊢
  generalize nmC [] r=w1 at hW1 hW2
  generalize Ah 0 17 true (Dj r)=w0 at hR hJ
  generalize Dj r=w at hJ hW1
  refine acQ 48 Tryz.func22 rfl rfl fun _ _ _=> ?_
  (repeat'((conv=>whnf);first|refine Ac ?_|refine Ae ?_|refine Aa hM rfl ?_|refine Aa hI rfl ?_|refine Aa hR Fk ?_|refine Aa hJ Fk ?_|refine Aa hW1 Fk ?_|refine Aa hW2 Fk ?_|exact zE))
 ·obtain⟨rfl,ha⟩:=hw.1.resolve_left f0
  have hv:Nc f=true:=by rw[Re f0];exact ha
  have g0:=Rc f0
  rw[hv] at hM
  have hM:Ab Tryz.prog 25 [.d (Gy f)] (fun q=>q= .tup [Bb 0 5 (Ah 0 16 true (Bm f)),iv 0]):=hM
  have hJ:=cG 0 16 true (Bm f) (by omega) (by omega) (by omega)
  have hW1:=D3 2 0 true (Bm f) (by omega) (by omega) (by omega)
  have e:Ah 2 0 true (Bm f)=nmC f []:=by unfold nmC;rw[if_neg f0]
  rw[e] at hW1
  generalize Ah 2 0 true (nmC f [])=w2 at hW2⊢
  generalize nmC f []=w1 at hW1 hW2
  generalize Ah 0 16 true (Bm f)=w0 at hM hJ
  generalize Bm f=w at hJ hW1
  refine acQ 48 Tryz.func22 rfl rfl fun _ _ _=> ?_
  (repeat'((conv=>whnf);first|refine zN ?_|refine Ae ?_|refine Aa hM Fk ?_|refine Aa hJ Fk ?_|refine Aa hW1 Fk ?_|refine Aa hW2 Fk ?_|exact zE))
def Jq (p:Pt):List (List UInt8):=(if p.f≠[]∨p.r≠[] then [Ah 2 0 true (nmC p.f p.r)] else [])++((if p.s≠0 then [Ah 2 1 false (Dd p.s.toNat)] else [])++(if p.i≠[] then [Ah 2 2 true (Bm p.i)] else []))
theorem Iq {n:Nat} {c:Prop} [Decidable c] {v:Vl}:vsB (opt n c v)=if c then [Ah 2 n (vlK v) (vlC v)] else []:=by
 unfold opt vsB
 split<;>rfl
theorem Rf (p:Pt):vsB (Hf p)=Jq p:=by
 unfold Hf Jq
 rw[Ej,Ej,Iq,Iq,Iq]
 rfl
theorem Jk {f:List Gn} {r:List Att}:Lh f r=false↔f≠[]∨r≠[]:=by
 unfold Lh
 rw[Bool.and_eq_false_iff,List.isEmpty_eq_false_iff,List.isEmpty_eq_false_iff]
theorem mV {s:Int} (h:rsW s):L2 s:=by unfold rsW at h;unfold L2;omega
theorem Li (p:Pt) (h:p.sm) (hs:L2 p.s):Ab Tryz.prog 8 [dpA p] (fun q=>q=Oh (ptW p) (ptE p)):=by
 have hV:=Sg p h.m hs
 cases hw:ptW p
 ·rw[hw] at hV
  show Ab _ _ _ (fun q=>q= .tup [A4,iv 8])
  refine acQ 54 Tryz.func8 rfl rfl fun _ _ _=> ?_
  (repeat'((conv=>whnf);first|refine Ac ?_|refine Aa hV Fk ?_|exact zE))
 rw[hw] at hV
 show Ab _ _ _ (fun q=>q= .tup [Bb 0 5 (ptE p),iv 0])
 obtain⟨w1,w2,w3,w4⟩:=H5.1 hw
 have hl:=Sf h.m h.f h.i
 have hr:(Dj p.r).length≤90000000:=h.m.m.r.e
 have hf:=h.f
 have hi:=h.i
 have hS:=Nw (Jq p) (by rw[←Rf];omega) (by unfold Jq;split<;>split<;>split<;>simp)
 have eS:Ah 0 16 true (Jq p).flatten=ptE p:=by rw[←Rf];rfl
 rw[eS] at hS
 have hE:=T7 p.f p.r h.m.m.f.n (by have:=h.m.m.r.l;omega)
 have hN:=Zm p.f p.r h.m.m.f h.m.m.r w1
 have hB:=Zi p.s.toNat (by unfold rsW at w2;omega)
 have hq:=E1 p.s.toNat
 have hW1:=D3 2 1 false (Dd p.s.toNat) (by omega) (by omega) (by omega)
 have hG:=Ww p.i h.m.i
 have hJ:=cG 0 16 true (Bm p.i) (by omega) (by omega) (by omega)
 have hW2:=D3 2 2 true (Bm p.i) (by omega) (by omega) (by omega)
 have hin:=h.m.i.n
 unfold Jq at hS
 generalize ptE p=R at hS⊢
 clear hw eS hl hr
 obtain⟨f,r,s,i⟩:=p
 simp only at*
 clear h hs
 obtain⟨n,rfl⟩:=Int.eq_ofNat_of_zero_le w2.1
 rw[Int.toNat_natCast] at*
 have hk:(Lh f r=true∧¬(f≠[]∨r≠[]))∨(Lh f r=false∧(f≠[]∨r≠[])):=by
  cases e:Lh f r
  ·exact .inr ⟨rfl,Jk.1 e⟩
  ·refine .inl ⟨rfl,fun h=> ?_⟩
   rw[Jk.2 h] at e;cases e
 have hn0:(n=0∧((n:Int) !=0)=false∧¬((n:Int)≠0))∨(((n:Int) !=0)=true∧(n:Int)≠0):=by
  by_cases h:n=0
  ·exact .inl ⟨h,by rw[h];rfl,by omega⟩
  ·exact .inr ⟨by rw[bne_iff_ne];omega,by omega⟩
 have hi0:(i=[]∧¬(i≠[]))∨(i≠[]∧decide ((i.length:Int)>0)=true∧Nc i=true):=by
  by_cases h:i=[]
  ·exact .inl ⟨h,fun a=>a h⟩
  ·exact .inr ⟨h,Rb h,by rw[Re h];exact w3.resolve_left h⟩
 generalize Dd n=sl at hB hW1 hS hq
 generalize Ah 2 1 false sl=p1 at hW1 hS
 generalize nmC f r=nc at hN hS
 generalize Ah 2 0 true nc=p0 at hN hS
 generalize Ah 2 2 true (Bm i)=p2 at hW2 hS
 clear hq w4
 rcases hi0 with⟨rfl,i1⟩|⟨i1,gi,gw⟩
 all_goals rcases hk with⟨em,e0⟩|⟨em,e0⟩
 all_goals rcases hn0 with⟨rfl,gn,n0⟩|⟨gn,n0⟩
 all_goals
  rw[em] at hE
  first|rw[if_neg i1] at hS|(rw[if_pos i1] at hS;rw[gw] at hG;have hG:Ab Tryz.prog 25 [.d (Gy i)] (fun q=>q= .tup [Bb 0 5 (Ah 0 16 true (Bm i)),iv 0]):=hG)
  first|rw[if_neg e0] at hS|(rw[if_pos e0] at hS;have hN:=hN e0 hf)
  first|rw[if_neg n0] at hS|rw[if_pos n0] at hS
  simp only[List.nil_append,List.cons_append,List.append_nil] at hS
  refine acQ 54 Tryz.func8 rfl rfl fun _ _ _=> ?_
  (repeat'((conv=>whnf);first|refine zP ?_|refine zN ?_|refine Ac ?_|refine Ae ?_|refine Aa hV Fk ?_|refine Aa hE Fk ?_|refine Aa hN Fk ?_|(refine NStep.inl 200 32 _ C2 mixed rfl rfl rfl Tryz.func23 rfl (by kernel_rfl) rfl rfl rfl rfl (fun gh=> ?_))|(refine NStep.inl 300 25 _ C2 mixed rfl rfl rfl Tryz.func21 rfl (by kernel_rfl) rfl rfl rfl rfl (fun gh=> ?_))|(refine NStep.inl 400 20 _ C2 mixed rfl rfl rfl Tryz.func27 rfl (by kernel_rfl) rfl rfl rfl rfl (fun gh=> ?_))|refine Aa hB rfl ?_|refine Aa hW1 Fk ?_|refine Aa hG Fk ?_|refine Aa hJ Fk ?_|refine Aa hW2 Fk ?_|refine Aj (Wb 0 rfl rfl rfl (ltN rfl) rfl rfl) ?_|refine Aj (Fy rfl rfl (ltN rfl) rfl) ?_|(refine H3 1 _ ?_)|(refine H3 2 _ ?_)|(refine H3 3 _ ?_)|refine Aa hS Fk ?_|refine Bk hS Mq ?_|exact zE))
def PX (u c a:Bool):Bool:= !(u&&c)&&(!(u&&a)&& !(c&&a))
theorem OG (x:Iss):isW x=(plV x.f x.r x.s&&(PX x.u x.c x.a&&(!Lh x.f x.r||(x.u||(x.c||x.a))||x.n||(x.s !=0)))):=by
 obtain⟨f,r,u,c,n,a,s⟩:=x
 have e:=@Jk f r
 unfold isW plV Xc Zk PX
 simp only
 rw[Bool.eq_iff_iff]
 simp only[decide_eq_true_iff,At,Bool.or_eq_true,Bool.not_eq_true',bne_iff_ne,e]
 cases u<;>cases c<;>cases a<;>simp[and_assoc,or_assoc]
theorem mW {p:Prop} (h:p:=by first|rfl|(simp only[AV.gives,AV.ren,AV.give,D.un,D.uns,An,Ao,List.nil_append,List.append_nil,List.cons_append,AV.share,AV.shares,Av,A9,Ca,Bn,Bd,B8,Ck,Bw,Bl,Bx,Bf];first|done|rfl)):p:=h
theorem vD (x:Iss) (h:nmM x.f x.r) (hs:L2 x.s):Ab Tryz.prog 38 [diA x] (fun q=>q=bv (isW x)):=by
 have hV:=qT x.f x.r x.s h.f h.r hs
 have hE:=T7 x.f x.r h.f.n (by have:=h.r.l;omega)
 rw[OG]
 obtain⟨f,r,u,c,n,a,s⟩:=x
 simp only at hV hE⊢
 clear h hs
 generalize plV f r s=w at hV⊢
 generalize Lh f r=m at hE⊢
 cases w
 ·cases u<;>cases c<;>cases a
  all_goals
   refine acQ 50 Tryz.func38 rfl rfl fun _ _ _=> ?_
   (repeat'((conv=>whnf);first|refine Ac ?_|refine Ae ?_|refine Aa hV mW ?_|(refine O6 100 6 #[] C2 mixed rfl rfl rfl rfl Tryz.func69 rfl (by kernel_rfl) rfl rfl rfl rfl (fun gh=> ?_))|(with_reducible refine NInt.i64 ?_)|exact zE))
 ·cases u<;>cases c<;>cases a<;>cases m<;>cases n
  all_goals
   refine acQ 50 Tryz.func38 rfl rfl fun _ _ _=> ?_
   (repeat'((conv=>whnf);first|refine Ac ?_|refine Ae ?_|refine Aa hV mW ?_|refine Aa hE mW ?_|(refine O6 100 6 #[] C2 mixed rfl rfl rfl rfl Tryz.func69 rfl (by kernel_rfl) rfl rfl rfl rfl (fun gh=> ?_))|(with_reducible refine NInt.i64 ?_)|exact zE))
end Go.Proofs.YtokmjjkbginodaaGreatDoor
