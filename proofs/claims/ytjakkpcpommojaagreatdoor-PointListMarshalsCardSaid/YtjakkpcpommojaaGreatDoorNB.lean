/- NB: the texts PtP PtQ PtR PtL Pla Plm Pli, one behind the other. No condition but what each lemma says. -/
import Derived.Test.YtjakkpcpommojaaGreatDoorMW
import Derived.Test.YtjakkpcpommojaaGreatDoorNA
import Derived.Test.YtjakkpcpommojaaGreatDoorMT
import Derived.Test.YtjakkpcpommojaaGreatDoorMJ
namespace Go.Proofs.YtjakkpcpommojaaGreatDoor
open Go.RowKit
set_option maxRecDepth 100000
inductive Vl where
 |nm (f:List Gn) (r:List Att)
 |rs (s:Nat)
 |is (i:List Gn)
 |fl
def Dy (r:List Att):List UInt8:=(r.map atE).flatten
def nmC (f:List Gn) (r:List Att):List UInt8:=if f=[] then Ah 2 1 true (Dy r) else Ah 2 0 true (Br f)
def vlC:Vl→List UInt8
 | .nm f r=>nmC f r
 | .rs s=>Dx s
 | .is i=>Br i
 | .fl=>[255]
def vlK:Vl→Bool
 | .nm _ _=>true
 | .rs _=>false
 | .is _=>true
 | .fl=>false
abbrev vlT (p:Nat×Vl):Tv:=⟨2,p.1,vlK p.2,vlC p.2⟩
def vlW (k:UInt8):Vl→Prop
 | .nm f r=>k=110∧((f≠[]∧r=[]∧f.all gnW=true)∨(f=[]∧Eg r=true))
 | .rs s=>k=114∧0<s∧s<512
 | .is i=>k=105∧i≠[]∧i.all gnW=true
 | .fl=>k=102
def Vl.mid:Vl→Prop
 | .nm f r=>gnsM f∧rdnZ r
 | .rs _=>True
 | .is i=>gnsM i
 | .fl=>True
def E8 (c:List UInt8):Option (List Gn):=(aF (Ah 0 16 true c)).1
def Gs (c:List UInt8):Option Vl:=match Bn c 0 with
 |some d=>(E8 d).map fun f=> .nm f []
 |none=>match Bn c 1 with
  |some d=>(Ir (Ah 0 17 true d)).1.map fun r=> .nm [] r
  |none=>none
def vlO (k:UInt8) (c:List UInt8):Option Vl:=if k=110 then Gs c else if k=114 then(R1 c).map .rs else if k=105 then(E8 c).map .is else if c=[255] then some .fl else none
def kOk (k:UInt8):Prop:=k=110∨k=114∨k=105∨k=102
theorem Vk {l:List Gn} (h0:l≠[]) (h:l.all gnW=true) (hs:gnsM l):E8 (Br l)=some l:=by
 have:=EN h0 h hs
 show(aF (R0 l)).1=_
 rw[this]
theorem Og {c:List UInt8} {l:List Gn} (h:E8 c=some l) (hl:c.length≤700000):l≠[]∧l.all gnW=true∧c=Br l:=by
 unfold E8 at h
 have hel:=Aq 0 16 true c (by omega)
 rcases nP (Ah 0 16 true c) (by omega) with⟨v,v0,v1,v2,v3⟩|⟨a,o,-,-,c2⟩
 ·rw[v3] at h
  obtain rfl:=Option.some.inj h
  have hl2:(Br v).length≤2147483647:=by
   have:=Dd 0 16 true (Br v)
   have e:Ah 0 16 true (Br v)=R0 v:=rfl
   rw[e,←v2] at this;omega
  exact⟨v0,v1,fA (c:=0) (n:=16) (k:=true) (by omega) (by omega) (by omega) hl2 v2⟩
 ·rw[c2] at h;cases h
theorem Vm {b v:List UInt8} {n:Nat} (h:Bn b n=some v):v.length≤b.length:=by
 have:=Dd 2 n true v
 rw[G8 h];omega
theorem kO {n m:Nat} {v:List UInt8} (hn:n≤30) (hv:v.length≤2147483600) (h:n≠m):Bn (Ah 2 n true v) m=none:=by
 have:=Od (t:=⟨2,n,true,v⟩) ⟨by show(2:Nat)≤3;omega,hn,by show v.length≤_;omega⟩ m
 rw[if_neg (by simp;exact fun e=>h e)] at this
 exact this
theorem kP {f:List Gn} {r:List Att} (h:(f≠[]∧r=[]∧f.all gnW=true)∨(f=[]∧Eg r=true)) (hs:gnsM f∧rdnZ r):Gs (nmC f r)=some (.nm f r):=by
 rcases h with⟨h0,rfl,h1⟩|⟨rfl,h1⟩
 ·have:=hs.1.e
  unfold Gs nmC
  rw[if_neg h0,Is (by omega) (by show(Br f).length≤_;unfold Br;omega)]
  show(E8 (Br f)).map _=_
  rw[Vk h0 h1 hs.1];rfl
 ·have:=hs.2.e
  unfold Gs nmC
  rw[if_pos rfl,kO (by omega) (by unfold Dy;omega) (by omega),Is (by omega) (by unfold Dy;omega)]
  show((Ir (C8 r)).1).map _=_
  rw[eK h1 hs.2];rfl
theorem kQ {c:List UInt8} {v:Vl} (h:Gs c=some v) (hl:c.length≤700000):∃f r,v= .nm f r∧((f≠[]∧r=[]∧f.all gnW=true)∨(f=[]∧Eg r=true))∧c=nmC f r:=by
 unfold Gs at h
 cases h0:Bn c 0 with
 |some d=>
  rw[h0] at h
  have e:=G8 h0
  have hd:=Vm h0
  have h:(E8 d).map (fun f=>Vl.nm f [])=some v:=h
  cases hn:E8 d with
  |none=>rw[hn] at h;cases h
  |some f=>
   rw[hn] at h
   obtain rfl:=Option.some.inj h
   obtain⟨n0,n1,n2⟩:=Og hn (by omega)
   refine⟨f,[],rfl,.inl ⟨n0,rfl,n1⟩,?_⟩
   unfold nmC
   rw[if_neg n0,←n2];exact e
 |none=>
  rw[h0] at h
  have h:(match Bn c 1 with|some d=>(Ir (Ah 0 17 true d)).1.map (fun r=>Vl.nm [] r)|none=>none)=some v:=h
  cases h1:Bn c 1 with
  |none=>rw[h1] at h;cases h
  |some d=>
   rw[h1] at h
   have e:=G8 h1
   have hd:=Vm h1
   have h:(Ir (Ah 0 17 true d)).1.map (fun r=>Vl.nm [] r)=some v:=h
   cases hn:(Ir (Ah 0 17 true d)).1 with
   |none=>rw[hn] at h;cases h
   |some r=>
    rw[hn] at h
    obtain rfl:=Option.some.inj h
    have hel:=Aq 0 17 true d (by omega)
    obtain⟨n1,n2⟩:=eL hn (by omega)
    refine⟨[],r,rfl,.inr ⟨rfl,n1⟩,?_⟩
    have hl2:(Dy r).length≤2147483647:=by
     have:=Dd 0 17 true (Dy r)
     have e:Ah 0 17 true (Dy r)=C8 r:=rfl
     rw[e,←n2] at this;omega
    have:d=Dy r:=fA (c:=0) (n:=17) (k:=true) (by omega) (by omega) (by omega) hl2 n2
    unfold nmC
    rw[if_pos rfl,←this];exact e
theorem EV {k:UInt8} {v:Vl} (h:vlW k v) (hs:v.mid):vlO k (vlC v)=some v:=by
 cases v with
 |nm f r=>
  obtain⟨rfl,h⟩:=h
  show Gs (nmC f r)=_
  exact kP h hs
 |rs s=>
  obtain⟨rfl,h0,h1⟩:=h
  show(R1 (Dx s)).map Vl.rs=_
  rw[zC h1 (by omega)];rfl
 |is i=>
  obtain⟨rfl,h0,h1⟩:=h
  show(E8 (Br i)).map Vl.is=_
  rw[Vk h0 h1 hs];rfl
 |fl=>
  obtain rfl:k=102:=h
  rfl
theorem EW {k:UInt8} {c:List UInt8} {v:Vl} (hk:kOk k) (h:vlO k c=some v) (hl:c.length≤700000):vlW k v∧c=vlC v:=by
 rcases hk with rfl|rfl|rfl|rfl
 ·obtain⟨f,r,rfl,h1,h2⟩:=kQ (show Gs c=some v from h) hl
  exact⟨⟨rfl,h1⟩,h2⟩
 ·have h:(R1 c).map Vl.rs=some v:=h
  cases hn:R1 c with
  |none=>rw[hn] at h;cases h
  |some s=>
   rw[hn] at h
   obtain rfl:=Option.some.inj h
   obtain⟨a1,a2,a3⟩:=zD hn
   exact⟨⟨rfl,a1,a2⟩,a3⟩
 ·have h:(E8 c).map Vl.is=some v:=h
  cases hn:E8 c with
  |none=>rw[hn] at h;cases h
  |some s=>
   rw[hn] at h
   obtain rfl:=Option.some.inj h
   obtain⟨a1,a2,a3⟩:=Og hn hl
   exact⟨⟨rfl,a1,a2⟩,a3⟩
 ·have h:(if c=[255] then some Vl.fl else none)=some v:=h
  by_cases hc:c=[255]
  ·rw[if_pos hc] at h
   obtain rfl:=Option.some.inj h
   exact⟨rfl,hc⟩
  ·rw[if_neg hc] at h;cases h
def EX (k:UInt8):Bool:=k==110||k==105
theorem nV {k:UInt8} {v:Vl} (h:vlW k v):vlK v=EX k:=by
 cases v with
 |nm f r=>obtain⟨rfl,-⟩:=h;rfl
 |rs s=>obtain⟨rfl,-⟩:=h;rfl
 |is i=>obtain⟨rfl,-⟩:=h;rfl
 |fl=>obtain rfl:k=102:=h;rfl
structure Dr where
 f:List Gn
 r:List Att
 s:Nat
 i:List Gn
 fl:Nat→Bool
def dr0:Dr:=⟨[],[],0,[],fun _=>false⟩
def Dr.set (d:Dr) (n:Nat):Vl→Dr
 | .nm f r=>if f=[] then{d with r:=r} else{d with f:=f}
 | .rs s=>{d with s:=s}
 | .is i=>{d with i:=i}
 | .fl=>{d with fl:=fun m=>m==n||d.fl m}
def drF (b k:List UInt8):List El→Int→Dr→Option Dr×Nat×Nat
 |[],_,d=>(some d,0,0)
 |x::l,last,d=>if x.c≠2∨k.length≤x.n∨(x.n:Int)≤last then(none,3,x.at') else if x.k≠EX (k.getD x.n 0) then(none,3,x.at') else match vlO (k.getD x.n 0) (bod b x) with
  |none=>(none,6,x.body)
  |some v=>drF b k l x.n (d.set x.n v)
def rdD (b k:List UInt8):Option Dr×Nat×Nat:=if(Aw b 0 16).code≠0 then(none,(Aw b 0 16).code,(Aw b 0 16).off) else drF b k (Aw b 0 16).l (-1) dr0
def asc (m:Nat):Int→List (Nat×Vl)→Prop
 |_,[]=>True
 |last,p::r=>last<p.1∧p.1<m∧asc m p.1 r
def M9 (d:Dr) (vs:List (Nat×Vl)):Dr:=vs.foldl (fun d p=>d.set p.1 p.2) d
def vsW (k:List UInt8) (vs:List (Nat×Vl)):Prop:=∀p∈vs,vlW (k.getD p.1 0) p.2
theorem nW {b k:List UInt8} (hb:b.length≤700000) (hk:∀x∈k,kOk x):∀(ts:List Tv) (a:Nat) (last:Int) (d:Dr),(els a ts).map (elO b)=ts.map Tv.enc→(∀x∈els a ts,x.stop≤b.length)→pT b.length (fun d'=>∃vs,asc k.length last vs∧vsW k vs∧ts=vs.map vlT∧d'=M9 d vs) (drF b k (els a ts) last d)
 |[],a,last,d,_,_=> .inl ⟨d,⟨[],trivial,(fun _ h=>by cases h),rfl,rfl⟩,rfl⟩
 |t::ts,a,last,d,h,hin=>by
  obtain⟨e1,e2,e3,e4,e5,e6⟩:=nQ h hin
  have e3':a+t.hd≤(t.el a).stop:=e3
  rw[e1,drF]
  by_cases h1:(t.el a).c≠2∨k.length≤(t.el a).n∨((t.el a).n:Int)≤last
  ·rw[if_pos h1]
   exact .inr ⟨3,a,by omega,by omega,rfl⟩
  rw[if_neg h1]
  by_cases h2:(t.el a).k≠EX (k.getD (t.el a).n 0)
  ·rw[if_pos h2]
   exact .inr ⟨3,a,by omega,by omega,rfl⟩
  rw[if_neg h2]
  have hn:t.n<k.length:=by
   have:(t.el a).n=t.n:=rfl
   omega
  have hko:kOk (k.getD (t.el a).n 0):=by
   show kOk (k.getD t.n 0)
   rw[List.getD_eq_getElem?_getD,List.getElem?_eq_getElem hn,Option.getD_some]
   exact hk _ (List.getElem_mem hn)
  rw[e2]
  have hvl:t.v.length≤700000:=by
   rw[←e2];unfold bod;rw[List.length_take,List.length_drop];omega
  cases hv:vlO (k.getD (t.el a).n 0) t.v with
  |none=>exact .inr ⟨6,_,by omega,Nat.le_trans e3 e4,rfl⟩
  |some v=>
   obtain⟨v1,v2⟩:=EW hko hv hvl
   have hc:t.c=2:=by
    have:(t.el a).c=t.c:=rfl
    omega
   have hkk:t.k=vlK v:=by
    rw[nV v1]
    exact Decidable.not_not.1 h2
   have ht:t=vlT (t.n,v):=by
    obtain⟨c,n,kk,w⟩:=t
    simp only at hc hkk v2
    subst hc hkk v2
    rfl
   rcases nW hb hk ts _ (t.el a).n (d.set (t.el a).n v) e5 e6 with⟨d',⟨vs,w1,w2,w3,w4⟩,w5⟩|hbad
   ·refine .inl ⟨d',⟨(t.n,v)::vs,⟨by show last<(t.n:Int);have:(t.el a).n=t.n:=rfl;omega,hn,w1⟩,?_,?_,w4⟩,w5⟩
    ·intro p hp
     rcases List.mem_cons.1 hp with rfl|hp
     ·exact v1
     ·exact w2 p hp
    ·rw[List.map_cons,←ht,←w3]
   ·exact .inr hbad
theorem nX {b k:List UInt8}:∀(vs:List (Nat×Vl)) (a:Nat) (last:Int) (d:Dr),(els a (vs.map vlT)).map (elO b)=(vs.map vlT).map Tv.enc→(∀x∈els a (vs.map vlT),x.stop≤b.length)→asc k.length last vs→vsW k vs→(∀p∈vs,p.2.mid)→drF b k (els a (vs.map vlT)) last d=(some (M9 d vs),0,0)
 |[],_,_,_,_,_,_,_,_=>rfl
 |p::vs,a,last,d,h,hin,ha,hw,hm=>by
  rw[List.map_cons] at h hin⊢
  obtain⟨e1,e2,e3,e4,e5,e6⟩:=nQ h hin
  obtain⟨a1,a2,a3⟩:=ha
  have hw0:=hw p (by simp)
  rw[e1,drF]
  have c1:((vlT p).el a).c=2:=rfl
  have c2:((vlT p).el a).n=p.1:=rfl
  have c3:((vlT p).el a).k=vlK p.2:=rfl
  rw[if_neg (by rw[c1,c2];simp only[ne_eq,not_true_eq_false,false_or,not_or];omega),if_neg (by rw[c3,c2,nV hw0];simp),e2,c2]
  show(match vlO (k.getD p.1 0) (vlC p.2) with|none=>(none,6,((vlT p).el a).body)|some v=>drF b k (els (a+(vlT p).enc.length) (vs.map vlT)) p.1 (d.set p.1 v))=_
  rw[EV hw0 (hm p (by simp))]
  exact nX vs _ p.1 (d.set p.1 p.2) e5 e6 a3 (fun q hq=>hw q (by simp[hq])) fun q hq=>hm q (by simp[hq])
def vsB (vs:List (Nat×Vl)):List (List UInt8):=vs.map fun p=>(vlT p).enc
def vsE (vs:List (Nat×Vl)):List UInt8:=Ah 0 16 true (vsB vs).flatten
theorem kR (vs:List (Nat×Vl)):(vsB vs).flatten=Cm (vs.map vlT):=by
 rw[Ef,List.map_map];rfl
theorem aH {b k:List UInt8} (hb:b.length≤700000) (hk:∀x∈k,kOk x):pT b.length (fun d'=>∃vs,asc k.length (-1) vs∧vsW k vs∧b=vsE vs∧d'=M9 dr0 vs) (rdD b k):=by
 unfold rdD
 by_cases h1:(Aw b 0 16).code≠0
 ·rw[if_pos h1]
  exact .inr ⟨_,_,h1,Iq b 0 16,rfl⟩
 rw[if_neg h1]
 obtain⟨ts,t1,t2,-,-,hl⟩:=Kc (Decidable.not_not.1 h1)
 obtain⟨q,p1,p2,-,-⟩:=Vg (c:=0) (n:=16) ts (by omega) (by omega) t1 hl
 rw[←t2] at p1 p2
 have hin:∀x∈els q ts,x.stop≤b.length:=fun x hx=>by
  have:=Ds (b:=b) (c:=0) (n:=16) (x:=x) (by rw[p1];exact hx)
  omega
 rw[p1]
 rcases nW hb hk ts q (-1) dr0 p2 hin with⟨d',⟨vs,w1,w2,w3,w4⟩,w5⟩|hbad
 ·refine .inl ⟨d',⟨vs,w1,w2,?_,w4⟩,w5⟩
  unfold vsE
  rw[kR,←w3];exact t2
 ·exact .inr hbad
theorem nY {k:List UInt8} {vs:List (Nat×Vl)} (ha:asc k.length (-1) vs) (hw:vsW k vs) (hm:∀p∈vs,p.2.mid) (hn:k.length≤30) (hc:∀p∈vs,(vlC p.2).length≤900000000) (hl:(vsB vs).flatten.length≤2147483647):rdD (vsE vs) k=(some (M9 dr0 vs),0,0):=by
 have hlt:∀(vs:List (Nat×Vl)) (last:Int),asc k.length last vs→∀p∈vs,p.1<k.length:=by
  intro vs
  induction vs with
  |nil=>intro _ _ p hp;cases hp
  |cons q r ih=>
   intro last h p hp
   rcases List.mem_cons.1 hp with rfl|hp
   ·exact h.2.1
   ·exact ih _ h.2.2 p hp
 have tok:∀t∈vs.map vlT,t.ok:=fun t ht=>by
  obtain⟨p,hp,rfl⟩:=List.mem_map.1 ht
  have:=hc p hp
  have:=hlt vs _ ha p hp
  exact⟨by show(2:Nat)≤3;omega,by show p.1≤30;omega,by show(vlC p.2).length≤_;omega⟩
 rw[kR] at hl
 obtain⟨q,p1,p2,-,-⟩:=Vg (c:=0) (n:=16) (vs.map vlT) (by omega) (by omega) tok hl
 have hb:vsE vs=Ah 0 16 true (Cm (vs.map vlT)):=by unfold vsE;rw[kR]
 rw[hb]
 generalize Ah 0 16 true (Cm (vs.map vlT))=b at p1 p2
 have hin:∀x∈els q (vs.map vlT),x.stop≤b.length:=fun x hx=>by
  have:=Ds (b:=b) (c:=0) (n:=16) (x:=x) (by rw[p1];exact hx)
  omega
 unfold rdD
 rw[p1,if_neg (by simp)]
 exact nX vs q (-1) dr0 p2 hin ha hw hm
structure Pt where
 f:List Gn
 r:List Att
 s:Int
 i:List Gn
 deriving DecidableEq
structure Iss where
 f:List Gn
 r:List Att
 u:Bool
 c:Bool
 n:Bool
 a:Bool
 s:Int
 deriving DecidableEq
def opt (n:Nat) (c:Prop) [Decidable c] (v:Vl):List (Nat×Vl):=if c then [(n,v)] else []
def nmW (f:List Gn) (r:List Att):Prop:=(f=[]∨r=[]∧f.all gnW=true)∧(r=[]∨Eg r=true)
instance (f:List Gn) (r:List Att):Decidable (nmW f r):=by unfold nmW;infer_instance
def rsW (s:Int):Prop:=0≤s∧s<512
instance (s:Int):Decidable (rsW s):=by unfold rsW;infer_instance
def Iv (p:Pt):List (Nat×Vl):=opt 0 (p.f≠[]∨p.r≠[]) (.nm p.f p.r)++(opt 1 (p.s≠0) (.rs p.s.toNat)++opt 2 (p.i≠[]) (.is p.i))
def Jo (x:Iss):List (Nat×Vl):=opt 0 (x.f≠[]∨x.r≠[]) (.nm x.f x.r)++(opt 1 (x.u=true) .fl++(opt 2 (x.c=true) .fl++(opt 3 (x.s≠0) (.rs x.s.toNat)++(opt 4 (x.n=true) .fl++opt 5 (x.a=true) .fl))))
def ptE (p:Pt):List UInt8:=vsE (Iv p)
def isE (x:Iss):List UInt8:=vsE (Jo x)
def ptW (p:Pt):Bool:=decide (nmW p.f p.r∧rsW p.s∧(p.i=[]∨p.i.all gnW=true)∧(p.f≠[]∨p.r≠[]∨p.i≠[]))
def Ps (x:Iss):Prop:=¬(x.u=true∧x.c=true)∧¬(x.u=true∧x.a=true)∧¬(x.c=true∧x.a=true)
def Rv (x:Iss):Prop:=x.f≠[]∨x.r≠[]∨x.u=true∨x.c=true∨x.n=true∨x.a=true∨x.s≠0
instance (x:Iss):Decidable (Ps x):=by unfold Ps;infer_instance
instance (x:Iss):Decidable (Rv x):=by unfold Rv;infer_instance
def isW (x:Iss):Bool:=decide (nmW x.f x.r∧rsW x.s∧Ps x∧Rv x)
abbrev k3:List UInt8:=[110,114,105]
abbrev k6:List UInt8:=[110,102,102,114,102,102]
theorem GB:∀x∈k3,kOk x:=by simp[kOk]
theorem MF:∀x∈k6,kOk x:=by simp[kOk]
theorem Ff {m n:Nat} {last:Int} {vs:List (Nat×Vl)} (hl:last=(n:Int)-1) (h:asc m last vs):∃o:Option Vl,∃vs',vs=(o.map fun v=>(n,v)).toList++vs'∧asc m n vs':=by
 cases vs with
 |nil=>exact⟨none,[],rfl,trivial⟩
 |cons p r=>
  obtain⟨h1,h2,h3⟩:=h
  by_cases hp:p.1=n
  ·refine⟨some p.2,r,?_,by rw[hp] at h3;exact h3⟩
   show p::r=(n,p.2)::r
   rw[←hp]
  ·exact⟨none,p::r,rfl,by omega,h2,h3⟩
theorem nZ {m n:Nat} {vs:List (Nat×Vl)} (h:asc m n vs) (hn:m≤n+1):vs=[]:=by
 cases vs with
 |nil=>rfl
 |cons p r=>obtain⟨h1,h2,-⟩:=h;omega
theorem H2 {k:List UInt8} {a b:List (Nat×Vl)} (h:vsW k (a++b)):vsW k a∧vsW k b:=⟨fun p hp=>h p (by simp[hp]),fun p hp=>h p (by simp[hp])⟩
theorem MG {k:List UInt8} {n:Nat} {o:Option Vl} (hk:k.getD n 0=110) (h:vsW k (o.map fun v=>(n,v)).toList):∃f r,(o.map fun v=>(n,v)).toList=opt n (f≠[]∨r≠[]) (.nm f r)∧nmW f r:=by
 cases o with
 |none=>exact⟨[],[],rfl,.inl rfl,.inl rfl⟩
 |some v=>
  have hv:vlW (k.getD n 0) v:=h (n,v) (by simp)
  rw[hk] at hv
  cases v with
  |nm f r=>
   obtain⟨-,h|h⟩:=hv
   ·obtain⟨h0,rfl,h1⟩:=h
    exact⟨f,[],by unfold opt;rw[if_pos (.inl h0)];rfl,.inr ⟨rfl,h1⟩,.inl rfl⟩
   ·obtain⟨rfl,h1⟩:=h
    exact⟨[],r,by unfold opt;rw[if_pos (.inr (Sj h1).1)];rfl,.inl rfl,.inr h1⟩
  |rs s=>exact absurd hv.1 (by decide)
  |is i=>exact absurd hv.1 (by decide)
  |fl=>exact absurd (show(110:UInt8)=102 from hv) (by decide)
theorem MH {k:List UInt8} {n:Nat} {o:Option Vl} (hk:k.getD n 0=114) (h:vsW k (o.map fun v=>(n,v)).toList):∃s:Int,(o.map fun v=>(n,v)).toList=opt n (s≠0) (.rs s.toNat)∧rsW s:=by
 cases o with
 |none=>exact⟨0,rfl,by unfold rsW;omega⟩
 |some v=>
  have hv:vlW (k.getD n 0) v:=h (n,v) (by simp)
  rw[hk] at hv
  cases v with
  |nm f r=>exact absurd hv.1 (by decide)
  |rs s=>
   obtain⟨-,h0,h1⟩:=hv
   exact⟨s,by unfold opt;rw[if_pos (by omega)];rfl,by unfold rsW;omega⟩
  |is i=>exact absurd hv.1 (by decide)
  |fl=>exact absurd (show(114:UInt8)=102 from hv) (by decide)
theorem NE {k:List UInt8} {n:Nat} {o:Option Vl} (hk:k.getD n 0=105) (h:vsW k (o.map fun v=>(n,v)).toList):∃i:List Gn,(o.map fun v=>(n,v)).toList=opt n (i≠[]) (.is i)∧(i=[]∨i.all gnW=true):=by
 cases o with
 |none=>exact⟨[],rfl,.inl rfl⟩
 |some v=>
  have hv:vlW (k.getD n 0) v:=h (n,v) (by simp)
  rw[hk] at hv
  cases v with
  |nm f r=>exact absurd hv.1 (by decide)
  |rs s=>exact absurd hv.1 (by decide)
  |is i=>
   obtain⟨-,h0,h1⟩:=hv
   exact⟨i,by unfold opt;rw[if_pos h0];rfl,.inr h1⟩
  |fl=>exact absurd (show(105:UInt8)=102 from hv) (by decide)
theorem EY {k:List UInt8} {n:Nat} {o:Option Vl} (hk:k.getD n 0=102) (h:vsW k (o.map fun v=>(n,v)).toList):∃b:Bool,(o.map fun v=>(n,v)).toList=opt n (b=true) .fl:=by
 cases o with
 |none=>exact⟨false,rfl⟩
 |some v=>
  have hv:vlW (k.getD n 0) v:=h (n,v) (by simp)
  rw[hk] at hv
  cases v with
  |nm f r=>exact absurd hv.1 (by decide)
  |rs s=>exact absurd hv.1 (by decide)
  |is i=>exact absurd hv.1 (by decide)
  |fl=>exact⟨true,rfl⟩
theorem GC {vs:List (Nat×Vl)} (h:asc 3 (-1) vs) (hw:vsW k3 vs):∃p:Pt,vs=Iv p∧nmW p.f p.r∧rsW p.s∧(p.i=[]∨p.i.all gnW=true):=by
 obtain⟨o0,v1,rfl,h1⟩:=Ff (n:=0) (by omega) h
 obtain⟨o1,v2,rfl,h2⟩:=Ff (n:=1) (by omega) h1
 obtain⟨o2,v3,rfl,h3⟩:=Ff (n:=2) (by omega) h2
 obtain rfl:=nZ h3 (by omega)
 obtain⟨w0,hw⟩:=H2 hw
 obtain⟨w1,hw⟩:=H2 hw
 obtain⟨w2,-⟩:=H2 hw
 obtain⟨f,r,e0,q0⟩:=MG rfl w0
 obtain⟨s,e1,q1⟩:=MH rfl w1
 obtain⟨i,e2,q2⟩:=NE rfl w2
 exact⟨⟨f,r,s,i⟩,by rw[e0,e1,e2,List.append_nil];rfl,q0,q1,q2⟩
theorem MI {vs:List (Nat×Vl)} (h:asc 6 (-1) vs) (hw:vsW k6 vs):∃x:Iss,vs=Jo x∧nmW x.f x.r∧rsW x.s:=by
 obtain⟨o0,v1,rfl,h1⟩:=Ff (n:=0) (by omega) h
 obtain⟨o1,v2,rfl,h2⟩:=Ff (n:=1) (by omega) h1
 obtain⟨o2,v3,rfl,h3⟩:=Ff (n:=2) (by omega) h2
 obtain⟨o3,v4,rfl,h4⟩:=Ff (n:=3) (by omega) h3
 obtain⟨o4,v5,rfl,h5⟩:=Ff (n:=4) (by omega) h4
 obtain⟨o5,v6,rfl,h6⟩:=Ff (n:=5) (by omega) h5
 obtain rfl:=nZ h6 (by omega)
 obtain⟨w0,hw⟩:=H2 hw
 obtain⟨w1,hw⟩:=H2 hw
 obtain⟨w2,hw⟩:=H2 hw
 obtain⟨w3,hw⟩:=H2 hw
 obtain⟨w4,hw⟩:=H2 hw
 obtain⟨w5,-⟩:=H2 hw
 obtain⟨f,r,e0,q0⟩:=MG rfl w0
 obtain⟨u,e1⟩:=EY rfl w1
 obtain⟨c,e2⟩:=EY rfl w2
 obtain⟨s,e3,q3⟩:=MH rfl w3
 obtain⟨n,e4⟩:=EY rfl w4
 obtain⟨a,e5⟩:=EY rfl w5
 exact⟨⟨f,r,u,c,n,a,s⟩,by rw[e0,e1,e2,e3,e4,e5,List.append_nil];rfl,q0,q3⟩
theorem Iw (d:Dr) (a b:List (Nat×Vl)):M9 d (a++b)=M9 (M9 d a) b:=List.foldl_append
theorem Pu (d:Dr) (n:Nat) (c:Prop) [Decidable c] (v:Vl):M9 d (opt n c v)=if c then d.set n v else d:=by
 unfold opt
 split<;>rfl
theorem oA {f:List Gn} {r:List Att} (h:nmW f r):M9 dr0 (opt 0 (f≠[]∨r≠[]) (.nm f r))=⟨f,r,0,[],fun _=>false⟩:=by
 rw[Pu]
 by_cases h0:f=[]
 ·subst h0
  by_cases h1:r=[]
  ·subst h1;rfl
  ·rw[if_pos (.inr h1)];rfl
 ·obtain⟨h|⟨rfl,-⟩,-⟩:=h
  ·exact absurd h h0
  ·rw[if_pos (.inl h0)]
   show(if f=[] then _ else _)=_
   rw[if_neg h0];rfl
theorem oB (d:Dr) (n:Nat) {s:Int} (h:rsW s) (h0:d.s=0):M9 d (opt n (s≠0) (.rs s.toNat))={d with s:=s.toNat}:=by
 rw[Pu]
 by_cases hs:s=0
 ·subst hs
  rw[if_neg (by simp)]
  obtain⟨f,r,s,i,fl⟩:=d
  simp only at h0
  subst h0;rfl
 ·rw[if_pos hs];rfl
theorem EZ (d:Dr) (n:Nat) {i:List Gn} (h0:d.i=[]):M9 d (opt n (i≠[]) (.is i))={d with i:=i}:=by
 rw[Pu]
 by_cases hs:i=[]
 ·subst hs
  rw[if_neg (by simp)]
  obtain⟨f,r,s,i,fl⟩:=d
  simp only at h0
  subst h0;rfl
 ·rw[if_pos hs];rfl
theorem Sp (d:Dr) (n:Nat) (b:Bool):M9 d (opt n (b=true) .fl)={d with fl:=fun m=>(b&&m==n)||d.fl m}:=by
 rw[Pu]
 cases b
 ·rw[if_neg (by simp)]
  obtain⟨f,r,s,i,fl⟩:=d
  simp only[Bool.false_and,Bool.false_or]
 ·rw[if_pos rfl]
  show({d with fl:=fun m=>m==n||d.fl m}:Dr)=_
  simp only[Bool.true_and]
def fC (d:Dr):Pt:=⟨d.f,d.r,d.s,d.i⟩
def kS (d:Dr):Iss:=⟨d.f,d.r,d.fl 1,d.fl 2,d.fl 4,d.fl 5,d.s⟩
theorem aI {p:Pt} (h:nmW p.f p.r) (hs:rsW p.s):fC (M9 dr0 (Iv p))=p:=by
 obtain⟨f,r,s,i⟩:=p
 unfold Iv
 simp only at h hs⊢
 rw[Iw,oA h,Iw,oB _ 1 hs rfl,EZ _ 2 rfl]
 obtain⟨h0,-⟩:=hs
 show Pt.mk f r (s.toNat:Int) i=_
 rw[Int.toNat_of_nonneg h0]
theorem oC {x:Iss} (h:nmW x.f x.r) (hs:rsW x.s):kS (M9 dr0 (Jo x))=x:=by
 obtain⟨f,r,u,c,n,a,s⟩:=x
 unfold Jo
 simp only at h hs⊢
 rw[Iw,oA h,Iw,Sp,Iw,Sp,Iw,oB _ 3 hs rfl,Iw,Sp,Sp]
 obtain⟨h0,-⟩:=hs
 show Iss.mk f r _ _ _ _ (s.toNat:Int)=_
 rw[Int.toNat_of_nonneg h0]
 cases u<;>cases c<;>cases n<;>cases a<;>rfl
def ptP (b:List UInt8):Option Pt×Nat×Nat:=match rdD b k3 with
 |(none,c,o)=>(none,c,o)
 |(some d,_)=>if ptW (fC d)=true then(some (fC d),0,0) else(none,6,0)
def isP (b:List UInt8):Option Iss×Nat×Nat:=match rdD b k6 with
 |(none,c,o)=>(none,c,o)
 |(some d,_)=>if isW (kS d)=true then(some (kS d),0,0) else(none,6,0)
theorem kU (b:List UInt8) (hb:b.length≤700000):pT b.length (fun p=>ptW p=true∧b=ptE p) (ptP b):=by
 unfold ptP
 rcases aH (k:=k3) hb GB with⟨d,⟨vs,w1,w2,w3,w4⟩,w5⟩|⟨c,o,h1,h2,h3⟩
 ·rw[w5]
  obtain⟨p,rfl,q1,q2,q3⟩:=GC w1 w2
  have hd:fC d=p:=by rw[w4];exact aI q1 q2
  simp only
  rw[hd]
  by_cases hw:ptW p=true
  ·rw[if_pos hw];exact .inl ⟨p,⟨hw,w3⟩,rfl⟩
  ·rw[if_neg hw];exact .inr ⟨6,0,by omega,Nat.zero_le _,rfl⟩
 ·rw[h3];exact .inr ⟨c,o,h1,h2,rfl⟩
structure nmM (f:List Gn) (r:List Att):Prop where
 f:gnsM f
 r:rdnZ r
structure Pt.mid (p:Pt):Prop where
 m:nmM p.f p.r
 i:gnsM p.i
theorem Dp {n:Nat} {c:Prop} [Decidable c] {v:Vl} {p:Nat×Vl} (h:p∈opt n c v):c∧p=(n,v):=by
 unfold opt at h
 by_cases hc:c
 ·rw[if_pos hc,List.mem_singleton] at h;exact⟨hc,h⟩
 ·rw[if_neg hc] at h;cases h
theorem K5 {m n:Nat} {last:Int} {c:Prop} [Decidable c] {v:Vl} {vs:List (Nat×Vl)} (h1:last<n) (h2:n<m) (h:∀l:Int,l≤n→asc m l vs):asc m last (opt n c v++vs):=by
 unfold opt
 split
 ·exact⟨h1,h2,h n (Int.le_refl _)⟩
 ·exact h last (by omega)
theorem fD {m n:Nat} {c:Prop} [Decidable c] {v:Vl} (h2:n<m):∀l:Int,l<n→asc m l (opt n c v):=fun l hl=>by
 unfold opt
 split
 ·exact⟨hl,h2,trivial⟩
 ·trivial
theorem KG (p:Pt):asc 3 (-1) (Iv p):=by
 unfold Iv
 exact K5 (by omega) (by omega) fun l hl=>K5 (by omega) (by omega) fun l hl=>fD (by omega) l (by omega)
theorem KH (x:Iss):asc 6 (-1) (Jo x):=by
 unfold Jo
 exact K5 (by omega) (by omega) fun l hl=>K5 (by omega) (by omega) fun l hl=>K5 (by omega) (by omega) fun l hl=>K5 (by omega) (by omega) fun l hl=>K5 (by omega) (by omega) fun l hl=>fD (by omega) l (by omega)
theorem zU {f:List Gn} {r:List Att} (h:nmW f r) (h0:f≠[]∨r≠[]):vlW 110 (.nm f r):=by
 refine⟨rfl,?_⟩
 obtain⟨h1,h2⟩:=h
 by_cases hf:f=[]
 ·exact .inr ⟨hf,h2.resolve_left (h0.resolve_left fun h=>h hf)⟩
 ·obtain⟨a,b⟩:=h1.resolve_left hf
  exact .inl ⟨hf,a,b⟩
theorem zV {s:Int} (h:rsW s) (h0:s≠0):vlW 114 (.rs s.toNat):=⟨rfl,by unfold rsW at h;omega,by unfold rsW at h;omega⟩
theorem KI {p:Pt} (h:nmW p.f p.r) (hs:rsW p.s) (hi:p.i=[]∨p.i.all gnW=true):vsW k3 (Iv p):=by
 intro q hq
 unfold Iv at hq
 simp only[List.mem_append] at hq
 rcases hq with hq|hq|hq
 ·obtain⟨h0,rfl⟩:=Dp hq
  exact zU h h0
 ·obtain⟨h0,rfl⟩:=Dp hq
  exact zV hs h0
 ·obtain⟨h0,rfl⟩:=Dp hq
  exact⟨rfl,h0,hi.resolve_left h0⟩
theorem KJ {x:Iss} (h:nmW x.f x.r) (hs:rsW x.s):vsW k6 (Jo x):=by
 intro q hq
 unfold Jo at hq
 simp only[List.mem_append] at hq
 rcases hq with hq|hq|hq|hq|hq|hq
 ·obtain⟨h0,rfl⟩:=Dp hq
  exact zU h h0
 ·obtain⟨h0,rfl⟩:=Dp hq
  rfl
 ·obtain⟨h0,rfl⟩:=Dp hq
  rfl
 ·obtain⟨h0,rfl⟩:=Dp hq
  exact zV hs h0
 ·obtain⟨h0,rfl⟩:=Dp hq
  rfl
 ·obtain⟨h0,rfl⟩:=Dp hq
  rfl
def Vl.sz (v:Vl):Prop:=v.mid∧(vlC v).length≤850000000
theorem Gt (s:Nat):(Dx s).length≤3:=by
 unfold Dx
 split
 ·simp
 ·split<;>simp
theorem Pv {f:List Gn} {r:List Att} (h:nmM f r):(nmC f r).length≤(Br f).length+(Dy r).length+6:=by
 have a:=h.f.e
 have b:=h.r.e
 have e1:=Aq 2 1 true (Dy r) (by unfold Dy;omega)
 have e2:=Aq 2 0 true (Br f) (by unfold Br;omega)
 unfold nmC
 split<;>omega
theorem K6 {n:Nat} {c:Prop} [Decidable c] {v:Vl} (h:(vlC v).length≤900000000):(vsB (opt n c v)).flatten.length≤(vlC v).length+6:=by
 unfold opt vsB
 split
 ·have:=Aq 2 n (vlK v) (vlC v) (by omega)
  have e:(vlT (n,v)).enc=Ah 2 n (vlK v) (vlC v):=rfl
  simp only[List.map_cons,List.map_nil,List.flatten_cons,List.flatten_nil,List.append_nil]
  rw[e];omega
 ·simp
theorem Dz (a b:List (Nat×Vl)):vsB (a++b)=vsB a++vsB b:=List.map_append
theorem aJ {p:Pt} (h:p.mid) (hf:(Br p.f).length≤400000000) (hi:(Br p.i).length≤400000000):(vsB (Iv p)).flatten.length≤(Br p.f).length+(Dy p.r).length+(Br p.i).length+40:=by
 have hc:=Pv h.m
 have hr:(Dy p.r).length≤90000000:=h.m.r.e
 have hs:=Gt p.s.toNat
 have a:=K6 (n:=0) (c:=p.f≠[]∨p.r≠[]) (v:= .nm p.f p.r) (by show(nmC p.f p.r).length≤_;omega)
 have b:=K6 (n:=1) (c:=p.s≠0) (v:= .rs p.s.toNat) (by show(Dx p.s.toNat).length≤_;omega)
 have c:=K6 (n:=2) (c:=p.i≠[]) (v:= .is p.i) (by show(Br p.i).length≤_;omega)
 have a':(vlC (.nm p.f p.r)).length=(nmC p.f p.r).length:=rfl
 have b':(vlC (.rs p.s.toNat)).length=(Dx p.s.toNat).length:=rfl
 have c':(vlC (.is p.i)).length=(Br p.i).length:=rfl
 unfold Iv
 rw[Dz,Dz,List.flatten_append,List.flatten_append,List.length_append,List.length_append]
 omega
theorem kV {x:Iss} (h:nmM x.f x.r) (hf:(Br x.f).length≤400000000):(vsB (Jo x)).flatten.length≤(Br x.f).length+(Dy x.r).length+70:=by
 have hc:=Pv h
 have hr:(Dy x.r).length≤90000000:=h.r.e
 have hs:=Gt x.s.toNat
 have a:=K6 (n:=0) (c:=x.f≠[]∨x.r≠[]) (v:= .nm x.f x.r) (by show(nmC x.f x.r).length≤_;omega)
 have b:=K6 (n:=3) (c:=x.s≠0) (v:= .rs x.s.toNat) (by show(Dx x.s.toNat).length≤_;omega)
 have hl:(vlC .fl).length=1:=rfl
 have c1:=K6 (n:=1) (c:=x.u=true) (v:= .fl) (by omega)
 have c2:=K6 (n:=2) (c:=x.c=true) (v:= .fl) (by omega)
 have c3:=K6 (n:=4) (c:=x.n=true) (v:= .fl) (by omega)
 have c4:=K6 (n:=5) (c:=x.a=true) (v:= .fl) (by omega)
 have a':(vlC (.nm x.f x.r)).length=(nmC x.f x.r).length:=rfl
 have b':(vlC (.rs x.s.toNat)).length=(Dx x.s.toNat).length:=rfl
 unfold Jo
 rw[Dz,Dz,Dz,Dz,Dz]
 simp only[List.flatten_append,List.length_append]
 omega
theorem Pw {p:Pt}:ptW p=true↔nmW p.f p.r∧rsW p.s∧(p.i=[]∨p.i.all gnW=true)∧(p.f≠[]∨p.r≠[]∨p.i≠[]):=by
 unfold ptW;exact decide_eq_true_iff
theorem Sq {x:Iss}:isW x=true↔nmW x.f x.r∧rsW x.s∧Ps x∧Rv x:=by
 unfold isW;exact decide_eq_true_iff
theorem KK {p:Pt} (h:ptW p=true) (hs:p.mid) (hf:(Br p.f).length≤400000000) (hi:(Br p.i).length≤400000000):ptP (ptE p)=(some p,0,0):=by
 obtain⟨h1,h2,h3,-⟩:=Pw.1 h
 have hl:=aJ hs hf hi
 have hr:(Dy p.r).length≤90000000:=hs.m.r.e
 have hc:=Pv hs.m
 have hq:=Gt p.s.toNat
 have hmem:∀q∈Iv p,q.2.mid∧(vlC q.2).length≤900000000:=fun q hq'=>by
  unfold Iv at hq'
  simp only[List.mem_append] at hq'
  rcases hq' with hq'|hq'|hq'
  ·obtain⟨-,rfl⟩:=Dp hq'
   exact⟨⟨hs.m.f,hs.m.r⟩,by show(nmC p.f p.r).length≤_;omega⟩
  ·obtain⟨-,rfl⟩:=Dp hq'
   exact⟨trivial,by show(Dx p.s.toNat).length≤_;omega⟩
  ·obtain⟨-,rfl⟩:=Dp hq'
   exact⟨hs.i,by show(Br p.i).length≤_;omega⟩
 have:=nY (k:=k3) (KG p) (KI h1 h2 h3) (fun q hq=>(hmem q hq).1) (by simp) (fun q hq=>(hmem q hq).2) (by omega)
 unfold ptP ptE
 rw[this]
 simp only
 rw[aI h1 h2,if_pos h]
theorem KM {x:Iss} (h:isW x=true) (hs:nmM x.f x.r) (hf:(Br x.f).length≤400000000):isP (isE x)=(some x,0,0):=by
 obtain⟨h1,h2,-⟩:=Sq.1 h
 have hl:=kV hs hf
 have hr:(Dy x.r).length≤90000000:=hs.r.e
 have hc:=Pv hs
 have hq:=Gt x.s.toNat
 have hmem:∀q∈Jo x,q.2.mid∧(vlC q.2).length≤900000000:=fun q hq'=>by
  unfold Jo at hq'
  simp only[List.mem_append] at hq'
  rcases hq' with hq'|hq'|hq'|hq'|hq'|hq'
  ·obtain⟨-,rfl⟩:=Dp hq'
   exact⟨⟨hs.f,hs.r⟩,by show(nmC x.f x.r).length≤_;omega⟩
  ·obtain⟨-,rfl⟩:=Dp hq'
   exact⟨trivial,by show(1:Nat)≤_;omega⟩
  ·obtain⟨-,rfl⟩:=Dp hq'
   exact⟨trivial,by show(1:Nat)≤_;omega⟩
  ·obtain⟨-,rfl⟩:=Dp hq'
   exact⟨trivial,by show(Dx x.s.toNat).length≤_;omega⟩
  ·obtain⟨-,rfl⟩:=Dp hq'
   exact⟨trivial,by show(1:Nat)≤_;omega⟩
  ·obtain⟨-,rfl⟩:=Dp hq'
   exact⟨trivial,by show(1:Nat)≤_;omega⟩
 have:=nY (k:=k6) (KH x) (KJ h1 h2) (fun q hq=>(hmem q hq).1) (by simp) (fun q hq=>(hmem q hq).2) (by omega)
 unfold isP isE
 rw[this]
 simp only
 rw[oC h1 h2,if_pos h]
def is0:Iss:=⟨[],[],false,false,false,false,0⟩
theorem Px:rdnZ []:=⟨by simp,(fun g hg=>by cases hg),by simp⟩
structure nmZZ (f:List Gn) (r:List Att):Prop where
 f:gnsZ f
 r:rdnZ r
structure Pt.z (p:Pt):Prop where
 m:nmZZ p.f p.r
 i:gnsZ p.i
structure Pt.sm (p:Pt):Prop where
 m:p.mid
 f:(Br p.f).length≤400000000
 i:(Br p.i).length≤400000000
structure Iss.sm (x:Iss):Prop where
 m:nmM x.f x.r
 f:(Br x.f).length≤400000000
theorem kW {n:Nat} {c:Prop} [Decidable c] {v:Vl} (h:c):(vlC v).length≤(vsB (opt n c v)).flatten.length:=by
 unfold opt
 rw[if_pos h]
 show(vlC v).length≤[(vlT (n,v)).enc].flatten.length
 have:=Dd 2 n (vlK v) (vlC v)
 have e:(vlT (n,v)).enc=Ah 2 n (vlK v) (vlC v):=rfl
 simp only[List.flatten_cons,List.flatten_nil,List.append_nil]
 rw[e];omega
theorem zW (vs:List (Nat×Vl)):(vsB vs).flatten.length+2≤(vsE vs).length:=by
 have:=Dd 0 16 true (vsB vs).flatten
 unfold vsE;omega
theorem Py:gnsM []:=⟨by simp,(fun g hg=>by cases hg),by simp⟩
theorem fE {f:List Gn} {r:List Att} (h:nmW f r) (hl:f≠[]∨r≠[]→(nmC f r).length≤399000):nmM f r∧(Br f).length≤399000:=by
 obtain⟨h1,h2⟩:=h
 by_cases hf:f=[]
 ·subst hf
  refine⟨⟨Py,?_⟩,by simp[Br]⟩
  by_cases hr:r=[]
  ·subst hr;exact Px
  ·have hw:=h2.resolve_left hr
   have hq:=hl (.inr hr)
   unfold nmC at hq
   rw[if_pos rfl] at hq
   have e1:=Dd 2 1 true (Dy r)
   have e2:=Aq 0 17 true (Dy r) (by omega)
   exact(yW hw (by show(Ah 0 17 true (Dy r)).length≤_;omega)).1
 ·obtain⟨rfl,ha⟩:=h1.resolve_left hf
  have hq:=hl (.inl hf)
  unfold nmC at hq
  rw[if_neg hf] at hq
  have e1:=Dd 2 0 true (Br f)
  exact⟨⟨Vb ha (by show(Br f).length≤_;omega),Px⟩,by omega⟩
theorem sQ {p:Pt} (h1:nmW p.f p.r) (h3:p.i=[]∨p.i.all gnW=true) (hl:(ptE p).length≤399000):p.sm:=by
 have hv:=zW (Iv p)
 have hl:(vsE (Iv p)).length≤399000:=hl
 have hb:(vsB (Iv p)).flatten.length=(vsB (opt 0 (p.f≠[]∨p.r≠[]) (.nm p.f p.r))).flatten.length+((vsB (opt 1 (p.s≠0) (.rs p.s.toNat))).flatten.length+(vsB (opt 2 (p.i≠[]) (.is p.i))).flatten.length):=by
  unfold Iv
  rw[Dz,Dz,List.flatten_append,List.flatten_append,List.length_append,List.length_append]
 obtain⟨a,b⟩:=fE h1 fun h0=>by
  have:=kW (n:=0) (v:= .nm p.f p.r) h0
  have e:(vlC (.nm p.f p.r)).length=(nmC p.f p.r).length:=rfl
  omega
 have hi:(Br p.i).length≤399000:=by
  by_cases h0:p.i=[]
  ·rw[h0];simp[Br]
  ·have:=kW (n:=2) (v:= .is p.i) (show p.i≠[] from h0)
   have e:(vlC (.is p.i)).length=(Br p.i).length:=rfl
   omega
 have hm:gnsM p.i:=by
  rcases h3 with h3|h3
  ·rw[h3];exact Py
  ·exact Vb h3 (by show(Br p.i).length≤_;omega)
 exact⟨⟨a,hm⟩,by omega,by omega⟩
theorem sR {x:Iss} (h1:nmW x.f x.r) (hl:(isE x).length≤399000):x.sm:=by
 have hv:=zW (Jo x)
 have hl:(vsE (Jo x)).length≤399000:=hl
 obtain⟨a,b⟩:=fE h1 fun h0=>by
  have:=kW (n:=0) (v:= .nm x.f x.r) h0
  have e:(vlC (.nm x.f x.r)).length=(nmC x.f x.r).length:=rfl
  have:(vsB (opt 0 (x.f≠[]∨x.r≠[]) (.nm x.f x.r))).flatten.length≤(vsB (Jo x)).flatten.length:=by
   unfold Jo
   rw[Dz,List.flatten_append,List.length_append];omega
  omega
 exact⟨a,by omega⟩
theorem Pt.sm.put {p:Pt} (h:ptW p=true) (hs:p.sm):ptP (ptE p)=(some p,0,0):=KK h hs.m hs.f hs.i
theorem Iss.sm.put {x:Iss} (h:isW x=true) (hs:x.sm):isP (isE x)=(some x,0,0):=KM h hs.m hs.f
theorem zX {p:Pt} (hs:p.sm):∃t:Tv,t.ok∧ptE p=t.enc:=by
 have:=aJ hs.m hs.f hs.i
 have:=hs.f
 have:=hs.i
 have:(Dy p.r).length≤90000000:=hs.m.m.r.e
 exact⟨⟨0,16,true,(vsB (Iv p)).flatten⟩,⟨by show(0:Nat)≤3;omega,by show(16:Nat)≤30;omega,by show(vsB (Iv p)).flatten.length≤_;omega⟩,rfl⟩
def Kh (p:Pt):Bool:=Eb p.f&&(D5 p.r&&Eb p.i)
def Vn (x:Iss):Bool:=Eb x.f&&D5 x.r
theorem zY {f:List Gn} {r:List Att} (h1:Eb f=true) (h2:D5 r=true):nmM f r∧(Br f).length≤187136∧(Dy r).length≤3702:=by
 obtain⟨-,a,b⟩:=Va h1
 obtain⟨c,d⟩:=Of h2
 obtain⟨-,-,e⟩:=Hz h2
 have:=Dd 0 17 true (Dy r)
 have:(C8 r).length=(Ah 0 17 true (Dy r)).length:=rfl
 exact⟨⟨a,c⟩,b,by omega⟩
theorem zZ {p:Pt} (h:Kh p=true):p.sm∧(ptE p).length≤379000:=by
 unfold Kh at h
 rw[Bool.and_eq_true,Bool.and_eq_true] at h
 obtain⟨a,b,c⟩:=zY h.1 h.2.1
 obtain⟨-,d,e⟩:=Va h.2.2
 have e:(Br p.i).length≤187136:=e
 have hs:p.sm:=⟨⟨a,d⟩,by omega,by omega⟩
 have hl:=aJ hs.m hs.f hs.i
 have:=Aq 0 16 true (vsB (Iv p)).flatten (by omega)
 exact⟨hs,by show(Ah 0 16 true (vsB (Iv p)).flatten).length≤_;omega⟩
theorem AA {x:Iss} (h:Vn x=true):x.sm∧(isE x).length≤379000:=by
 unfold Vn at h
 rw[Bool.and_eq_true] at h
 obtain⟨a,b,c⟩:=zY h.1 h.2
 have hs:x.sm:=⟨a,by omega⟩
 have hl:=kV hs.m hs.f
 have:=Aq 0 16 true (vsB (Jo x)).flatten (by omega)
 exact⟨hs,by show(Ah 0 16 true (vsB (Jo x)).flatten).length≤_;omega⟩
def Vo (l:List Pt):Bool:= !l.isEmpty&&l.all ptW
def Jp (l:List Pt):List UInt8:=Ah 0 16 true (l.map ptE).flatten
theorem Vp {l:List Pt}:Vo l=true↔l≠[]∧l.all ptW=true:=by
 unfold Vo
 cases l<;>simp
def ptS:List (List UInt8)→Option (List Pt)
 |[]=>some []
 |p::r=>match(ptP p).1 with
  |none=>none
  |some g=>(ptS r).map (g:: ·)
def ptL (b:List UInt8):List El→Option (List Pt)×Nat×Nat
 |[]=>(some [],0,0)
 |x::r=>match ptP (elO b x) with
  |(none,c,o)=>(none,c,x.at'+o)
  |(some g,_)=>match ptL b r with
   |(some gs,_)=>(some (g::gs),0,0)
   |(none,p)=>(none,p)
def Vq (ms:List Pt):Option (List Pt)×Nat×Nat→Option (List Pt)×Nat×Nat
 |(some r,_)=>(some (ms++r),0,0)
 |(none,p)=>(none,p)
theorem fF (b:List UInt8):∀l:List El,(ptL b l).1.isSome=true→(ptL b l).2=(0,0)
 |[],_=>rfl
 |x::r,h=>by
  rw[ptL] at h⊢
  cases hv:ptP (elO b x) with
  |mk o q=>
   rw[hv] at h
   cases o with
   |none=>cases h
   |some m=>
    simp only at h⊢
    cases hp:ptL b r with
    |mk o p=>rw[hp] at h;cases o with
     |none=>cases h
     |some ms=>rfl
theorem sS (b:List UInt8) (l:List El):Vq [] (ptL b l)=ptL b l:=by
 have h:=fF b l
 cases hp:ptL b l with
 |mk o p=>
  rw[hp] at h
  cases o with
  |none=>rfl
  |some ms=>have:=h rfl;simp only at this;subst this;rfl
theorem kX {b:List UInt8} {x:El} {r:List El} {m:Pt} {q:Nat×Nat} (ms:List Pt) (hv:ptP (elO b x)=(some m,q)):Vq ms (ptL b (x::r))=Vq (ms++[m]) (ptL b r):=by
 rw[ptL,hv]
 simp only
 cases hp:ptL b r with
 |mk o p=>cases o with
  |none=>rfl
  |some l=>simp[Vq]
theorem oD (b:List UInt8):∀l:List El,(ptL b l).1=ptS (l.map (elO b))
 |[]=>rfl
 |x::r=>by
  have ih:=oD b r
  rw[ptL,List.map_cons,ptS]
  cases hv:ptP (elO b x) with
  |mk o q=>
   cases o with
   |none=>rfl
   |some m=>
    simp only
    rw[←ih]
    cases hp:ptL b r with
    |mk o p=>cases o<;>rfl
theorem oE:∀{v:List Pt},v.all ptW=true→(∀m∈v,m.sm)→ptS (v.map ptE)=some v
 |[],_,_=>rfl
 |m::r,h,hs=>by
  rw[List.all_cons,Bool.and_eq_true] at h
  rw[List.map_cons,ptS,(hs m (by simp)).put h.1]
  simp only
  rw[oE h.2 fun k hk=>hs k (by simp[hk])];rfl
def FA (b:List UInt8):Option (List Pt)×Nat×Nat:=
 if(Aw b 0 16).code≠0 then(none,(Aw b 0 16).code,(Aw b 0 16).off) else if(Aw b 0 16).l=[] then(none,1,b.length) else ptL b (Aw b 0 16).l
theorem FB {v:List Pt} (h0:v≠[]) (h:v.all ptW=true) (hs:∀p∈v,p.sm) (hl:(v.map ptE).flatten.length≤2000000000):FA (Jp v)=(some v,0,0):=by
 obtain⟨ts,t1,t2⟩:=Mx (l:=v.map ptE) fun p hp=>by
  obtain⟨m,hm,rfl⟩:=List.mem_map.1 hp
  exact zX (hs m hm)
 have hfl:(v.map ptE).flatten=Cm ts:=by rw[t2,Ef]
 obtain⟨q,e1,e2⟩:=Eu (c:=0) (n:=16) ts (by omega) (by omega) t1 (by rw[←hfl];omega)
 have hf:=oD (Ah 0 16 true (Cm ts)) (els q ts)
 rw[e2,←t2,oE h hs] at hf
 unfold FA Jp
 rw[hfl,e1,if_neg (by simp),if_neg (by
  intro e
  have:=congrArg List.length e
  rw[Sh] at this
  have h3:=congrArg List.length t2
  rw[List.length_map,List.length_map] at h3
  exact h0 (List.eq_nil_of_length_eq_zero (by rw[h3];exact this)))]
 have hz:=fF (Ah 0 16 true (Cm ts)) (els q ts) (by rw[hf];rfl)
 exact Prod.ext hf hz
set_option maxHeartbeats 16000000
def K7 (s:Int):Prop:= -9223372036854775808≤s∧s≤9223372036854775807
abbrev dpA (p:Pt):AV:= .agg [.d (E4 p.f),.d (Fq p.r),iv p.s,.d (E4 p.i)]
abbrev diA (x:Iss):AV:= .agg [.d (E4 x.f),.d (Fq x.r),bv x.u,bv x.c,bv x.n,bv x.a,iv x.s]
abbrev plA (f:List Gn) (r:List Att):AV:= .agg [.d (E4 f),.d (Fq r)]
def plV (f:List Gn) (r:List Att) (s:Int):Bool:=decide (nmW f r∧rsW s)
def K8 (f:List Gn) (r:List Att):Bool:=f.isEmpty&&r.isEmpty
theorem Pz {α:Type} {l:List α} (h:l≠[]):decide ((l.length:Int)>0)=true:=decide_eq_true (by have:=List.length_pos_iff.2 h;omega)
theorem P0 {α:Type} {l:List α} (h:l≠[]):((l.length:Int)==0)=false:=by
 rw[beq_eq_false_iff_ne];have:=List.length_pos_iff.2 h;omega
theorem P1 {l:List Gn} (h:l≠[]):L7 l=l.all gnW:=by
 unfold L7
 cases l with
 |nil=>exact absurd rfl h
 |cons a r=>rfl
theorem Fm {p:Prop} (h:p:=by first|rfl|(simp only[AV.gives,AV.ren,AV.give,D.un,D.uns,Aj,Ak,List.nil_append,List.append_nil,List.cons_append,Ap,A0,Bk,A7,Ay,Bj,Bs,Bg,A9,Bx,A5];first|done|rfl)):p:=h
theorem sT (r:List Att) (hz:rdnZ r):Ab Tryz.prog 70 [.d (Fq r)] (fun x=>x=bv (Eg r)):=by
 have hM:=N9 r hz
 cases h:Eg r
 ·rw[h] at hM
  have hM:Ab Tryz.prog 59 [.d (Fq r)] (fun q=>q= .tup [Ax,iv 8]):=hM
  refine acQ 12 Tryz.func70 rfl rfl fun _ _ _=> ?_
  (repeat'((conv=>whnf);refine Aa hM Fm ?_));(all_goals(conv=>whnf))
  all_goals exact zE
 ·rw[h] at hM
  have hM:Ab Tryz.prog 59 [.d (Fq r)] (fun q=>q= .tup [A4 0 5 (C8 r),iv 0]):=hM
  refine acQ 12 Tryz.func70 rfl rfl fun _ _ _=> ?_
  (repeat'((conv=>whnf);refine Aa hM Fm ?_));(all_goals(conv=>whnf))
  all_goals exact zE
theorem fG (f:List Gn) (r:List Att):(f=[]∧r=[]∧nmW f r)∨(f=[]∧r≠[]∧Eg r=true∧nmW f r)∨(f=[]∧r≠[]∧Eg r=false∧¬nmW f r)∨(f≠[]∧r=[]∧L7 f=true∧nmW f r)∨(f≠[]∧r=[]∧L7 f=false∧¬nmW f r)∨(f≠[]∧r≠[]∧¬nmW f r):=by
 by_cases f0:f=[]<;>by_cases r0:r=[]
 ·exact .inl ⟨f0,r0,.inl f0,.inl r0⟩
 ·cases h:Eg r
  ·refine .inr (.inr (.inl ⟨f0,r0,rfl,fun hw=> ?_⟩))
   have:=hw.2.resolve_left r0
   rw[h] at this;cases this
  ·exact .inr (.inl ⟨f0,r0,rfl,.inl f0,.inr h⟩)
 ·have e:=P1 f0
  cases h:L7 f
  ·refine .inr (.inr (.inr (.inr (.inl ⟨f0,r0,rfl,fun hw=> ?_⟩))))
   have:=(hw.1.resolve_left f0).2
   rw[←e,h] at this;cases this
  ·exact .inr (.inr (.inr (.inl ⟨f0,r0,rfl,.inr ⟨r0,by rw[←e,h]⟩,.inl r0⟩)))
 ·exact .inr (.inr (.inr (.inr (.inr ⟨f0,r0,fun hw=>r0 (hw.1.resolve_left f0).1⟩))))
theorem oF (f:List Gn) (r:List Att) (s:Int) (hf:gnsM f) (hr:rdnZ r) (hs:K7 s):Ab Tryz.prog 43 [plA f r,iv s] (fun q=>q=bv (plV f r s)):=by
 have hL:=Vd f hf
 have hR:=sT r hr
 have hfn:=hf.n
 have hrl:=hr.l
 obtain⟨s1,s2⟩:=hs
 rcases fG f r with⟨rfl,rfl,hw⟩|⟨rfl,h0,hv,hw⟩|⟨rfl,h0,hv,hw⟩|⟨h1,rfl,hv,hw⟩|⟨h1,rfl,hv,hw⟩|⟨h1,h0,hw⟩
 rotate_left 2
 ·have e:plV [] r s=false:=decide_eq_false fun h=>hw h.1
  have g0:=Pz h0
  rw[e]
  rw[hv] at hR
  refine acQ 40 Tryz.func43 rfl rfl fun _ _ _=> ?_
  (repeat'((conv=>whnf);first|refine zP ?_|refine Ac ?_|refine Ae ?_|refine Aa hR Fm ?_|exact zE))
 rotate_left 1
 ·have e:plV f [] s=false:=decide_eq_false fun h=>hw h.1
  have g1:=Pz h1
  rw[e]
  rw[hv] at hL
  refine acQ 40 Tryz.func43 rfl rfl fun _ _ _=> ?_
  (repeat'((conv=>whnf);first|refine zP ?_|refine Ac ?_|refine Ae ?_|refine Aa hL Fm ?_|exact zE))
 ·have e:plV f r s=false:=decide_eq_false fun h=>hw h.1
  have g0:=Pz h0
  have g1:=Pz h1
  rw[e]
  refine acQ 40 Tryz.func43 rfl rfl fun _ _ _=> ?_
  (repeat'((conv=>whnf);first|refine zP ?_|refine Ac ?_|exact zE))
 all_goals
  by_cases q0:s<0
  ·have e:∀f r,plV f r s=false:=fun f r=>decide_eq_false fun h=>by have:=h.2.1;omega
   have g3:decide (s≥0)=false:=decide_eq_false (by omega)
   rw[e]
   first|have g0:=Pz h0;rw[hv] at hR|have g1:=Pz h1;rw[hv] at hL|skip
   refine acQ 40 Tryz.func43 rfl rfl fun _ _ _=> ?_
   (repeat'((conv=>whnf);first|refine zP ?_|refine zN ?_|refine Ac ?_|refine Ae ?_|refine Aa hR Fm ?_|refine Aa hL Fm ?_|exact zE))
  ·obtain⟨n,rfl⟩:=Int.eq_ofNat_of_zero_le (Int.not_lt.1 q0)
   have g3:decide ((n:Int)≥0)=true:=decide_eq_true (by omega)
   have hsh:(n:Int).fdiv (2^(min (Int.toNat 9) IntKind.i64.bits))=((n/2^9:Nat):Int):=KC (i:=9) (by omega)
   have hle:=Nat.div_le_self n (2^9)
   have gz:(((n/2^9:Nat):Int)==0)=decide (rsW (n:Int)):=by
    rw[Bool.eq_iff_iff,beq_iff_eq,decide_eq_true_iff];unfold rsW;omega
   have e:∀f r,nmW f r→plV f r (n:Int)=decide (rsW (n:Int)):=fun f r h=>by
    unfold plV
    rw[Bool.eq_iff_iff,decide_eq_true_iff,decide_eq_true_iff]
    exact⟨fun a=>a.2,fun a=>⟨h,a⟩⟩
   rw[e _ _ hw]
   first|have g0:=Pz h0;rw[hv] at hR|have g1:=Pz h1;rw[hv] at hL|skip
   refine acQ 40 Tryz.func43 rfl rfl fun _ _ _=> ?_
   (repeat'((conv=>whnf);first|refine zP ?_|refine Ac ?_|refine Ae ?_|refine Aa hR Fm ?_|refine Aa hL Fm ?_|refine NInt.as (((n/2^9:Nat):Int)) (hsh) ?_|refine Ar (by first|decide|omega|(simp only[List.length_cons,List.length_nil];omega)) ?_));(all_goals(conv=>whnf))
   all_goals(refine Az ?_;(repeat'(first|refine And.intro ?_ ?_|exact rfl));(all_goals(conv=>whnf)))
   all_goals(rw[gz])
theorem Sr (f:List Gn) (r:List Att) (hf:f.length≤1000000) (hr:r.length≤1000000):Ab Tryz.prog 31 [plA f r] (fun q=>q=bv (K8 f r)):=by
 have e:(((f.length:Int)+(r.length:Int))==0)=K8 f r:=by
  unfold K8
  rw[Bool.eq_iff_iff,beq_iff_eq,Bool.and_eq_true,List.isEmpty_iff,List.isEmpty_iff,←List.length_eq_zero_iff,←List.length_eq_zero_iff];omega
 refine acQ 11 Tryz.func31 rfl rfl fun _ _ _=> ?_
 (repeat'((conv=>whnf);(with_reducible refine NInt.i64 ?_)));(all_goals(conv=>whnf))
 all_goals(refine Az ?_;(repeat'(first|refine And.intro ?_ ?_|exact rfl));(all_goals(conv=>whnf)))
 all_goals(rw[e])
theorem AB (p:Pt):ptW p=(plV p.f p.r p.s&&((p.i.isEmpty||L7 p.i)&&(!K8 p.f p.r|| !p.i.isEmpty))):=by
 have hg:p.i≠[]→L7 p.i=p.i.all gnW:=P1
 unfold ptW plV K8
 obtain⟨f,r,s,i⟩:=p
 simp only at hg⊢
 rw[Bool.eq_iff_iff]
 simp only[decide_eq_true_iff,Bool.and_eq_true,Bool.or_eq_true,Bool.not_eq_true',Bool.and_eq_false_iff,List.isEmpty_iff,List.isEmpty_eq_false_iff]
 constructor
 ·rintro⟨a,b,c,d⟩
  refine⟨⟨a,b⟩,?_,?_⟩
  ·by_cases i0:i=[]
   ·exact .inl i0
   ·exact .inr (by rw[hg i0];exact c.resolve_left i0)
  ·rcases d with d|d|d
   ·exact .inl (.inl d)
   ·exact .inl (.inr d)
   ·exact .inr d
 ·rintro⟨⟨a,b⟩,c,d⟩
  refine⟨a,b,?_,?_⟩
  ·by_cases i0:i=[]
   ·exact .inl i0
   ·exact .inr (by rw[←hg i0];exact c.resolve_left i0)
  ·rcases d with(d|d)|d
   ·exact .inl d
   ·exact .inr (.inl d)
   ·exact .inr (.inr d)
theorem M1 (p:Pt) (h:p.mid) (hs:K7 p.s):Ab Tryz.prog 11 [dpA p] (fun q=>q=bv (ptW p)):=by
 have hV:=oF p.f p.r p.s h.m.f h.m.r hs
 have hE:=Sr p.f p.r h.m.f.n (by have:=h.m.r.l;omega)
 have hG:=Vd p.i h.i
 have hn:=h.i.n
 rw[AB]
 obtain⟨f,r,s,i⟩:=p
 simp only at hV hE hG hn⊢
 clear h hs
 generalize plV f r s=w at hV⊢
 generalize K8 f r=m at hE⊢
 cases w
 ·refine acQ 35 Tryz.func11 rfl rfl fun _ _ _=> ?_
  (repeat'((conv=>whnf);first|refine Ae ?_|refine Aa hV Fm ?_|exact zE))
 by_cases i0:i=[]
 ·subst i0
  cases m
  all_goals
   refine acQ 35 Tryz.func11 rfl rfl fun _ _ _=> ?_
   (repeat'((conv=>whnf);first|refine Ac ?_|refine Ae ?_|refine Aa hV Fm ?_|refine Aa hE Fm ?_|exact zE))
 ·have g0:=P0 i0
  have g1:=Pz i0
  rw[show i.isEmpty=false from List.isEmpty_eq_false_iff.2 i0]
  cases w:L7 i
  all_goals rw[w] at hG
  ·refine acQ 35 Tryz.func11 rfl rfl fun _ _ _=> ?_
   (repeat'((conv=>whnf);first|refine zN ?_|refine Ac ?_|refine Ae ?_|refine Aa hV Fm ?_|refine Aa hG Fm ?_|exact zE))
  ·cases m
   all_goals
    refine acQ 35 Tryz.func11 rfl rfl fun _ _ _=> ?_
    (repeat'((conv=>whnf);first|refine zN ?_|refine Ac ?_|refine Ae ?_|refine Aa hV Fm ?_|refine Aa hG Fm ?_|refine Aa hE Fm ?_));(all_goals(conv=>whnf))
    all_goals(refine Az ?_;(repeat'(first|exact By _|refine And.intro ?_ ?_|exact rfl));(all_goals(conv=>whnf)))
    all_goals(first|rfl|(rw[g1];rfl))
theorem Fa {P:Program} {C:Cx} {o:Oper} {σ:AS} {t:Nat} {x:Operand} {k i:Nat} (ho:o.op= .nilCheck x) (hd:o.dst=some t) (ht:t<C.N) (hx:σ.eval x=some (.ptr k i)):Bl P C o σ (σ.put t (.ptr k i)):=
 A2 hd ht fun a w bm gt fp hg=>by
  have h:=hg.eval hx
  generalize hv:a.eval x=v at h
  cases h with
  |ptr=>exact⟨_,by simp only[execOp,ho,hv];rfl,.ptr⟩
theorem kY:Ab Tryz.prog 35 [Ax,iv 8] (fun r=>r= .tup [Ax,iv 8]):=by
 refine acQ 24 Tryz.func35 rfl rfl fun _ _ _=> ?_
 (repeat'((conv=>whnf);refine Ac ?_));(all_goals(conv=>whnf))
 all_goals exact zE
theorem Ex {p:Prop} (h:p:=by first|rfl|(simp only[AV.gives,AV.ren,AV.give,D.un,D.uns,Aj,Ak,List.nil_append,List.append_nil,List.cons_append,AV.share,AV.shares,Ap,A0,Bk,A7,Ay,Bj,Bs,Bg,A9,Bx,A5];first|done|rfl)):p:=h
theorem aK (c n:Nat) (k:Bool) (v:List UInt8) (hc1:c≤3) (hn:n≤30) (hl:v.length≤900000000):Ab Tryz.prog 35 [.d (Ag false (Ah c n k v)),iv 0] (fun r=>r= .tup [.d (Ag false v),iv 0]):=by
 obtain⟨h,hO,hL,hd,-⟩:=DL c n k v hc1 hn hl
 have hel:=Aq c n k v (by omega)
 generalize Ah c n k v=b at hO hL hd hel⊢
 have hd0:(b.drop h).take (b.length-h)=v:=hd
 refine acQ 24 Tryz.func35 rfl rfl fun _ _ _=> ?_
 (repeat'((conv=>whnf);first|refine Ae ?_|refine Aa hO Ex ?_|(refine NSl.bytes h b.length v hd0 ?_)|refine zF ?_|exact zE))
theorem Xy (f:List Gn) (r:List Att) (hf:gnsM f) (hr:rdnZ r) (hw:nmW f r) (h0:f≠[]∨r≠[]) (hfl:(Br f).length≤400000000):Ab Tryz.prog 33 [plA f r] (fun q=>q= .tup [A4 0 5 (Ah 2 0 true (nmC f r)),iv 0]):=by
 have hrl:(Dy r).length≤90000000:=hr.e
 have hnc:=Pv ⟨hf,hr⟩
 have hfn:=hf.n
 have hM:=Vc f hf
 have hW2:=Dk 2 0 true (nmC f r) (by omega) (by omega) (by omega)
 by_cases f0:f=[]
 ·subst f0
  have r0:=h0.resolve_left fun h=>h rfl
  have hv:=hw.2.resolve_left r0
  have hM:Ab Tryz.prog 36 [.d (E4 [])] (fun q=>q= .tup [Ax,iv 8]):=hM
  have hI:=kY
  have hR:=N9 r hr
  rw[hv] at hR
  have hR:Ab Tryz.prog 59 [.d (Fq r)] (fun q=>q= .tup [A4 0 5 (Ah 0 17 true (Dy r)),iv 0]):=hR
  have hJ:=aK 0 17 true (Dy r) (by omega) (by omega) (by omega)
  have hW1:=Dk 2 1 true (Dy r) (by omega) (by omega) (by omega)
  have e:Ah 2 1 true (Dy r)=nmC [] r:=by unfold nmC;rw[if_pos rfl]
  rw[e] at hW1
  generalize Ah 2 0 true (nmC [] r)=w2 at hW2⊢
  generalize nmC [] r=w1 at hW1 hW2
  generalize Ah 0 17 true (Dy r)=w0 at hR hJ
  generalize Dy r=w at hJ hW1
  refine acQ 48 Tryz.func33 rfl rfl fun _ _ _=> ?_
  (repeat'((conv=>whnf);first|refine Ac ?_|refine Ae ?_|refine Aa hM rfl ?_|refine Aa hI rfl ?_|refine Aa hR Ex ?_|refine Aa hJ Ex ?_|refine Aa hW1 Ex ?_|refine Aa hW2 Ex ?_|exact zE))
 ·obtain⟨rfl,ha⟩:=hw.1.resolve_left f0
  have hv:L7 f=true:=by rw[P1 f0];exact ha
  have g0:=P0 f0
  rw[hv] at hM
  have hM:Ab Tryz.prog 36 [.d (E4 f)] (fun q=>q= .tup [A4 0 5 (Ah 0 16 true (Br f)),iv 0]):=hM
  have hJ:=aK 0 16 true (Br f) (by omega) (by omega) (by omega)
  have hW1:=Dk 2 0 true (Br f) (by omega) (by omega) (by omega)
  have e:Ah 2 0 true (Br f)=nmC f []:=by unfold nmC;rw[if_neg f0]
  rw[e] at hW1
  generalize Ah 2 0 true (nmC f [])=w2 at hW2⊢
  generalize nmC f []=w1 at hW1 hW2
  generalize Ah 0 16 true (Br f)=w0 at hM hJ
  generalize Br f=w at hJ hW1
  refine acQ 48 Tryz.func33 rfl rfl fun _ _ _=> ?_
  (repeat'((conv=>whnf);first|refine zN ?_|refine Ae ?_|refine Aa hM Ex ?_|refine Aa hJ Ex ?_|refine Aa hW1 Ex ?_|refine Aa hW2 Ex ?_|exact zE))
def L8 (p:Pt):List (List UInt8):=(if p.f≠[]∨p.r≠[] then [Ah 2 0 true (nmC p.f p.r)] else [])++((if p.s≠0 then [Ah 2 1 false (Dx p.s.toNat)] else [])++(if p.i≠[] then [Ah 2 2 true (Br p.i)] else []))
theorem H3 {n:Nat} {c:Prop} [Decidable c] {v:Vl}:vsB (opt n c v)=if c then [Ah 2 n (vlK v) (vlC v)] else []:=by
 unfold opt vsB
 split<;>rfl
theorem Ss (p:Pt):vsB (Iv p)=L8 p:=by
 unfold Iv L8
 rw[Dz,Dz,H3,H3,H3]
 rfl
theorem Ix {f:List Gn} {r:List Att}:K8 f r=false↔f≠[]∨r≠[]:=by
 unfold K8
 rw[Bool.and_eq_false_iff,List.isEmpty_eq_false_iff,List.isEmpty_eq_false_iff]
theorem AC {s:Int} (h:rsW s):K7 s:=by unfold rsW at h;unfold K7;omega
theorem M2 (p:Pt) (h:p.sm) (hs:K7 p.s):Ab Tryz.prog 8 [dpA p] (fun q=>q=L6 (ptW p) (ptE p)):=by
 have hV:=M1 p h.m hs
 cases hw:ptW p
 ·rw[hw] at hV
  show Ab _ _ _ (fun q=>q= .tup [Ax,iv 8])
  refine acQ 54 Tryz.func8 rfl rfl fun _ _ _=> ?_
  (repeat'((conv=>whnf);first|refine Ac ?_|refine Aa hV Ex ?_|exact zE))
 rw[hw] at hV
 show Ab _ _ _ (fun q=>q= .tup [A4 0 5 (ptE p),iv 0])
 obtain⟨w1,w2,w3,w4⟩:=Pw.1 hw
 have hl:=aJ h.m h.f h.i
 have hr:(Dy p.r).length≤90000000:=h.m.m.r.e
 have hf:=h.f
 have hi:=h.i
 have hS:=Mm (L8 p) (by rw[←Ss];omega) (by unfold L8;split<;>split<;>split<;>simp)
 have eS:Ah 0 16 true (L8 p).flatten=ptE p:=by rw[←Ss];rfl
 rw[eS] at hS
 have hE:=Sr p.f p.r h.m.m.f.n (by have:=h.m.m.r.l;omega)
 have hN:=Xy p.f p.r h.m.m.f h.m.m.r w1
 have hB:=Xw p.s.toNat (by unfold rsW at w2;omega)
 have hq:=Gt p.s.toNat
 have hW1:=Dk 2 1 false (Dx p.s.toNat) (by omega) (by omega) (by omega)
 have hG:=Vc p.i h.m.i
 have hJ:=aK 0 16 true (Br p.i) (by omega) (by omega) (by omega)
 have hW2:=Dk 2 2 true (Br p.i) (by omega) (by omega) (by omega)
 have hin:=h.m.i.n
 unfold L8 at hS
 generalize ptE p=R at hS⊢
 clear hw eS hl hr
 obtain⟨f,r,s,i⟩:=p
 simp only at*
 clear h hs
 obtain⟨n,rfl⟩:=Int.eq_ofNat_of_zero_le w2.1
 rw[Int.toNat_natCast] at*
 have hk:(K8 f r=true∧¬(f≠[]∨r≠[]))∨(K8 f r=false∧(f≠[]∨r≠[])):=by
  cases e:K8 f r
  ·exact .inr ⟨rfl,Ix.1 e⟩
  ·refine .inl ⟨rfl,fun h=> ?_⟩
   rw[Ix.2 h] at e;cases e
 have hn0:(n=0∧((n:Int) !=0)=false∧¬((n:Int)≠0))∨(((n:Int) !=0)=true∧(n:Int)≠0):=by
  by_cases h:n=0
  ·exact .inl ⟨h,by rw[h];rfl,by omega⟩
  ·exact .inr ⟨by rw[bne_iff_ne];omega,by omega⟩
 have hi0:(i=[]∧¬(i≠[]))∨(i≠[]∧decide ((i.length:Int)>0)=true∧L7 i=true):=by
  by_cases h:i=[]
  ·exact .inl ⟨h,fun a=>a h⟩
  ·exact .inr ⟨h,Pz h,by rw[P1 h];exact w3.resolve_left h⟩
 generalize Dx n=sl at hB hW1 hS hq
 generalize Ah 2 1 false sl=p1 at hW1 hS
 generalize nmC f r=nc at hN hS
 generalize Ah 2 0 true nc=p0 at hN hS
 generalize Ah 2 2 true (Br i)=p2 at hW2 hS
 clear hq w4
 rcases hi0 with⟨rfl,i1⟩|⟨i1,gi,gw⟩
 all_goals rcases hk with⟨em,e0⟩|⟨em,e0⟩
 all_goals rcases hn0 with⟨rfl,gn,n0⟩|⟨gn,n0⟩
 all_goals
  rw[em] at hE
  first|rw[if_neg i1] at hS|(rw[if_pos i1] at hS;rw[gw] at hG;have hG:Ab Tryz.prog 36 [.d (E4 i)] (fun q=>q= .tup [A4 0 5 (Ah 0 16 true (Br i)),iv 0]):=hG)
  first|rw[if_neg e0] at hS|(rw[if_pos e0] at hS;have hN:=hN e0 hf)
  first|rw[if_neg n0] at hS|rw[if_pos n0] at hS
  simp only[List.nil_append,List.cons_append,List.append_nil] at hS
  refine acQ 54 Tryz.func8 rfl rfl fun _ _ _=> ?_
  (repeat'((conv=>whnf);first|refine zP ?_|refine zN ?_|refine Ac ?_|refine Ae ?_|refine Aa hV Ex ?_|refine Aa hE Ex ?_|refine Aa hN Ex ?_|(refine NStep.inl 200 32 _ Ce mixed rfl rfl rfl Tryz.func34 rfl (by kernel_rfl) rfl rfl rfl rfl (fun gh=> ?_))|(refine NStep.inl 300 25 _ Ce mixed rfl rfl rfl Tryz.func32 rfl (by kernel_rfl) rfl rfl rfl rfl (fun gh=> ?_))|(refine NStep.inl 400 20 _ Ce mixed rfl rfl rfl Tryz.func38 rfl (by kernel_rfl) rfl rfl rfl rfl (fun gh=> ?_))|refine Aa hB rfl ?_|refine Aa hW1 Ex ?_|refine Aa hG Ex ?_|refine Aa hJ Ex ?_|refine Aa hW2 Ex ?_|refine An (Un 0 rfl rfl rfl (ltN rfl) rfl rfl) ?_|refine An (Fa rfl rfl (ltN rfl) rfl) ?_|(refine Ei 1 _ ?_)|(refine Ei 2 _ ?_)|(refine Ei 3 _ ?_)|refine Aa hS Ex ?_|refine A6 hS M5 ?_|exact zE))
def FC (u c a:Bool):Bool:= !(u&&c)&&(!(u&&a)&& !(c&&a))
theorem KN (x:Iss):isW x=(plV x.f x.r x.s&&(FC x.u x.c x.a&&(!K8 x.f x.r||(x.u||(x.c||x.a))||x.n||(x.s !=0)))):=by
 obtain⟨f,r,u,c,n,a,s⟩:=x
 have e:=@Ix f r
 unfold isW plV Ps Rv FC
 simp only
 rw[Bool.eq_iff_iff]
 simp only[decide_eq_true_iff,Bool.and_eq_true,Bool.or_eq_true,Bool.not_eq_true',bne_iff_ne,e]
 cases u<;>cases c<;>cases a<;>simp[and_assoc,or_assoc]
theorem kZ {p:Prop} (h:p:=by first|rfl|(simp only[AV.gives,AV.ren,AV.give,D.un,D.uns,Aj,Ak,List.nil_append,List.append_nil,List.cons_append,AV.share,AV.shares,Ap,A0,Bk,A7,Ay,Bj,Bs,Bg,A9,Bx,A5];first|done|rfl)):p:=h
theorem Q3 (x:Iss) (h:nmM x.f x.r) (hs:K7 x.s):Ab Tryz.prog 18 [diA x] (fun q=>q=bv (isW x)):=by
 have hV:=oF x.f x.r x.s h.f h.r hs
 have hE:=Sr x.f x.r h.f.n (by have:=h.r.l;omega)
 rw[KN]
 obtain⟨f,r,u,c,n,a,s⟩:=x
 simp only at hV hE⊢
 clear h hs
 generalize plV f r s=w at hV⊢
 generalize K8 f r=m at hE⊢
 cases w
 ·cases u<;>cases c<;>cases a
  all_goals
   refine acQ 50 Tryz.func18 rfl rfl fun _ _ _=> ?_
   (repeat'((conv=>whnf);first|refine Ac ?_|refine Ae ?_|refine Aa hV kZ ?_|(refine Nr 100 6 #[] Ce mixed rfl rfl rfl rfl Tryz.func53 rfl (by kernel_rfl) rfl rfl rfl rfl (fun gh=> ?_))|(with_reducible refine NInt.i64 ?_)|exact zE))
 ·cases u<;>cases c<;>cases a<;>cases m<;>cases n
  all_goals
   refine acQ 50 Tryz.func18 rfl rfl fun _ _ _=> ?_
   (repeat'((conv=>whnf);first|refine Ac ?_|refine Ae ?_|refine Aa hV kZ ?_|refine Aa hE kZ ?_|(refine Nr 100 6 #[] Ce mixed rfl rfl rfl rfl Tryz.func53 rfl (by kernel_rfl) rfl rfl rfl rfl (fun gh=> ?_))|(with_reducible refine NInt.i64 ?_)|exact zE))
end Go.Proofs.YtjakkpcpommojaaGreatDoor
