/- NB: the texts PtP PtQ PtR PtL Pla Plm Pli, one behind the other. No condition but what each lemma says. -/
import Derived.Test.YtgpaehhbdbgeaaaGreatDoorMW
import Derived.Test.YtgpaehhbdbgeaaaGreatDoorNA
import Derived.Test.YtgpaehhbdbgeaaaGreatDoorMT
import Derived.Test.YtgpaehhbdbgeaaaGreatDoorMJ
namespace Go.Proofs.YtgpaehhbdbgeaaaGreatDoor
open Go.RowKit
set_option maxRecDepth 100000
inductive Vl where
 |nm (f:List Gn) (r:List Att)
 |rs (s:Nat)
 |is (i:List Gn)
 |fl
def D3 (r:List Att):List UInt8:=(r.map atE).flatten
def nmC (f:List Gn) (r:List Att):List UInt8:=if f=[] then Ae 2 1 true (D3 r) else Ae 2 0 true (Bo f)
def vlC:Vl→List UInt8
 | .nm f r=>nmC f r
 | .rs s=>Fl s
 | .is i=>Bo i
 | .fl=>[255]
def vlK:Vl→Bool
 | .nm _ _=>true
 | .rs _=>false
 | .is _=>true
 | .fl=>false
abbrev vlT (p:Nat×Vl):Tv:=⟨2,p.1,vlK p.2,vlC p.2⟩
def vlW (k:UInt8):Vl→Prop
 | .nm f r=>k=110∧((f≠[]∧r=[]∧f.all gnW=true)∨(f=[]∧E4 r=true))
 | .rs s=>k=114∧0<s∧s<512
 | .is i=>k=105∧i≠[]∧i.all gnW=true
 | .fl=>k=102
def Vl.mid:Vl→Prop
 | .nm f r=>gnsM f∧rdnZ r
 | .rs _=>True
 | .is i=>gnsM i
 | .fl=>True
def Do (c:List UInt8):Option (List Gn):=(V1 (Ae 0 16 true c)).1
def E1 (c:List UInt8):Option Vl:=match Av c 0 with
 |some d=>(Do d).map fun f=> .nm f []
 |none=>match Av c 1 with
  |some d=>(Gt (Ae 0 17 true d)).1.map fun r=> .nm [] r
  |none=>none
def vlO (k:UInt8) (c:List UInt8):Option Vl:=if k=110 then E1 c else if k=114 then(Oz c).map .rs else if k=105 then(Do c).map .is else if c=[255] then some .fl else none
def kOk (k:UInt8):Prop:=k=110∨k=114∨k=105∨k=102
theorem R6 {l:List Gn} (h0:l≠[]) (h:l.all gnW=true) (hs:gnsM l):Do (Bo l)=some l:=by
 have:=vH h0 h hs
 show(V1 (Oy l)).1=_
 rw[this]
theorem Ll {c:List UInt8} {l:List Gn} (h:Do c=some l) (hl:c.length≤700000):l≠[]∧l.all gnW=true∧c=Bo l:=by
 unfold Do at h
 have hel:=Ao 0 16 true c (by omega)
 rcases fR (Ae 0 16 true c) (by omega) with⟨v,v0,v1,v2,v3⟩|⟨a,o,-,-,c2⟩
 ·rw[v3] at h
  obtain rfl:=Option.some.inj h
  have hl2:(Bo v).length≤2147483647:=by
   have:=Cf 0 16 true (Bo v)
   have e:Ae 0 16 true (Bo v)=Oy v:=rfl
   rw[e,←v2] at this;omega
  exact⟨v0,v1,Y5 (c:=0) (n:=16) (k:=true) (by omega) (by omega) (by omega) hl2 v2⟩
 ·rw[c2] at h;cases h
theorem R7 {b v:List UInt8} {n:Nat} (h:Av b n=some v):v.length≤b.length:=by
 have:=Cf 2 n true v
 rw[Fk h];omega
theorem cR {n m:Nat} {v:List UInt8} (hn:n≤30) (hv:v.length≤2147483600) (h:n≠m):Av (Ae 2 n true v) m=none:=by
 have:=Lj (t:=⟨2,n,true,v⟩) ⟨by show(2:Nat)≤3;omega,hn,by show v.length≤_;omega⟩ m
 rw[if_neg (by simp;exact fun e=>h e)] at this
 exact this
theorem cS {f:List Gn} {r:List Att} (h:(f≠[]∧r=[]∧f.all gnW=true)∨(f=[]∧E4 r=true)) (hs:gnsM f∧rdnZ r):E1 (nmC f r)=some (.nm f r):=by
 rcases h with⟨h0,rfl,h1⟩|⟨rfl,h1⟩
 ·have:=hs.1.e
  unfold E1 nmC
  rw[if_neg h0,Gu (by omega) (by show(Bo f).length≤_;unfold Bo;omega)]
  show(Do (Bo f)).map _=_
  rw[R6 h0 h1 hs.1];rfl
 ·have:=hs.2.e
  unfold E1 nmC
  rw[if_pos rfl,cR (by omega) (by unfold D3;omega) (by omega),Gu (by omega) (by unfold D3;omega)]
  show((Gt (C6 r)).1).map _=_
  rw[Yx h1 hs.2];rfl
theorem cT {c:List UInt8} {v:Vl} (h:E1 c=some v) (hl:c.length≤700000):∃f r,v= .nm f r∧((f≠[]∧r=[]∧f.all gnW=true)∨(f=[]∧E4 r=true))∧c=nmC f r:=by
 unfold E1 at h
 cases h0:Av c 0 with
 |some d=>
  rw[h0] at h
  have e:=Fk h0
  have hd:=R7 h0
  have h:(Do d).map (fun f=>Vl.nm f [])=some v:=h
  cases hn:Do d with
  |none=>rw[hn] at h;cases h
  |some f=>
   rw[hn] at h
   obtain rfl:=Option.some.inj h
   obtain⟨n0,n1,n2⟩:=Ll hn (by omega)
   refine⟨f,[],rfl,.inl ⟨n0,rfl,n1⟩,?_⟩
   unfold nmC
   rw[if_neg n0,←n2];exact e
 |none=>
  rw[h0] at h
  have h:(match Av c 1 with|some d=>(Gt (Ae 0 17 true d)).1.map (fun r=>Vl.nm [] r)|none=>none)=some v:=h
  cases h1:Av c 1 with
  |none=>rw[h1] at h;cases h
  |some d=>
   rw[h1] at h
   have e:=Fk h1
   have hd:=R7 h1
   have h:(Gt (Ae 0 17 true d)).1.map (fun r=>Vl.nm [] r)=some v:=h
   cases hn:(Gt (Ae 0 17 true d)).1 with
   |none=>rw[hn] at h;cases h
   |some r=>
    rw[hn] at h
    obtain rfl:=Option.some.inj h
    have hel:=Ao 0 17 true d (by omega)
    obtain⟨n1,n2⟩:=Yy hn (by omega)
    refine⟨[],r,rfl,.inr ⟨rfl,n1⟩,?_⟩
    have hl2:(D3 r).length≤2147483647:=by
     have:=Cf 0 17 true (D3 r)
     have e:Ae 0 17 true (D3 r)=C6 r:=rfl
     rw[e,←n2] at this;omega
    have:d=D3 r:=Y5 (c:=0) (n:=17) (k:=true) (by omega) (by omega) (by omega) hl2 n2
    unfold nmC
    rw[if_pos rfl,←this];exact e
theorem vP {k:UInt8} {v:Vl} (h:vlW k v) (hs:v.mid):vlO k (vlC v)=some v:=by
 cases v with
 |nm f r=>
  obtain⟨rfl,h⟩:=h
  show E1 (nmC f r)=_
  exact cS h hs
 |rs s=>
  obtain⟨rfl,h0,h1⟩:=h
  show(Oz (Fl s)).map Vl.rs=_
  rw[qR h1 (by omega)];rfl
 |is i=>
  obtain⟨rfl,h0,h1⟩:=h
  show(Do (Bo i)).map Vl.is=_
  rw[R6 h0 h1 hs];rfl
 |fl=>
  obtain rfl:k=102:=h
  rfl
theorem vQ {k:UInt8} {c:List UInt8} {v:Vl} (hk:kOk k) (h:vlO k c=some v) (hl:c.length≤700000):vlW k v∧c=vlC v:=by
 rcases hk with rfl|rfl|rfl|rfl
 ·obtain⟨f,r,rfl,h1,h2⟩:=cT (show E1 c=some v from h) hl
  exact⟨⟨rfl,h1⟩,h2⟩
 ·have h:(Oz c).map Vl.rs=some v:=h
  cases hn:Oz c with
  |none=>rw[hn] at h;cases h
  |some s=>
   rw[hn] at h
   obtain rfl:=Option.some.inj h
   obtain⟨a1,a2,a3⟩:=qS hn
   exact⟨⟨rfl,a1,a2⟩,a3⟩
 ·have h:(Do c).map Vl.is=some v:=h
  cases hn:Do c with
  |none=>rw[hn] at h;cases h
  |some s=>
   rw[hn] at h
   obtain rfl:=Option.some.inj h
   obtain⟨a1,a2,a3⟩:=Ll hn hl
   exact⟨⟨rfl,a1,a2⟩,a3⟩
 ·have h:(if c=[255] then some Vl.fl else none)=some v:=h
  by_cases hc:c=[255]
  ·rw[if_pos hc] at h
   obtain rfl:=Option.some.inj h
   exact⟨rfl,hc⟩
  ·rw[if_neg hc] at h;cases h
def vR (k:UInt8):Bool:=k==110||k==105
theorem fU {k:UInt8} {v:Vl} (h:vlW k v):vlK v=vR k:=by
 cases v with
 |nm f r=>obtain⟨rfl,-⟩:=h;rfl
 |rs s=>obtain⟨rfl,-⟩:=h;rfl
 |is i=>obtain⟨rfl,-⟩:=h;rfl
 |fl=>obtain rfl:k=102:=h;rfl
structure Dr where
 f:List Gn
 r:List Att
 s:Nat
 i:List Gn
 fl:Nat→Bool
def dr0:Dr:=⟨[],[],0,[],fun _=>false⟩
def Dr.set (d:Dr) (n:Nat):Vl→Dr
 | .nm f r=>if f=[] then{d with r:=r} else{d with f:=f}
 | .rs s=>{d with s:=s}
 | .is i=>{d with i:=i}
 | .fl=>{d with fl:=fun m=>m==n||d.fl m}
def drF (b k:List UInt8):List El→Int→Dr→Option Dr×Nat×Nat
 |[],_,d=>(some d,0,0)
 |x::l,last,d=>if x.c≠2∨k.length≤x.n∨(x.n:Int)≤last then(none,3,x.at') else if x.k≠vR (k.getD x.n 0) then(none,3,x.at') else match vlO (k.getD x.n 0) (bod b x) with
  |none=>(none,6,x.body)
  |some v=>drF b k l x.n (d.set x.n v)
def rdD (b k:List UInt8):Option Dr×Nat×Nat:=if(An b 0 16).code≠0 then(none,(An b 0 16).code,(An b 0 16).off) else drF b k (An b 0 16).l (-1) dr0
def asc (m:Nat):Int→List (Nat×Vl)→Prop
 |_,[]=>True
 |last,p::r=>last<p.1∧p.1<m∧asc m p.1 r
def Kn (d:Dr) (vs:List (Nat×Vl)):Dr:=vs.foldl (fun d p=>d.set p.1 p.2) d
def vsW (k:List UInt8) (vs:List (Nat×Vl)):Prop:=∀p∈vs,vlW (k.getD p.1 0) p.2
theorem fV {b k:List UInt8} (hb:b.length≤700000) (hk:∀x∈k,kOk x):∀(ts:List Tv) (a:Nat) (last:Int) (d:Dr),(els a ts).map (elO b)=ts.map Tv.enc→(∀x∈els a ts,x.stop≤b.length)→pT b.length (fun d'=>∃vs,asc k.length last vs∧vsW k vs∧ts=vs.map vlT∧d'=Kn d vs) (drF b k (els a ts) last d)
 |[],a,last,d,_,_=> .inl ⟨d,⟨[],trivial,(fun _ h=>by cases h),rfl,rfl⟩,rfl⟩
 |t::ts,a,last,d,h,hin=>by
  obtain⟨e1,e2,e3,e4,e5,e6⟩:=fS h hin
  have e3':a+t.hd≤(t.el a).stop:=e3
  rw[e1,drF]
  by_cases h1:(t.el a).c≠2∨k.length≤(t.el a).n∨((t.el a).n:Int)≤last
  ·rw[if_pos h1]
   exact .inr ⟨3,a,by omega,by omega,rfl⟩
  rw[if_neg h1]
  by_cases h2:(t.el a).k≠vR (k.getD (t.el a).n 0)
  ·rw[if_pos h2]
   exact .inr ⟨3,a,by omega,by omega,rfl⟩
  rw[if_neg h2]
  have hn:t.n<k.length:=by
   have:(t.el a).n=t.n:=rfl
   omega
  have hko:kOk (k.getD (t.el a).n 0):=by
   show kOk (k.getD t.n 0)
   rw[List.getD_eq_getElem?_getD,List.getElem?_eq_getElem hn,Option.getD_some]
   exact hk _ (List.getElem_mem hn)
  rw[e2]
  have hvl:t.v.length≤700000:=by
   rw[←e2];unfold bod;rw[List.length_take,List.length_drop];omega
  cases hv:vlO (k.getD (t.el a).n 0) t.v with
  |none=>exact .inr ⟨6,_,by omega,Nat.le_trans e3 e4,rfl⟩
  |some v=>
   obtain⟨v1,v2⟩:=vQ hko hv hvl
   have hc:t.c=2:=by
    have:(t.el a).c=t.c:=rfl
    omega
   have hkk:t.k=vlK v:=by
    rw[fU v1]
    exact Decidable.not_not.1 h2
   have ht:t=vlT (t.n,v):=by
    obtain⟨c,n,kk,w⟩:=t
    simp only at hc hkk v2
    subst hc hkk v2
    rfl
   rcases fV hb hk ts _ (t.el a).n (d.set (t.el a).n v) e5 e6 with⟨d',⟨vs,w1,w2,w3,w4⟩,w5⟩|hbad
   ·refine .inl ⟨d',⟨(t.n,v)::vs,⟨by show last<(t.n:Int);have:(t.el a).n=t.n:=rfl;omega,hn,w1⟩,?_,?_,w4⟩,w5⟩
    ·intro p hp
     rcases List.mem_cons.1 hp with rfl|hp
     ·exact v1
     ·exact w2 p hp
    ·rw[List.map_cons,←ht,←w3]
   ·exact .inr hbad
theorem fW {b k:List UInt8}:∀(vs:List (Nat×Vl)) (a:Nat) (last:Int) (d:Dr),(els a (vs.map vlT)).map (elO b)=(vs.map vlT).map Tv.enc→(∀x∈els a (vs.map vlT),x.stop≤b.length)→asc k.length last vs→vsW k vs→(∀p∈vs,p.2.mid)→drF b k (els a (vs.map vlT)) last d=(some (Kn d vs),0,0)
 |[],_,_,_,_,_,_,_,_=>rfl
 |p::vs,a,last,d,h,hin,ha,hw,hm=>by
  rw[List.map_cons] at h hin⊢
  obtain⟨e1,e2,e3,e4,e5,e6⟩:=fS h hin
  obtain⟨a1,a2,a3⟩:=ha
  have hw0:=hw p (by simp)
  rw[e1,drF]
  have c1:((vlT p).el a).c=2:=rfl
  have c2:((vlT p).el a).n=p.1:=rfl
  have c3:((vlT p).el a).k=vlK p.2:=rfl
  rw[if_neg (by rw[c1,c2];simp only[ne_eq,not_true_eq_false,false_or,not_or];omega),if_neg (by rw[c3,c2,fU hw0];simp),e2,c2]
  show(match vlO (k.getD p.1 0) (vlC p.2) with|none=>(none,6,((vlT p).el a).body)|some v=>drF b k (els (a+(vlT p).enc.length) (vs.map vlT)) p.1 (d.set p.1 v))=_
  rw[vP hw0 (hm p (by simp))]
  exact fW vs _ p.1 (d.set p.1 p.2) e5 e6 a3 (fun q hq=>hw q (by simp[hq])) fun q hq=>hm q (by simp[hq])
def vsB (vs:List (Nat×Vl)):List (List UInt8):=vs.map fun p=>(vlT p).enc
def vsE (vs:List (Nat×Vl)):List UInt8:=Ae 0 16 true (vsB vs).flatten
theorem cU (vs:List (Nat×Vl)):(vsB vs).flatten=Bu (vs.map vlT):=by
 rw[Dn,List.map_map];rfl
theorem Pi {b k:List UInt8} (hb:b.length≤700000) (hk:∀x∈k,kOk x):pT b.length (fun d'=>∃vs,asc k.length (-1) vs∧vsW k vs∧b=vsE vs∧d'=Kn dr0 vs) (rdD b k):=by
 unfold rdD
 by_cases h1:(An b 0 16).code≠0
 ·rw[if_pos h1]
  exact .inr ⟨_,_,h1,Gs b 0 16,rfl⟩
 rw[if_neg h1]
 obtain⟨ts,t1,t2,-,-,hl⟩:=H5 (Decidable.not_not.1 h1)
 obtain⟨q,p1,p2,-,-⟩:=R3 (c:=0) (n:=16) ts (by omega) (by omega) t1 hl
 rw[←t2] at p1 p2
 have hin:∀x∈els q ts,x.stop≤b.length:=fun x hx=>by
  have:=C5 (b:=b) (c:=0) (n:=16) (x:=x) (by rw[p1];exact hx)
  omega
 rw[p1]
 rcases fV hb hk ts q (-1) dr0 p2 hin with⟨d',⟨vs,w1,w2,w3,w4⟩,w5⟩|hbad
 ·refine .inl ⟨d',⟨vs,w1,w2,?_,w4⟩,w5⟩
  unfold vsE
  rw[cU,←w3];exact t2
 ·exact .inr hbad
theorem fX {k:List UInt8} {vs:List (Nat×Vl)} (ha:asc k.length (-1) vs) (hw:vsW k vs) (hm:∀p∈vs,p.2.mid) (hn:k.length≤30) (hc:∀p∈vs,(vlC p.2).length≤900000000) (hl:(vsB vs).flatten.length≤2147483647):rdD (vsE vs) k=(some (Kn dr0 vs),0,0):=by
 have hlt:∀(vs:List (Nat×Vl)) (last:Int),asc k.length last vs→∀p∈vs,p.1<k.length:=by
  intro vs
  induction vs with
  |nil=>intro _ _ p hp;cases hp
  |cons q r ih=>
   intro last h p hp
   rcases List.mem_cons.1 hp with rfl|hp
   ·exact h.2.1
   ·exact ih _ h.2.2 p hp
 have tok:∀t∈vs.map vlT,t.ok:=fun t ht=>by
  obtain⟨p,hp,rfl⟩:=List.mem_map.1 ht
  have:=hc p hp
  have:=hlt vs _ ha p hp
  exact⟨by show(2:Nat)≤3;omega,by show p.1≤30;omega,by show(vlC p.2).length≤_;omega⟩
 rw[cU] at hl
 obtain⟨q,p1,p2,-,-⟩:=R3 (c:=0) (n:=16) (vs.map vlT) (by omega) (by omega) tok hl
 have hb:vsE vs=Ae 0 16 true (Bu (vs.map vlT)):=by unfold vsE;rw[cU]
 rw[hb]
 generalize Ae 0 16 true (Bu (vs.map vlT))=b at p1 p2
 have hin:∀x∈els q (vs.map vlT),x.stop≤b.length:=fun x hx=>by
  have:=C5 (b:=b) (c:=0) (n:=16) (x:=x) (by rw[p1];exact hx)
  omega
 unfold rdD
 rw[p1,if_neg (by simp)]
 exact fW vs q (-1) dr0 p2 hin ha hw hm
structure Pt where
 f:List Gn
 r:List Att
 s:Int
 i:List Gn
 deriving DecidableEq
structure Iss where
 f:List Gn
 r:List Att
 u:Bool
 c:Bool
 n:Bool
 a:Bool
 s:Int
 deriving DecidableEq
def opt (n:Nat) (c:Prop) [Decidable c] (v:Vl):List (Nat×Vl):=if c then [(n,v)] else []
def nmW (f:List Gn) (r:List Att):Prop:=(f=[]∨r=[]∧f.all gnW=true)∧(r=[]∨E4 r=true)
instance (f:List Gn) (r:List Att):Decidable (nmW f r):=by unfold nmW;infer_instance
def rsW (s:Int):Prop:=0≤s∧s<512
instance (s:Int):Decidable (rsW s):=by unfold rsW;infer_instance
def Gb (p:Pt):List (Nat×Vl):=opt 0 (p.f≠[]∨p.r≠[]) (.nm p.f p.r)++(opt 1 (p.s≠0) (.rs p.s.toNat)++opt 2 (p.i≠[]) (.is p.i))
def Gx (x:Iss):List (Nat×Vl):=opt 0 (x.f≠[]∨x.r≠[]) (.nm x.f x.r)++(opt 1 (x.u=true) .fl++(opt 2 (x.c=true) .fl++(opt 3 (x.s≠0) (.rs x.s.toNat)++(opt 4 (x.n=true) .fl++opt 5 (x.a=true) .fl))))
def ptE (p:Pt):List UInt8:=vsE (Gb p)
def isE (x:Iss):List UInt8:=vsE (Gx x)
def ptW (p:Pt):Bool:=decide (nmW p.f p.r∧rsW p.s∧(p.i=[]∨p.i.all gnW=true)∧(p.f≠[]∨p.r≠[]∨p.i≠[]))
def R8 (x:Iss):Prop:=¬(x.u=true∧x.c=true)∧¬(x.u=true∧x.a=true)∧¬(x.c=true∧x.a=true)
def Tz (x:Iss):Prop:=x.f≠[]∨x.r≠[]∨x.u=true∨x.c=true∨x.n=true∨x.a=true∨x.s≠0
instance (x:Iss):Decidable (R8 x):=by unfold R8;infer_instance
instance (x:Iss):Decidable (Tz x):=by unfold Tz;infer_instance
def isW (x:Iss):Bool:=decide (nmW x.f x.r∧rsW x.s∧R8 x∧Tz x)
abbrev k3:List UInt8:=[110,114,105]
abbrev k6:List UInt8:=[110,102,102,114,102,102]
theorem wL:∀x∈k3,kOk x:=by simp[kOk]
theorem wM:∀x∈k6,kOk x:=by simp[kOk]
theorem Dt {m n:Nat} {last:Int} {vs:List (Nat×Vl)} (hl:last=(n:Int)-1) (h:asc m last vs):∃o:Option Vl,∃vs',vs=(o.map fun v=>(n,v)).toList++vs'∧asc m n vs':=by
 cases vs with
 |nil=>exact⟨none,[],rfl,trivial⟩
 |cons p r=>
  obtain⟨h1,h2,h3⟩:=h
  by_cases hp:p.1=n
  ·refine⟨some p.2,r,?_,by rw[hp] at h3;exact h3⟩
   show p::r=(n,p.2)::r
   rw[←hp]
  ·exact⟨none,p::r,rfl,by omega,h2,h3⟩
theorem fY {m n:Nat} {vs:List (Nat×Vl)} (h:asc m n vs) (hn:m≤n+1):vs=[]:=by
 cases vs with
 |nil=>rfl
 |cons p r=>obtain⟨h1,h2,-⟩:=h;omega
theorem Gc {k:List UInt8} {a b:List (Nat×Vl)} (h:vsW k (a++b)):vsW k a∧vsW k b:=⟨fun p hp=>h p (by simp[hp]),fun p hp=>h p (by simp[hp])⟩
theorem BA {k:List UInt8} {n:Nat} {o:Option Vl} (hk:k.getD n 0=110) (h:vsW k (o.map fun v=>(n,v)).toList):∃f r,(o.map fun v=>(n,v)).toList=opt n (f≠[]∨r≠[]) (.nm f r)∧nmW f r:=by
 cases o with
 |none=>exact⟨[],[],rfl,.inl rfl,.inl rfl⟩
 |some v=>
  have hv:vlW (k.getD n 0) v:=h (n,v) (by simp)
  rw[hk] at hv
  cases v with
  |nm f r=>
   obtain⟨-,h|h⟩:=hv
   ·obtain⟨h0,rfl,h1⟩:=h
    exact⟨f,[],by unfold opt;rw[if_pos (.inl h0)];rfl,.inr ⟨rfl,h1⟩,.inl rfl⟩
   ·obtain⟨rfl,h1⟩:=h
    exact⟨[],r,by unfold opt;rw[if_pos (.inr (Pd h1).1)];rfl,.inl rfl,.inr h1⟩
  |rs s=>exact absurd hv.1 (by decide)
  |is i=>exact absurd hv.1 (by decide)
  |fl=>exact absurd (show(110:UInt8)=102 from hv) (by decide)
theorem BB {k:List UInt8} {n:Nat} {o:Option Vl} (hk:k.getD n 0=114) (h:vsW k (o.map fun v=>(n,v)).toList):∃s:Int,(o.map fun v=>(n,v)).toList=opt n (s≠0) (.rs s.toNat)∧rsW s:=by
 cases o with
 |none=>exact⟨0,rfl,by unfold rsW;omega⟩
 |some v=>
  have hv:vlW (k.getD n 0) v:=h (n,v) (by simp)
  rw[hk] at hv
  cases v with
  |nm f r=>exact absurd hv.1 (by decide)
  |rs s=>
   obtain⟨-,h0,h1⟩:=hv
   exact⟨s,by unfold opt;rw[if_pos (by omega)];rfl,by unfold rsW;omega⟩
  |is i=>exact absurd hv.1 (by decide)
  |fl=>exact absurd (show(114:UInt8)=102 from hv) (by decide)
theorem BW {k:List UInt8} {n:Nat} {o:Option Vl} (hk:k.getD n 0=105) (h:vsW k (o.map fun v=>(n,v)).toList):∃i:List Gn,(o.map fun v=>(n,v)).toList=opt n (i≠[]) (.is i)∧(i=[]∨i.all gnW=true):=by
 cases o with
 |none=>exact⟨[],rfl,.inl rfl⟩
 |some v=>
  have hv:vlW (k.getD n 0) v:=h (n,v) (by simp)
  rw[hk] at hv
  cases v with
  |nm f r=>exact absurd hv.1 (by decide)
  |rs s=>exact absurd hv.1 (by decide)
  |is i=>
   obtain⟨-,h0,h1⟩:=hv
   exact⟨i,by unfold opt;rw[if_pos h0];rfl,.inr h1⟩
  |fl=>exact absurd (show(105:UInt8)=102 from hv) (by decide)
theorem vS {k:List UInt8} {n:Nat} {o:Option Vl} (hk:k.getD n 0=102) (h:vsW k (o.map fun v=>(n,v)).toList):∃b:Bool,(o.map fun v=>(n,v)).toList=opt n (b=true) .fl:=by
 cases o with
 |none=>exact⟨false,rfl⟩
 |some v=>
  have hv:vlW (k.getD n 0) v:=h (n,v) (by simp)
  rw[hk] at hv
  cases v with
  |nm f r=>exact absurd hv.1 (by decide)
  |rs s=>exact absurd hv.1 (by decide)
  |is i=>exact absurd hv.1 (by decide)
  |fl=>exact⟨true,rfl⟩
theorem wN {vs:List (Nat×Vl)} (h:asc 3 (-1) vs) (hw:vsW k3 vs):∃p:Pt,vs=Gb p∧nmW p.f p.r∧rsW p.s∧(p.i=[]∨p.i.all gnW=true):=by
 obtain⟨o0,v1,rfl,h1⟩:=Dt (n:=0) (by omega) h
 obtain⟨o1,v2,rfl,h2⟩:=Dt (n:=1) (by omega) h1
 obtain⟨o2,v3,rfl,h3⟩:=Dt (n:=2) (by omega) h2
 obtain rfl:=fY h3 (by omega)
 obtain⟨w0,hw⟩:=Gc hw
 obtain⟨w1,hw⟩:=Gc hw
 obtain⟨w2,-⟩:=Gc hw
 obtain⟨f,r,e0,q0⟩:=BA rfl w0
 obtain⟨s,e1,q1⟩:=BB rfl w1
 obtain⟨i,e2,q2⟩:=BW rfl w2
 exact⟨⟨f,r,s,i⟩,by rw[e0,e1,e2,List.append_nil];rfl,q0,q1,q2⟩
theorem wO {vs:List (Nat×Vl)} (h:asc 6 (-1) vs) (hw:vsW k6 vs):∃x:Iss,vs=Gx x∧nmW x.f x.r∧rsW x.s:=by
 obtain⟨o0,v1,rfl,h1⟩:=Dt (n:=0) (by omega) h
 obtain⟨o1,v2,rfl,h2⟩:=Dt (n:=1) (by omega) h1
 obtain⟨o2,v3,rfl,h3⟩:=Dt (n:=2) (by omega) h2
 obtain⟨o3,v4,rfl,h4⟩:=Dt (n:=3) (by omega) h3
 obtain⟨o4,v5,rfl,h5⟩:=Dt (n:=4) (by omega) h4
 obtain⟨o5,v6,rfl,h6⟩:=Dt (n:=5) (by omega) h5
 obtain rfl:=fY h6 (by omega)
 obtain⟨w0,hw⟩:=Gc hw
 obtain⟨w1,hw⟩:=Gc hw
 obtain⟨w2,hw⟩:=Gc hw
 obtain⟨w3,hw⟩:=Gc hw
 obtain⟨w4,hw⟩:=Gc hw
 obtain⟨w5,-⟩:=Gc hw
 obtain⟨f,r,e0,q0⟩:=BA rfl w0
 obtain⟨u,e1⟩:=vS rfl w1
 obtain⟨c,e2⟩:=vS rfl w2
 obtain⟨s,e3,q3⟩:=BB rfl w3
 obtain⟨n,e4⟩:=vS rfl w4
 obtain⟨a,e5⟩:=vS rfl w5
 exact⟨⟨f,r,u,c,n,a,s⟩,by rw[e0,e1,e2,e3,e4,e5,List.append_nil];rfl,q0,q3⟩
theorem Gv (d:Dr) (a b:List (Nat×Vl)):Kn d (a++b)=Kn (Kn d a) b:=List.foldl_append
theorem My (d:Dr) (n:Nat) (c:Prop) [Decidable c] (v:Vl):Kn d (opt n c v)=if c then d.set n v else d:=by
 unfold opt
 split<;>rfl
theorem fZ {f:List Gn} {r:List Att} (h:nmW f r):Kn dr0 (opt 0 (f≠[]∨r≠[]) (.nm f r))=⟨f,r,0,[],fun _=>false⟩:=by
 rw[My]
 by_cases h0:f=[]
 ·subst h0
  by_cases h1:r=[]
  ·subst h1;rfl
  ·rw[if_pos (.inr h1)];rfl
 ·obtain⟨h|⟨rfl,-⟩,-⟩:=h
  ·exact absurd h h0
  ·rw[if_pos (.inl h0)]
   show(if f=[] then _ else _)=_
   rw[if_neg h0];rfl
theorem gA (d:Dr) (n:Nat) {s:Int} (h:rsW s) (h0:d.s=0):Kn d (opt n (s≠0) (.rs s.toNat))={d with s:=s.toNat}:=by
 rw[My]
 by_cases hs:s=0
 ·subst hs
  rw[if_neg (by simp)]
  obtain⟨f,r,s,i,fl⟩:=d
  simp only at h0
  subst h0;rfl
 ·rw[if_pos hs];rfl
theorem vT (d:Dr) (n:Nat) {i:List Gn} (h0:d.i=[]):Kn d (opt n (i≠[]) (.is i))={d with i:=i}:=by
 rw[My]
 by_cases hs:i=[]
 ·subst hs
  rw[if_neg (by simp)]
  obtain⟨f,r,s,i,fl⟩:=d
  simp only at h0
  subst h0;rfl
 ·rw[if_pos hs];rfl
theorem Pj (d:Dr) (n:Nat) (b:Bool):Kn d (opt n (b=true) .fl)={d with fl:=fun m=>(b&&m==n)||d.fl m}:=by
 rw[My]
 cases b
 ·rw[if_neg (by simp)]
  obtain⟨f,r,s,i,fl⟩:=d
  simp only[Bool.false_and,Bool.false_or]
 ·rw[if_pos rfl]
  show({d with fl:=fun m=>m==n||d.fl m}:Dr)=_
  simp only[Bool.true_and]
def Y6 (d:Dr):Pt:=⟨d.f,d.r,d.s,d.i⟩
def Y7 (d:Dr):Iss:=⟨d.f,d.r,d.fl 1,d.fl 2,d.fl 4,d.fl 5,d.s⟩
theorem V3 {p:Pt} (h:nmW p.f p.r) (hs:rsW p.s):Y6 (Kn dr0 (Gb p))=p:=by
 obtain⟨f,r,s,i⟩:=p
 unfold Gb
 simp only at h hs⊢
 rw[Gv,fZ h,Gv,gA _ 1 hs rfl,vT _ 2 rfl]
 obtain⟨h0,-⟩:=hs
 show Pt.mk f r (s.toNat:Int) i=_
 rw[Int.toNat_of_nonneg h0]
theorem V4 {x:Iss} (h:nmW x.f x.r) (hs:rsW x.s):Y7 (Kn dr0 (Gx x))=x:=by
 obtain⟨f,r,u,c,n,a,s⟩:=x
 unfold Gx
 simp only at h hs⊢
 rw[Gv,fZ h,Gv,Pj,Gv,Pj,Gv,gA _ 3 hs rfl,Gv,Pj,Pj]
 obtain⟨h0,-⟩:=hs
 show Iss.mk f r _ _ _ _ (s.toNat:Int)=_
 rw[Int.toNat_of_nonneg h0]
 cases u<;>cases c<;>cases n<;>cases a<;>rfl
def ptP (b:List UInt8):Option Pt×Nat×Nat:=match rdD b k3 with
 |(none,c,o)=>(none,c,o)
 |(some d,_)=>if ptW (Y6 d)=true then(some (Y6 d),0,0) else(none,6,0)
def isP (b:List UInt8):Option Iss×Nat×Nat:=match rdD b k6 with
 |(none,c,o)=>(none,c,o)
 |(some d,_)=>if isW (Y7 d)=true then(some (Y7 d),0,0) else(none,6,0)
theorem cV (b:List UInt8) (hb:b.length≤700000):pT b.length (fun p=>ptW p=true∧b=ptE p) (ptP b):=by
 unfold ptP
 rcases Pi (k:=k3) hb wL with⟨d,⟨vs,w1,w2,w3,w4⟩,w5⟩|⟨c,o,h1,h2,h3⟩
 ·rw[w5]
  obtain⟨p,rfl,q1,q2,q3⟩:=wN w1 w2
  have hd:Y6 d=p:=by rw[w4];exact V3 q1 q2
  simp only
  rw[hd]
  by_cases hw:ptW p=true
  ·rw[if_pos hw];exact .inl ⟨p,⟨hw,w3⟩,rfl⟩
  ·rw[if_neg hw];exact .inr ⟨6,0,by omega,Nat.zero_le _,rfl⟩
 ·rw[h3];exact .inr ⟨c,o,h1,h2,rfl⟩
theorem zG (b:List UInt8) (hb:b.length≤700000):pT b.length (fun p=>isW p=true∧b=isE p) (isP b):=by
 unfold isP
 rcases Pi (k:=k6) hb wM with⟨d,⟨vs,w1,w2,w3,w4⟩,w5⟩|⟨c,o,h1,h2,h3⟩
 ·rw[w5]
  obtain⟨p,rfl,q1,q2⟩:=wO w1 w2
  have hd:Y7 d=p:=by rw[w4];exact V4 q1 q2
  simp only
  rw[hd]
  by_cases hw:isW p=true
  ·rw[if_pos hw];exact .inl ⟨p,⟨hw,w3⟩,rfl⟩
  ·rw[if_neg hw];exact .inr ⟨6,0,by omega,Nat.zero_le _,rfl⟩
 ·rw[h3];exact .inr ⟨c,o,h1,h2,rfl⟩
structure nmM (f:List Gn) (r:List Att):Prop where
 f:gnsM f
 r:rdnZ r
structure Pt.mid (p:Pt):Prop where
 m:nmM p.f p.r
 i:gnsM p.i
theorem Cp {n:Nat} {c:Prop} [Decidable c] {v:Vl} {p:Nat×Vl} (h:p∈opt n c v):c∧p=(n,v):=by
 unfold opt at h
 by_cases hc:c
 ·rw[if_pos hc,List.mem_singleton] at h;exact⟨hc,h⟩
 ·rw[if_neg hc] at h;cases h
theorem Iy {m n:Nat} {last:Int} {c:Prop} [Decidable c] {v:Vl} {vs:List (Nat×Vl)} (h1:last<n) (h2:n<m) (h:∀l:Int,l≤n→asc m l vs):asc m last (opt n c v++vs):=by
 unfold opt
 split
 ·exact⟨h1,h2,h n (Int.le_refl _)⟩
 ·exact h last (by omega)
theorem Y8 {m n:Nat} {c:Prop} [Decidable c] {v:Vl} (h2:n<m):∀l:Int,l<n→asc m l (opt n c v):=fun l hl=>by
 unfold opt
 split
 ·exact⟨hl,h2,trivial⟩
 ·trivial
theorem zH (p:Pt):asc 3 (-1) (Gb p):=by
 unfold Gb
 exact Iy (by omega) (by omega) fun l hl=>Iy (by omega) (by omega) fun l hl=>Y8 (by omega) l (by omega)
theorem zI (x:Iss):asc 6 (-1) (Gx x):=by
 unfold Gx
 exact Iy (by omega) (by omega) fun l hl=>Iy (by omega) (by omega) fun l hl=>Iy (by omega) (by omega) fun l hl=>Iy (by omega) (by omega) fun l hl=>Iy (by omega) (by omega) fun l hl=>Y8 (by omega) l (by omega)
theorem rA {f:List Gn} {r:List Att} (h:nmW f r) (h0:f≠[]∨r≠[]):vlW 110 (.nm f r):=by
 refine⟨rfl,?_⟩
 obtain⟨h1,h2⟩:=h
 by_cases hf:f=[]
 ·exact .inr ⟨hf,h2.resolve_left (h0.resolve_left fun h=>h hf)⟩
 ·obtain⟨a,b⟩:=h1.resolve_left hf
  exact .inl ⟨hf,a,b⟩
theorem rB {s:Int} (h:rsW s) (h0:s≠0):vlW 114 (.rs s.toNat):=⟨rfl,by unfold rsW at h;omega,by unfold rsW at h;omega⟩
theorem zJ {p:Pt} (h:nmW p.f p.r) (hs:rsW p.s) (hi:p.i=[]∨p.i.all gnW=true):vsW k3 (Gb p):=by
 intro q hq
 unfold Gb at hq
 simp only[List.mem_append] at hq
 rcases hq with hq|hq|hq
 ·obtain⟨h0,rfl⟩:=Cp hq
  exact rA h h0
 ·obtain⟨h0,rfl⟩:=Cp hq
  exact rB hs h0
 ·obtain⟨h0,rfl⟩:=Cp hq
  exact⟨rfl,h0,hi.resolve_left h0⟩
theorem zK {x:Iss} (h:nmW x.f x.r) (hs:rsW x.s):vsW k6 (Gx x):=by
 intro q hq
 unfold Gx at hq
 simp only[List.mem_append] at hq
 rcases hq with hq|hq|hq|hq|hq|hq
 ·obtain⟨h0,rfl⟩:=Cp hq
  exact rA h h0
 ·obtain⟨h0,rfl⟩:=Cp hq
  rfl
 ·obtain⟨h0,rfl⟩:=Cp hq
  rfl
 ·obtain⟨h0,rfl⟩:=Cp hq
  exact rB hs h0
 ·obtain⟨h0,rfl⟩:=Cp hq
  rfl
 ·obtain⟨h0,rfl⟩:=Cp hq
  rfl
def Vl.sz (v:Vl):Prop:=v.mid∧(vlC v).length≤850000000
theorem H9 (s:Nat):(Fl s).length≤3:=by
 unfold Fl
 split
 ·simp
 ·split<;>simp
theorem Mz {f:List Gn} {r:List Att} (h:nmM f r):(nmC f r).length≤(Bo f).length+(D3 r).length+6:=by
 have a:=h.f.e
 have b:=h.r.e
 have e1:=Ao 2 1 true (D3 r) (by unfold D3;omega)
 have e2:=Ao 2 0 true (Bo f) (by unfold Bo;omega)
 unfold nmC
 split<;>omega
theorem Iz {n:Nat} {c:Prop} [Decidable c] {v:Vl} (h:(vlC v).length≤900000000):(vsB (opt n c v)).flatten.length≤(vlC v).length+6:=by
 unfold opt vsB
 split
 ·have:=Ao 2 n (vlK v) (vlC v) (by omega)
  have e:(vlT (n,v)).enc=Ae 2 n (vlK v) (vlC v):=rfl
  simp only[List.map_cons,List.map_nil,List.flatten_cons,List.flatten_nil,List.append_nil]
  rw[e];omega
 ·simp
theorem Ct (a b:List (Nat×Vl)):vsB (a++b)=vsB a++vsB b:=List.map_append
theorem V5 {p:Pt} (h:p.mid) (hf:(Bo p.f).length≤400000000) (hi:(Bo p.i).length≤400000000):(vsB (Gb p)).flatten.length≤(Bo p.f).length+(D3 p.r).length+(Bo p.i).length+40:=by
 have hc:=Mz h.m
 have hr:(D3 p.r).length≤90000000:=h.m.r.e
 have hs:=H9 p.s.toNat
 have a:=Iz (n:=0) (c:=p.f≠[]∨p.r≠[]) (v:= .nm p.f p.r) (by show(nmC p.f p.r).length≤_;omega)
 have b:=Iz (n:=1) (c:=p.s≠0) (v:= .rs p.s.toNat) (by show(Fl p.s.toNat).length≤_;omega)
 have c:=Iz (n:=2) (c:=p.i≠[]) (v:= .is p.i) (by show(Bo p.i).length≤_;omega)
 have a':(vlC (.nm p.f p.r)).length=(nmC p.f p.r).length:=rfl
 have b':(vlC (.rs p.s.toNat)).length=(Fl p.s.toNat).length:=rfl
 have c':(vlC (.is p.i)).length=(Bo p.i).length:=rfl
 unfold Gb
 rw[Ct,Ct,List.flatten_append,List.flatten_append,List.length_append,List.length_append]
 omega
theorem cW {x:Iss} (h:nmM x.f x.r) (hf:(Bo x.f).length≤400000000):(vsB (Gx x)).flatten.length≤(Bo x.f).length+(D3 x.r).length+70:=by
 have hc:=Mz h
 have hr:(D3 x.r).length≤90000000:=h.r.e
 have hs:=H9 x.s.toNat
 have a:=Iz (n:=0) (c:=x.f≠[]∨x.r≠[]) (v:= .nm x.f x.r) (by show(nmC x.f x.r).length≤_;omega)
 have b:=Iz (n:=3) (c:=x.s≠0) (v:= .rs x.s.toNat) (by show(Fl x.s.toNat).length≤_;omega)
 have hl:(vlC .fl).length=1:=rfl
 have c1:=Iz (n:=1) (c:=x.u=true) (v:= .fl) (by omega)
 have c2:=Iz (n:=2) (c:=x.c=true) (v:= .fl) (by omega)
 have c3:=Iz (n:=4) (c:=x.n=true) (v:= .fl) (by omega)
 have c4:=Iz (n:=5) (c:=x.a=true) (v:= .fl) (by omega)
 have a':(vlC (.nm x.f x.r)).length=(nmC x.f x.r).length:=rfl
 have b':(vlC (.rs x.s.toNat)).length=(Fl x.s.toNat).length:=rfl
 unfold Gx
 rw[Ct,Ct,Ct,Ct,Ct]
 simp only[List.flatten_append,List.length_append]
 omega
theorem Ki {p:Pt}:ptW p=true↔nmW p.f p.r∧rsW p.s∧(p.i=[]∨p.i.all gnW=true)∧(p.f≠[]∨p.r≠[]∨p.i≠[]):=by
 unfold ptW;exact decide_eq_true_iff
theorem M0 {x:Iss}:isW x=true↔nmW x.f x.r∧rsW x.s∧R8 x∧Tz x:=by
 unfold isW;exact decide_eq_true_iff
theorem zL {p:Pt} (h:ptW p=true) (hs:p.mid) (hf:(Bo p.f).length≤400000000) (hi:(Bo p.i).length≤400000000):ptP (ptE p)=(some p,0,0):=by
 obtain⟨h1,h2,h3,-⟩:=Ki.1 h
 have hl:=V5 hs hf hi
 have hr:(D3 p.r).length≤90000000:=hs.m.r.e
 have hc:=Mz hs.m
 have hq:=H9 p.s.toNat
 have hmem:∀q∈Gb p,q.2.mid∧(vlC q.2).length≤900000000:=fun q hq'=>by
  unfold Gb at hq'
  simp only[List.mem_append] at hq'
  rcases hq' with hq'|hq'|hq'
  ·obtain⟨-,rfl⟩:=Cp hq'
   exact⟨⟨hs.m.f,hs.m.r⟩,by show(nmC p.f p.r).length≤_;omega⟩
  ·obtain⟨-,rfl⟩:=Cp hq'
   exact⟨trivial,by show(Fl p.s.toNat).length≤_;omega⟩
  ·obtain⟨-,rfl⟩:=Cp hq'
   exact⟨hs.i,by show(Bo p.i).length≤_;omega⟩
 have:=fX (k:=k3) (zH p) (zJ h1 h2 h3) (fun q hq=>(hmem q hq).1) (by simp) (fun q hq=>(hmem q hq).2) (by omega)
 unfold ptP ptE
 rw[this]
 simp only
 rw[V3 h1 h2,if_pos h]
theorem zM {x:Iss} (h:isW x=true) (hs:nmM x.f x.r) (hf:(Bo x.f).length≤400000000):isP (isE x)=(some x,0,0):=by
 obtain⟨h1,h2,-⟩:=M0.1 h
 have hl:=cW hs hf
 have hr:(D3 x.r).length≤90000000:=hs.r.e
 have hc:=Mz hs
 have hq:=H9 x.s.toNat
 have hmem:∀q∈Gx x,q.2.mid∧(vlC q.2).length≤900000000:=fun q hq'=>by
  unfold Gx at hq'
  simp only[List.mem_append] at hq'
  rcases hq' with hq'|hq'|hq'|hq'|hq'|hq'
  ·obtain⟨-,rfl⟩:=Cp hq'
   exact⟨⟨hs.f,hs.r⟩,by show(nmC x.f x.r).length≤_;omega⟩
  ·obtain⟨-,rfl⟩:=Cp hq'
   exact⟨trivial,by show(1:Nat)≤_;omega⟩
  ·obtain⟨-,rfl⟩:=Cp hq'
   exact⟨trivial,by show(1:Nat)≤_;omega⟩
  ·obtain⟨-,rfl⟩:=Cp hq'
   exact⟨trivial,by show(Fl x.s.toNat).length≤_;omega⟩
  ·obtain⟨-,rfl⟩:=Cp hq'
   exact⟨trivial,by show(1:Nat)≤_;omega⟩
  ·obtain⟨-,rfl⟩:=Cp hq'
   exact⟨trivial,by show(1:Nat)≤_;omega⟩
 have:=fX (k:=k6) (zI x) (zK h1 h2) (fun q hq=>(hmem q hq).1) (by simp) (fun q hq=>(hmem q hq).2) (by omega)
 unfold isP isE
 rw[this]
 simp only
 rw[V4 h1 h2,if_pos h]
def pt0:Pt:=⟨[],[],0,[]⟩
def is0:Iss:=⟨[],[],false,false,false,false,0⟩
theorem M1:rdnZ []:=⟨by simp,(fun g hg=>by cases hg),by simp⟩
structure nmZZ (f:List Gn) (r:List Att):Prop where
 f:gnsZ f
 r:rdnZ r
structure Pt.z (p:Pt):Prop where
 m:nmZZ p.f p.r
 i:gnsZ p.i
structure Pt.sm (p:Pt):Prop where
 m:p.mid
 f:(Bo p.f).length≤400000000
 i:(Bo p.i).length≤400000000
structure Iss.sm (x:Iss):Prop where
 m:nmM x.f x.r
 f:(Bo x.f).length≤400000000
theorem cX {n:Nat} {c:Prop} [Decidable c] {v:Vl} (h:c):(vlC v).length≤(vsB (opt n c v)).flatten.length:=by
 unfold opt
 rw[if_pos h]
 show(vlC v).length≤[(vlT (n,v)).enc].flatten.length
 have:=Cf 2 n (vlK v) (vlC v)
 have e:(vlT (n,v)).enc=Ae 2 n (vlK v) (vlC v):=rfl
 simp only[List.flatten_cons,List.flatten_nil,List.append_nil]
 rw[e];omega
theorem V6 (vs:List (Nat×Vl)):(vsB vs).flatten.length+2≤(vsE vs).length:=by
 have:=Cf 0 16 true (vsB vs).flatten
 unfold vsE;omega
theorem M2:gnsM []:=⟨by simp,(fun g hg=>by cases hg),by simp⟩
theorem Y9 {f:List Gn} {r:List Att} (h:nmW f r) (hl:f≠[]∨r≠[]→(nmC f r).length≤399000):nmM f r∧(Bo f).length≤399000:=by
 obtain⟨h1,h2⟩:=h
 by_cases hf:f=[]
 ·subst hf
  refine⟨⟨M2,?_⟩,by simp[Bo]⟩
  by_cases hr:r=[]
  ·subst hr;exact M1
  ·have hw:=h2.resolve_left hr
   have hq:=hl (.inr hr)
   unfold nmC at hq
   rw[if_pos rfl] at hq
   have e1:=Cf 2 1 true (D3 r)
   have e2:=Ao 0 17 true (D3 r) (by omega)
   exact(qL hw (by show(Ae 0 17 true (D3 r)).length≤_;omega)).1
 ·obtain⟨rfl,ha⟩:=h1.resolve_left hf
  have hq:=hl (.inl hf)
  unfold nmC at hq
  rw[if_neg hf] at hq
  have e1:=Cf 2 0 true (Bo f)
  exact⟨⟨Ry ha (by show(Bo f).length≤_;omega),M1⟩,by omega⟩
theorem T0 {p:Pt} (h1:nmW p.f p.r) (h3:p.i=[]∨p.i.all gnW=true) (hl:(ptE p).length≤399000):p.sm:=by
 have hv:=V6 (Gb p)
 have hl:(vsE (Gb p)).length≤399000:=hl
 have hb:(vsB (Gb p)).flatten.length=(vsB (opt 0 (p.f≠[]∨p.r≠[]) (.nm p.f p.r))).flatten.length+((vsB (opt 1 (p.s≠0) (.rs p.s.toNat))).flatten.length+(vsB (opt 2 (p.i≠[]) (.is p.i))).flatten.length):=by
  unfold Gb
  rw[Ct,Ct,List.flatten_append,List.flatten_append,List.length_append,List.length_append]
 obtain⟨a,b⟩:=Y9 h1 fun h0=>by
  have:=cX (n:=0) (v:= .nm p.f p.r) h0
  have e:(vlC (.nm p.f p.r)).length=(nmC p.f p.r).length:=rfl
  omega
 have hi:(Bo p.i).length≤399000:=by
  by_cases h0:p.i=[]
  ·rw[h0];simp[Bo]
  ·have:=cX (n:=2) (v:= .is p.i) (show p.i≠[] from h0)
   have e:(vlC (.is p.i)).length=(Bo p.i).length:=rfl
   omega
 have hm:gnsM p.i:=by
  rcases h3 with h3|h3
  ·rw[h3];exact M2
  ·exact Ry h3 (by show(Bo p.i).length≤_;omega)
 exact⟨⟨a,hm⟩,by omega,by omega⟩
theorem R9 {p:Pt} (h:ptW p=true) (hl:(ptE p).length≤399000):p.sm:=by
 obtain⟨h1,-,h3,-⟩:=Ki.1 h
 exact T0 h1 h3 hl
theorem T1 {x:Iss} (h1:nmW x.f x.r) (hl:(isE x).length≤399000):x.sm:=by
 have hv:=V6 (Gx x)
 have hl:(vsE (Gx x)).length≤399000:=hl
 obtain⟨a,b⟩:=Y9 h1 fun h0=>by
  have:=cX (n:=0) (v:= .nm x.f x.r) h0
  have e:(vlC (.nm x.f x.r)).length=(nmC x.f x.r).length:=rfl
  have:(vsB (opt 0 (x.f≠[]∨x.r≠[]) (.nm x.f x.r))).flatten.length≤(vsB (Gx x)).flatten.length:=by
   unfold Gx
   rw[Ct,List.flatten_append,List.length_append];omega
  omega
 exact⟨a,by omega⟩
theorem rC {x:Iss} (h:isW x=true) (hl:(isE x).length≤399000):x.sm:=T1 (M0.1 h).1 hl
theorem Pt.sm.put {p:Pt} (h:ptW p=true) (hs:p.sm):ptP (ptE p)=(some p,0,0):=zL h hs.m hs.f hs.i
theorem Iss.sm.put {x:Iss} (h:isW x=true) (hs:x.sm):isP (isE x)=(some x,0,0):=zM h hs.m hs.f
theorem vU {p q:Pt} (h:ptW p=true) (h':ptW q=true) (hs:p.sm) (hs':q.sm) (e:ptE p=ptE q):p=q:=by
 have a:=hs.put h
 rw[e,hs'.put h'] at a
 simp only[Prod.mk.injEq,Option.some.injEq,and_true] at a
 exact a.symm
theorem vV {p q:Iss} (h:isW p=true) (h':isW q=true) (hs:p.sm) (hs':q.sm) (e:isE p=isE q):p=q:=by
 have a:=hs.put h
 rw[e,hs'.put h'] at a
 simp only[Prod.mk.injEq,Option.some.injEq,and_true] at a
 exact a.symm
theorem gB (p:Pt):2≤(ptE p).length:=by
 have:=V6 (Gb p)
 unfold ptE;omega
theorem vW (x:Iss):2≤(isE x).length:=by
 have:=V6 (Gx x)
 unfold isE;omega
theorem rD {p:Pt} (hs:p.sm):∃t:Tv,t.ok∧ptE p=t.enc:=by
 have:=V5 hs.m hs.f hs.i
 have:=hs.f
 have:=hs.i
 have:(D3 p.r).length≤90000000:=hs.m.m.r.e
 exact⟨⟨0,16,true,(vsB (Gb p)).flatten⟩,⟨by show(0:Nat)≤3;omega,by show(16:Nat)≤30;omega,by show(vsB (Gb p)).flatten.length≤_;omega⟩,rfl⟩
theorem rE {p q:Pt} (hp:p.sm) (hq:q.sm) {r:List UInt8} (e:ptE q++r=ptE p):r=[]:=by
 obtain⟨t,t1,t2⟩:=rD hp
 obtain⟨u,u1,u2⟩:=rD hq
 rw[t2,u2] at e
 exact(Tv.inj u1 t1 (s:=[]) (by rw[List.append_nil];exact e)).2
theorem zN {p:Pt} (hp:p.sm) (hl:(ptE p).length≤399000) {k:Nat} (hk:k<(ptE p).length):∃c o:Nat,c≠0∧ptP ((ptE p).take k)=(none,c,o):=by
 rcases cV ((ptE p).take k) (by rw[List.length_take];omega) with⟨q,⟨hw,he⟩,-⟩|⟨c,o,h1,-,h2⟩
 ·exfalso
  have hle:(ptE q).length=k:=by rw[←he,List.length_take];omega
  have mw:=R9 hw (by omega)
  have h0:=rE hp mw (r:=(ptE p).drop k) (by rw[←he,List.take_append_drop])
  have:=congrArg List.length h0
  rw[List.length_drop,List.length_nil] at this
  omega
 ·exact⟨c,o,h1,h2⟩
theorem vX {p:Pt} (hp:p.sm) {m:List UInt8} (hl:(ptE p).length+m.length≤399000) (hm:m≠[]):∃c o:Nat,c≠0∧ptP (ptE p++m)=(none,c,o):=by
 rcases cV (ptE p++m) (by rw[List.length_append];omega) with⟨q,⟨hw,he⟩,-⟩|⟨c,o,h1,-,h2⟩
 ·exfalso
  have mw:=R9 hw (by rw[←he,List.length_append];omega)
  exact hm (rE mw hp he)
 ·exact⟨c,o,h1,h2⟩
def Oq (p:Pt):Bool:=C1 p.f&&(Cv p.r&&C1 p.i)
def Sa (x:Iss):Bool:=C1 x.f&&Cv x.r
theorem rF {f:List Gn} {r:List Att} (h1:C1 f=true) (h2:Cv r=true):nmM f r∧(Bo f).length≤187136∧(D3 r).length≤3702:=by
 obtain⟨-,a,b⟩:=Rx h1
 obtain⟨c,d⟩:=Lk h2
 obtain⟨-,-,e⟩:=F9 h2
 have:=Cf 0 17 true (D3 r)
 have:(C6 r).length=(Ae 0 17 true (D3 r)).length:=rfl
 exact⟨⟨a,c⟩,b,by omega⟩
theorem rG {p:Pt} (h:Oq p=true):p.sm∧(ptE p).length≤379000:=by
 unfold Oq at h
 rw[Bool.and_eq_true,Bool.and_eq_true] at h
 obtain⟨a,b,c⟩:=rF h.1 h.2.1
 obtain⟨-,d,e⟩:=Rx h.2.2
 have e:(Bo p.i).length≤187136:=e
 have hs:p.sm:=⟨⟨a,d⟩,by omega,by omega⟩
 have hl:=V5 hs.m hs.f hs.i
 have:=Ao 0 16 true (vsB (Gb p)).flatten (by omega)
 exact⟨hs,by show(Ae 0 16 true (vsB (Gb p)).flatten).length≤_;omega⟩
theorem rH {x:Iss} (h:Sa x=true):x.sm∧(isE x).length≤379000:=by
 unfold Sa at h
 rw[Bool.and_eq_true] at h
 obtain⟨a,b,c⟩:=rF h.1 h.2
 have hs:x.sm:=⟨a,by omega⟩
 have hl:=cW hs.m hs.f
 have:=Ao 0 16 true (vsB (Gx x)).flatten (by omega)
 exact⟨hs,by show(Ae 0 16 true (vsB (Gx x)).flatten).length≤_;omega⟩
set_option maxHeartbeats 16000000
def M3 (s:Int):Prop:= -9223372036854775808≤s∧s≤9223372036854775807
abbrev dpA (p:Pt):AV:= .agg [.d (Fs p.f),.d (Gp p.r),iv p.s,.d (Fs p.i)]
abbrev diA (x:Iss):AV:= .agg [.d (Fs x.f),.d (Gp x.r),bv x.u,bv x.c,bv x.n,bv x.a,iv x.s]
abbrev plA (f:List Gn) (r:List Att):AV:= .agg [.d (Fs f),.d (Gp r)]
def plV (f:List Gn) (r:List Att) (s:Int):Bool:=decide (nmW f r∧rsW s)
def Ko (f:List Gn) (r:List Att):Bool:=f.isEmpty&&r.isEmpty
theorem Sr {α:Type} {l:List α} (h:l≠[]):decide ((l.length:Int)>0)=true:=decide_eq_true (by have:=List.length_pos_iff.2 h;omega)
theorem wP {α:Type} {l:List α} (h:l≠[]):((l.length:Int)==0)=false:=by
 rw[beq_eq_false_iff_ne];have:=List.length_pos_iff.2 h;omega
theorem M4 {l:List Gn} (h:l≠[]):Mr l=l.all gnW:=by
 unfold Mr
 cases l with
 |nil=>exact absurd rfl h
 |cons a r=>rfl
theorem Dz {p:Prop} (h:p:=by first|rfl|(simp only[AV.gives,AV.ren,AV.give,D.un,D.uns,Ag,Ai,List.nil_append,List.append_nil,List.cons_append,Al,A3,Bz,Bd,Aw,Bt,Cd,Ce,Bg,Dk,Bk];first|done|rfl)):p:=h
theorem lD (r:List Att) (hz:rdnZ r):Ab Tryz.prog 107 [.d (Gp r)] (fun x=>x=bv (E4 r)):=by
 have hM:=Lg r hz
 cases h:E4 r
 ·rw[h] at hM
  have hM:Ab Tryz.prog 47 [.d (Gp r)] (fun q=>q= .tup [Ay,iv 8]):=hM
  refine acQ 12 Tryz.func107 rfl rfl fun _ _ _=> ?_
  (repeat'((conv=>whnf);refine NCall.eq hM Dz ?_));(all_goals(conv=>whnf))
  all_goals exact NEnd.eq leQ
 ·rw[h] at hM
  have hM:Ab Tryz.prog 47 [.d (Gp r)] (fun q=>q= .tup [B7 0 5 (C6 r),iv 0]):=hM
  refine acQ 12 Tryz.func107 rfl rfl fun _ _ _=> ?_
  (repeat'((conv=>whnf);refine NCall.eq hM Dz ?_));(all_goals(conv=>whnf))
  all_goals exact NEnd.eq leQ
theorem rI (f:List Gn) (r:List Att):(f=[]∧r=[]∧nmW f r)∨(f=[]∧r≠[]∧E4 r=true∧nmW f r)∨(f=[]∧r≠[]∧E4 r=false∧¬nmW f r)∨(f≠[]∧r=[]∧Mr f=true∧nmW f r)∨(f≠[]∧r=[]∧Mr f=false∧¬nmW f r)∨(f≠[]∧r≠[]∧¬nmW f r):=by
 by_cases f0:f=[]<;>by_cases r0:r=[]
 ·exact .inl ⟨f0,r0,.inl f0,.inl r0⟩
 ·cases h:E4 r
  ·refine .inr (.inr (.inl ⟨f0,r0,rfl,fun hw=> ?_⟩))
   have:=hw.2.resolve_left r0
   rw[h] at this;cases this
  ·exact .inr (.inl ⟨f0,r0,rfl,.inl f0,.inr h⟩)
 ·have e:=M4 f0
  cases h:Mr f
  ·refine .inr (.inr (.inr (.inr (.inl ⟨f0,r0,rfl,fun hw=> ?_⟩))))
   have:=(hw.1.resolve_left f0).2
   rw[←e,h] at this;cases this
  ·exact .inr (.inr (.inr (.inl ⟨f0,r0,rfl,.inr ⟨r0,by rw[←e,h]⟩,.inl r0⟩)))
 ·exact .inr (.inr (.inr (.inr (.inr ⟨f0,r0,fun hw=>r0 (hw.1.resolve_left f0).1⟩))))
theorem gC (f:List Gn) (r:List Att) (s:Int) (hf:gnsM f) (hr:rdnZ r) (hs:M3 s):Ab Tryz.prog 68 [plA f r,iv s] (fun q=>q=bv (plV f r s)):=by
 have hL:=R0 f hf
 have hR:=lD r hr
 have hfn:=hf.n
 have hrl:=hr.l
 obtain⟨s1,s2⟩:=hs
 rcases rI f r with⟨rfl,rfl,hw⟩|⟨rfl,h0,hv,hw⟩|⟨rfl,h0,hv,hw⟩|⟨h1,rfl,hv,hw⟩|⟨h1,rfl,hv,hw⟩|⟨h1,h0,hw⟩
 rotate_left 2
 ·have e:plV [] r s=false:=decide_eq_false fun h=>hw h.1
  have g0:=Sr h0
  rw[e]
  rw[hv] at hR
  refine acQ 40 Tryz.func68 rfl rfl fun _ _ _=> ?_
  (repeat'((conv=>whnf);first|refine NBr.pos asQ ?_|refine NBr.yes ?_|refine NBr.no ?_|refine NCall.eq hR Dz ?_));(all_goals(conv=>whnf))
  all_goals exact NEnd.eq leQ
 rotate_left 1
 ·have e:plV f [] s=false:=decide_eq_false fun h=>hw h.1
  have g1:=Sr h1
  rw[e]
  rw[hv] at hL
  refine acQ 40 Tryz.func68 rfl rfl fun _ _ _=> ?_
  (repeat'((conv=>whnf);first|refine NBr.pos asQ ?_|refine NBr.yes ?_|refine NBr.no ?_|refine NCall.eq hL Dz ?_));(all_goals(conv=>whnf))
  all_goals exact NEnd.eq leQ
 ·have e:plV f r s=false:=decide_eq_false fun h=>hw h.1
  have g0:=Sr h0
  have g1:=Sr h1
  rw[e]
  refine acQ 40 Tryz.func68 rfl rfl fun _ _ _=> ?_
  (repeat'((conv=>whnf);first|refine NBr.pos asQ ?_|refine NBr.yes ?_));(all_goals(conv=>whnf))
  all_goals exact NEnd.eq leQ
 all_goals
  by_cases q0:s<0
  ·have e:∀f r,plV f r s=false:=fun f r=>decide_eq_false fun h=>by have:=h.2.1;omega
   have g3:decide (s≥0)=false:=decide_eq_false (by omega)
   rw[e]
   first|have g0:=Sr h0;rw[hv] at hR|have g1:=Sr h1;rw[hv] at hL|skip
   refine acQ 40 Tryz.func68 rfl rfl fun _ _ _=> ?_
   (repeat'((conv=>whnf);first|refine NBr.pos asQ ?_|refine NBr.neg asQ ?_|refine NBr.yes ?_|refine NBr.no ?_|refine NCall.eq hR Dz ?_|refine NCall.eq hL Dz ?_));(all_goals(conv=>whnf))
   all_goals exact NEnd.eq leQ
  ·obtain⟨n,rfl⟩:=Int.eq_ofNat_of_zero_le (Int.not_lt.1 q0)
   have g3:decide ((n:Int)≥0)=true:=decide_eq_true (by omega)
   have hsh:(n:Int).fdiv (2^(min (Int.toNat 9) IntKind.i64.bits))=((n/2^9:Nat):Int):=zD (i:=9) (by omega)
   have hle:=Nat.div_le_self n (2^9)
   have gz:(((n/2^9:Nat):Int)==0)=decide (rsW (n:Int)):=by
    rw[Bool.eq_iff_iff,beq_iff_eq,decide_eq_true_iff];unfold rsW;omega
   have e:∀f r,nmW f r→plV f r (n:Int)=decide (rsW (n:Int)):=fun f r h=>by
    unfold plV
    rw[Bool.eq_iff_iff,decide_eq_true_iff,decide_eq_true_iff]
    exact⟨fun a=>a.2,fun a=>⟨h,a⟩⟩
   rw[e _ _ hw]
   first|have g0:=Sr h0;rw[hv] at hR|have g1:=Sr h1;rw[hv] at hL|skip
   refine acQ 40 Tryz.func68 rfl rfl fun _ _ _=> ?_
   (repeat'((conv=>whnf);first|refine NBr.pos asQ ?_|refine NBr.yes ?_|refine NBr.no ?_|refine NCall.eq hR Dz ?_|refine NCall.eq hL Dz ?_|refine NInt.as (((n/2^9:Nat):Int)) (hsh) ?_|refine NFact.go (by first|decide|omega|(simp only[List.length_cons,List.length_nil];omega)) ?_));(all_goals(conv=>whnf))
   all_goals(refine NEnd.eq ?_;(repeat'(first|refine And.intro ?_ ?_|exact rfl));(all_goals(conv=>whnf)))
   all_goals(rw[gz])
theorem Pk (f:List Gn) (r:List Att) (hf:f.length≤1000000) (hr:r.length≤1000000):Ab Tryz.prog 46 [plA f r] (fun q=>q=bv (Ko f r)):=by
 have e:(((f.length:Int)+(r.length:Int))==0)=Ko f r:=by
  unfold Ko
  rw[Bool.eq_iff_iff,beq_iff_eq,Bool.and_eq_true,List.isEmpty_iff,List.isEmpty_iff,←List.length_eq_zero_iff,←List.length_eq_zero_iff];omega
 refine acQ 11 Tryz.func46 rfl rfl fun _ _ _=> ?_
 (repeat'((conv=>whnf);(with_reducible refine NInt.i64 ?_)));(all_goals(conv=>whnf))
 all_goals(refine NEnd.eq ?_;(repeat'(first|refine And.intro ?_ ?_|exact rfl));(all_goals(conv=>whnf)))
 all_goals(rw[e])
theorem zO (p:Pt):ptW p=(plV p.f p.r p.s&&((p.i.isEmpty||Mr p.i)&&(!Ko p.f p.r|| !p.i.isEmpty))):=by
 have hg:p.i≠[]→Mr p.i=p.i.all gnW:=M4
 unfold ptW plV Ko
 obtain⟨f,r,s,i⟩:=p
 simp only at hg⊢
 rw[Bool.eq_iff_iff]
 simp only[decide_eq_true_iff,Bool.and_eq_true,Bool.or_eq_true,Bool.not_eq_true',Bool.and_eq_false_iff,List.isEmpty_iff,List.isEmpty_eq_false_iff]
 constructor
 ·rintro⟨a,b,c,d⟩
  refine⟨⟨a,b⟩,?_,?_⟩
  ·by_cases i0:i=[]
   ·exact .inl i0
   ·exact .inr (by rw[hg i0];exact c.resolve_left i0)
  ·rcases d with d|d|d
   ·exact .inl (.inl d)
   ·exact .inl (.inr d)
   ·exact .inr d
 ·rintro⟨⟨a,b⟩,c,d⟩
  refine⟨a,b,?_,?_⟩
  ·by_cases i0:i=[]
   ·exact .inl i0
   ·exact .inr (by rw[←hg i0];exact c.resolve_left i0)
  ·rcases d with(d|d)|d
   ·exact .inl d
   ·exact .inr (.inl d)
   ·exact .inr (.inr d)
theorem T2 (p:Pt) (h:p.mid) (hs:M3 p.s):Ab Tryz.prog 22 [dpA p] (fun q=>q=bv (ptW p)):=by
 have hV:=gC p.f p.r p.s h.m.f h.m.r hs
 have hE:=Pk p.f p.r h.m.f.n (by have:=h.m.r.l;omega)
 have hG:=R0 p.i h.i
 have hn:=h.i.n
 rw[zO]
 obtain⟨f,r,s,i⟩:=p
 simp only at hV hE hG hn⊢
 clear h hs
 generalize plV f r s=w at hV⊢
 generalize Ko f r=m at hE⊢
 cases w
 ·refine acQ 35 Tryz.func22 rfl rfl fun _ _ _=> ?_
  (repeat'((conv=>whnf);first|refine NBr.no ?_|refine NCall.eq hV Dz ?_));(all_goals(conv=>whnf))
  all_goals exact NEnd.eq leQ
 by_cases i0:i=[]
 ·subst i0
  cases m
  all_goals
   refine acQ 35 Tryz.func22 rfl rfl fun _ _ _=> ?_
   (repeat'((conv=>whnf);first|refine NBr.yes ?_|refine NBr.no ?_|refine NCall.eq hV Dz ?_|refine NCall.eq hE Dz ?_));(all_goals(conv=>whnf))
   all_goals exact NEnd.eq leQ
 ·have g0:=wP i0
  have g1:=Sr i0
  rw[show i.isEmpty=false from List.isEmpty_eq_false_iff.2 i0]
  cases w:Mr i
  all_goals rw[w] at hG
  ·refine acQ 35 Tryz.func22 rfl rfl fun _ _ _=> ?_
   (repeat'((conv=>whnf);first|refine NBr.neg asQ ?_|refine NBr.yes ?_|refine NBr.no ?_|refine NCall.eq hV Dz ?_|refine NCall.eq hG Dz ?_));(all_goals(conv=>whnf))
   all_goals exact NEnd.eq leQ
  ·cases m
   all_goals
    refine acQ 35 Tryz.func22 rfl rfl fun _ _ _=> ?_
    (repeat'((conv=>whnf);first|refine NBr.neg asQ ?_|refine NBr.yes ?_|refine NBr.no ?_|refine NCall.eq hV Dz ?_|refine NCall.eq hG Dz ?_|refine NCall.eq hE Dz ?_));(all_goals(conv=>whnf))
    all_goals(refine NEnd.eq ?_;(repeat'(first|exact B8 _|refine And.intro ?_ ?_|exact rfl));(all_goals(conv=>whnf)))
    all_goals(first|rfl|(rw[g1];rfl))
theorem Fm {P:Program} {C:Cx} {o:Oper} {σ:AS} {t:Nat} {x:Operand} {k i:Nat} (ho:o.op= .nilCheck x) (hd:o.dst=some t) (ht:t<C.N) (hx:σ.eval x=some (.ptr k i)):At P C o σ (σ.put t (.ptr k i)):=
 Am hd ht fun a w bm gt fp hg=>by
  have h:=hg.eval hx
  generalize hv:a.eval x=v at h
  cases h with
  |ptr=>exact⟨_,by simp only[execOp,ho,hv];rfl,.ptr⟩
theorem cY:Ab Tryz.prog 60 [Ay,iv 8] (fun r=>r= .tup [Ay,iv 8]):=by
 refine acQ 24 Tryz.func60 rfl rfl fun _ _ _=> ?_
 (repeat'((conv=>whnf);refine NBr.yes ?_));(all_goals(conv=>whnf))
 all_goals exact NEnd.eq leQ
theorem De {p:Prop} (h:p:=by first|rfl|(simp only[AV.gives,AV.ren,AV.give,D.un,D.uns,Ag,Ai,List.nil_append,List.append_nil,List.cons_append,AV.share,AV.shares,Al,A3,Bz,Bd,Aw,Bt,Cd,Ce,Bg,Dk,Bk];first|done|rfl)):p:=h
theorem V7 (c n:Nat) (k:Bool) (v:List UInt8) (hc1:c≤3) (hn:n≤30) (hl:v.length≤900000000):Ab Tryz.prog 60 [.d (Ac false (Ae c n k v)),iv 0] (fun r=>r= .tup [.d (Ac false v),iv 0]):=by
 obtain⟨h,hO,hL,hd,-⟩:=uH c n k v hc1 hn hl
 have hel:=Ao c n k v (by omega)
 generalize Ae c n k v=b at hO hL hd hel⊢
 have hd0:(b.drop h).take (b.length-h)=v:=hd
 refine acQ 24 Tryz.func60 rfl rfl fun _ _ _=> ?_
 (repeat'((conv=>whnf);first|refine NBr.no ?_|refine NCall.eq hO De ?_|(refine NSl.bytes h b.length v hd0 ?_)|refine NFact.go ⟨by decide+kernel,by kernel_rfl⟩ ?_));(all_goals(conv=>whnf))
 all_goals exact NEnd.eq leQ
theorem T3 (f:List Gn) (r:List Att) (hf:gnsM f) (hr:rdnZ r) (hw:nmW f r) (h0:f≠[]∨r≠[]) (hfl:(Bo f).length≤400000000):Ab Tryz.prog 58 [plA f r] (fun q=>q= .tup [B7 0 5 (Ae 2 0 true (nmC f r)),iv 0]):=by
 have hrl:(D3 r).length≤90000000:=hr.e
 have hnc:=Mz ⟨hf,hr⟩
 have hfn:=hf.n
 have hM:=Rz f hf
 have hW2:=Cj 2 0 true (nmC f r) (by omega) (by omega) (by omega)
 by_cases f0:f=[]
 ·subst f0
  have r0:=h0.resolve_left fun h=>h rfl
  have hv:=hw.2.resolve_left r0
  have hM:Ab Tryz.prog 61 [.d (Fs [])] (fun q=>q= .tup [Ay,iv 8]):=hM
  have hI:=cY
  have hR:=Lg r hr
  rw[hv] at hR
  have hR:Ab Tryz.prog 47 [.d (Gp r)] (fun q=>q= .tup [B7 0 5 (Ae 0 17 true (D3 r)),iv 0]):=hR
  have hJ:=V7 0 17 true (D3 r) (by omega) (by omega) (by omega)
  have hW1:=Cj 2 1 true (D3 r) (by omega) (by omega) (by omega)
  have e:Ae 2 1 true (D3 r)=nmC [] r:=by unfold nmC;rw[if_pos rfl]
  rw[e] at hW1
  generalize Ae 2 0 true (nmC [] r)=w2 at hW2⊢
  generalize nmC [] r=w1 at hW1 hW2
  generalize Ae 0 17 true (D3 r)=w0 at hR hJ
  generalize D3 r=w at hJ hW1
  refine acQ 48 Tryz.func58 rfl rfl fun _ _ _=> ?_
  (repeat'((conv=>whnf);first|refine NBr.yes ?_|refine NBr.no ?_|refine NCall.eq hM rfl ?_|refine NCall.eq hI rfl ?_|refine NCall.eq hR De ?_|refine NCall.eq hJ De ?_|refine NCall.eq hW1 De ?_|refine NCall.eq hW2 De ?_));(all_goals(conv=>whnf))
  all_goals exact NEnd.eq leQ
 ·obtain⟨rfl,ha⟩:=hw.1.resolve_left f0
  have hv:Mr f=true:=by rw[M4 f0];exact ha
  have g0:=wP f0
  rw[hv] at hM
  have hM:Ab Tryz.prog 61 [.d (Fs f)] (fun q=>q= .tup [B7 0 5 (Ae 0 16 true (Bo f)),iv 0]):=hM
  have hJ:=V7 0 16 true (Bo f) (by omega) (by omega) (by omega)
  have hW1:=Cj 2 0 true (Bo f) (by omega) (by omega) (by omega)
  have e:Ae 2 0 true (Bo f)=nmC f []:=by unfold nmC;rw[if_neg f0]
  rw[e] at hW1
  generalize Ae 2 0 true (nmC f [])=w2 at hW2⊢
  generalize nmC f []=w1 at hW1 hW2
  generalize Ae 0 16 true (Bo f)=w0 at hM hJ
  generalize Bo f=w at hJ hW1
  refine acQ 48 Tryz.func58 rfl rfl fun _ _ _=> ?_
  (repeat'((conv=>whnf);first|refine NBr.neg asQ ?_|refine NBr.no ?_|refine NCall.eq hM De ?_|refine NCall.eq hJ De ?_|refine NCall.eq hW1 De ?_|refine NCall.eq hW2 De ?_));(all_goals(conv=>whnf))
  all_goals exact NEnd.eq leQ
def Sb (p:Pt):List (List UInt8):=(if p.f≠[]∨p.r≠[] then [Ae 2 0 true (nmC p.f p.r)] else [])++((if p.s≠0 then [Ae 2 1 false (Fl p.s.toNat)] else [])++(if p.i≠[] then [Ae 2 2 true (Bo p.i)] else []))
theorem Ge {n:Nat} {c:Prop} [Decidable c] {v:Vl}:vsB (opt n c v)=if c then [Ae 2 n (vlK v) (vlC v)] else []:=by
 unfold opt vsB
 split<;>rfl
theorem V8 (p:Pt):vsB (Gb p)=Sb p:=by
 unfold Gb Sb
 rw[Ct,Ct,Ge,Ge,Ge]
 rfl
theorem Jr {f:List Gn} {r:List Att}:Ko f r=false↔f≠[]∨r≠[]:=by
 unfold Ko
 rw[Bool.and_eq_false_iff,List.isEmpty_eq_false_iff,List.isEmpty_eq_false_iff]
theorem V9 {s:Int} (h:rsW s):M3 s:=by unfold rsW at h;unfold M3;omega
theorem Ia (p:Pt) (h:p.sm) (hs:M3 p.s):Ab Tryz.prog 19 [dpA p] (fun q=>q=Ox (ptW p) (ptE p)):=by
 have hV:=T2 p h.m hs
 cases hw:ptW p
 ·rw[hw] at hV
  show Ab _ _ _ (fun q=>q= .tup [Ay,iv 8])
  refine acQ 54 Tryz.func19 rfl rfl fun _ _ _=> ?_
  (repeat'((conv=>whnf);first|refine NBr.yes ?_|refine NCall.eq hV De ?_));(all_goals(conv=>whnf))
  all_goals exact NEnd.eq leQ
 rw[hw] at hV
 show Ab _ _ _ (fun q=>q= .tup [B7 0 5 (ptE p),iv 0])
 obtain⟨w1,w2,w3,w4⟩:=Ki.1 hw
 have hl:=V5 h.m h.f h.i
 have hr:(D3 p.r).length≤90000000:=h.m.m.r.e
 have hf:=h.f
 have hi:=h.i
 have hS:=L4 (Sb p) (by rw[←V8];omega) (by unfold Sb;split<;>split<;>split<;>simp)
 have eS:Ae 0 16 true (Sb p).flatten=ptE p:=by rw[←V8];rfl
 rw[eS] at hS
 have hE:=Pk p.f p.r h.m.m.f.n (by have:=h.m.m.r.l;omega)
 have hN:=T3 p.f p.r h.m.m.f h.m.m.r w1
 have hB:=Ty p.s.toNat (by unfold rsW at w2;omega)
 have hq:=H9 p.s.toNat
 have hW1:=Cj 2 1 false (Fl p.s.toNat) (by omega) (by omega) (by omega)
 have hG:=Rz p.i h.m.i
 have hJ:=V7 0 16 true (Bo p.i) (by omega) (by omega) (by omega)
 have hW2:=Cj 2 2 true (Bo p.i) (by omega) (by omega) (by omega)
 have hin:=h.m.i.n
 unfold Sb at hS
 generalize ptE p=R at hS⊢
 clear hw eS hl hr
 obtain⟨f,r,s,i⟩:=p
 simp only at*
 clear h hs
 obtain⟨n,rfl⟩:=Int.eq_ofNat_of_zero_le w2.1
 rw[Int.toNat_natCast] at*
 have hk:(Ko f r=true∧¬(f≠[]∨r≠[]))∨(Ko f r=false∧(f≠[]∨r≠[])):=by
  cases e:Ko f r
  ·exact .inr ⟨rfl,Jr.1 e⟩
  ·refine .inl ⟨rfl,fun h=> ?_⟩
   rw[Jr.2 h] at e;cases e
 have hn0:(n=0∧((n:Int) !=0)=false∧¬((n:Int)≠0))∨(((n:Int) !=0)=true∧(n:Int)≠0):=by
  by_cases h:n=0
  ·exact .inl ⟨h,by rw[h];rfl,by omega⟩
  ·exact .inr ⟨by rw[bne_iff_ne];omega,by omega⟩
 have hi0:(i=[]∧¬(i≠[]))∨(i≠[]∧decide ((i.length:Int)>0)=true∧Mr i=true):=by
  by_cases h:i=[]
  ·exact .inl ⟨h,fun a=>a h⟩
  ·exact .inr ⟨h,Sr h,by rw[M4 h];exact w3.resolve_left h⟩
 generalize Fl n=sl at hB hW1 hS hq
 generalize Ae 2 1 false sl=p1 at hW1 hS
 generalize nmC f r=nc at hN hS
 generalize Ae 2 0 true nc=p0 at hN hS
 generalize Ae 2 2 true (Bo i)=p2 at hW2 hS
 clear hq w4
 rcases hi0 with⟨rfl,i1⟩|⟨i1,gi,gw⟩
 all_goals rcases hk with⟨em,e0⟩|⟨em,e0⟩
 all_goals rcases hn0 with⟨rfl,gn,n0⟩|⟨gn,n0⟩
 all_goals
  rw[em] at hE
  first|rw[if_neg i1] at hS|(rw[if_pos i1] at hS;rw[gw] at hG;have hG:Ab Tryz.prog 61 [.d (Fs i)] (fun q=>q= .tup [B7 0 5 (Ae 0 16 true (Bo i)),iv 0]):=hG)
  first|rw[if_neg e0] at hS|(rw[if_pos e0] at hS;have hN:=hN e0 hf)
  first|rw[if_neg n0] at hS|rw[if_pos n0] at hS
  simp only[List.nil_append,List.cons_append,List.append_nil] at hS
  refine acQ 54 Tryz.func19 rfl rfl fun _ _ _=> ?_
  (repeat'((conv=>whnf);first|refine NBr.pos asQ ?_|refine NBr.neg asQ ?_|refine NBr.yes ?_|refine NBr.no ?_|refine NCall.eq hV De ?_|refine NCall.eq hE De ?_|refine NCall.eq hN De ?_|(refine NStep.inl 200 32 _ Be mixed rfl rfl rfl Tryz.func59 rfl (by kernel_rfl) rfl rfl rfl rfl (fun gh=> ?_))|(refine NStep.inl 300 25 _ Be mixed rfl rfl rfl Tryz.func57 rfl (by kernel_rfl) rfl rfl rfl rfl (fun gh=> ?_))|(refine NStep.inl 400 20 _ Be mixed rfl rfl rfl Tryz.func63 rfl (by kernel_rfl) rfl rfl rfl rfl (fun gh=> ?_))|refine NCall.eq hB rfl ?_|refine NCall.eq hW1 De ?_|refine NCall.eq hG De ?_|refine NCall.eq hJ De ?_|refine NCall.eq hW2 De ?_|refine NStep.go (Yh 0 rfl rfl rfl (ltN rfl) rfl rfl) ?_|refine NStep.go (Fm rfl rfl (ltN rfl) rfl) ?_|(refine NApp.at 1 _ ?_)|(refine NApp.at 2 _ ?_)|(refine NApp.at 3 _ ?_)|refine NCall.eq hS De ?_|refine NCall.le hS K5 ?_));(all_goals(conv=>whnf))
  all_goals exact NEnd.eq leQ
def BC (u c a:Bool):Bool:= !(u&&c)&&(!(u&&a)&& !(c&&a))
theorem zP (x:Iss):isW x=(plV x.f x.r x.s&&(BC x.u x.c x.a&&(!Ko x.f x.r||(x.u||(x.c||x.a))||x.n||(x.s !=0)))):=by
 obtain⟨f,r,u,c,n,a,s⟩:=x
 have e:=@Jr f r
 unfold isW plV R8 Tz BC
 simp only
 rw[Bool.eq_iff_iff]
 simp only[decide_eq_true_iff,Bool.and_eq_true,Bool.or_eq_true,Bool.not_eq_true',bne_iff_ne,e]
 cases u<;>cases c<;>cases a<;>simp[and_assoc,or_assoc]
theorem cZ {p:Prop} (h:p:=by first|rfl|(simp only[AV.gives,AV.ren,AV.give,D.un,D.uns,Ag,Ai,List.nil_append,List.append_nil,List.cons_append,AV.share,AV.shares,Al,A3,Bz,Bd,Aw,Bt,Cd,Ce,Bg,Dk,Bk];first|done|rfl)):p:=h
theorem T4 (x:Iss) (h:nmM x.f x.r) (hs:M3 x.s):Ab Tryz.prog 30 [diA x] (fun q=>q=bv (isW x)):=by
 have hV:=gC x.f x.r x.s h.f h.r hs
 have hE:=Pk x.f x.r h.f.n (by have:=h.r.l;omega)
 rw[zP]
 obtain⟨f,r,u,c,n,a,s⟩:=x
 simp only at hV hE⊢
 clear h hs
 generalize plV f r s=w at hV⊢
 generalize Ko f r=m at hE⊢
 cases w
 ·cases u<;>cases c<;>cases a
  all_goals
   refine acQ 50 Tryz.func30 rfl rfl fun _ _ _=> ?_
   (repeat'((conv=>whnf);first|refine NBr.yes ?_|refine NBr.no ?_|refine NCall.eq hV cZ ?_|(refine NStep.inlC 100 6 #[] Be mixed rfl rfl rfl rfl Tryz.func79 rfl (by kernel_rfl) rfl rfl rfl rfl (fun gh=> ?_))|(with_reducible refine NInt.i64 ?_)));(all_goals(conv=>whnf))
   all_goals exact NEnd.eq leQ
 ·cases u<;>cases c<;>cases a<;>cases m<;>cases n
  all_goals
   refine acQ 50 Tryz.func30 rfl rfl fun _ _ _=> ?_
   (repeat'((conv=>whnf);first|refine NBr.yes ?_|refine NBr.no ?_|refine NCall.eq hV cZ ?_|refine NCall.eq hE cZ ?_|(refine NStep.inlC 100 6 #[] Be mixed rfl rfl rfl rfl Tryz.func79 rfl (by kernel_rfl) rfl rfl rfl rfl (fun gh=> ?_))|(with_reducible refine NInt.i64 ?_)));(all_goals(conv=>whnf))
   all_goals exact NEnd.eq leQ
end Go.Proofs.YtgpaehhbdbgeaaaGreatDoor
