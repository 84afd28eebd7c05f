/- NB: the texts PtP PtQ PtR PtL Pla Plm Pli, one behind the other. No condition but what each lemma says. -/
import Derived.Test.YtaoahmplnckhpaaGreatDoorMW
import Derived.Test.YtaoahmplnckhpaaGreatDoorNA
namespace Go.Proofs.YtaoahmplnckhpaaGreatDoor
open Go.RowKit
set_option maxRecDepth 100000
inductive Vl where
 |nm (f:List Gn) (r:List Att)
 |rs (s:Nat)
 |is (i:List Gn)
 |fl
def En (r:List Att):List UInt8:=(r.map atE).flatten
def nmC (f:List Gn) (r:List Att):List UInt8:=if f=[] then Ah 2 1 true (En r) else Ah 2 0 true (B7 f)
def vlC:Vl→List UInt8
 | .nm f r=>nmC f r
 | .rs s=>C9 s
 | .is i=>B7 i
 | .fl=>[255]
def vlK:Vl→Bool
 | .nm _ _=>true
 | .rs _=>false
 | .is _=>true
 | .fl=>false
abbrev vlT (p:Nat×Vl):Tv:=⟨2,p.1,vlK p.2,vlC p.2⟩
def vlW (k:UInt8):Vl→Prop
 | .nm f r=>k=110∧((f≠[]∧r=[]∧f.all gnW=true)∨(f=[]∧Ed r=true))
 | .rs s=>k=114∧0<s∧s<512
 | .is i=>k=105∧i≠[]∧i.all gnW=true
 | .fl=>k=102
def Vl.mid:Vl→Prop
 | .nm f r=>gnsM f∧rdnZ r
 | .rs _=>True
 | .is i=>gnsM i
 | .fl=>True
def Ft (c:List UInt8):Option (List Gn):=(bL (Ah 0 16 true c)).1
def Hb (c:List UInt8):Option Vl:=match Bv c 0 with
 |some d=>(Ft d).map fun f=> .nm f []
 |none=>match Bv c 1 with
  |some d=>(I8 (Ah 0 17 true d)).1.map fun r=> .nm [] r
  |none=>none
def vlO (k:UInt8) (c:List UInt8):Option Vl:=if k=110 then Hb c else if k=114 then(S5 c).map .rs else if k=105 then(Ft c).map .is else if c=[255] then some .fl else none
def kOk (k:UInt8):Prop:=k=110∨k=114∨k=105∨k=102
theorem Wz {l:List Gn} (h0:l≠[]) (h:l.all gnW=true) (hs:gnsM l):Ft (B7 l)=some l:=by
 have:=FV h0 h hs
 show(bL (S4 l)).1=_
 rw[this]
theorem Pg {c:List UInt8} {l:List Gn} (h:Ft c=some l) (hl:c.length≤700000):l≠[]∧l.all gnW=true∧c=B7 l:=by
 unfold Ft at h
 have hel:=Ar 0 16 true c (by omega)
 rcases oP (Ah 0 16 true c) (by omega) with⟨v,v0,v1,v2,v3⟩|⟨a,o,-,-,c2⟩
 ·rw[v3] at h
  obtain rfl:=Option.some.inj h
  have hl2:(B7 v).length≤2147483647:=by
   have:=D8 0 16 true (B7 v)
   have e:Ah 0 16 true (B7 v)=S4 v:=rfl
   rw[e,←v2] at this;omega
  exact⟨v0,v1,gL (c:=0) (n:=16) (k:=true) (by omega) (by omega) (by omega) hl2 v2⟩
 ·rw[c2] at h;cases h
theorem W2 {b v:List UInt8} {n:Nat} (h:Bv b n=some v):v.length≤b.length:=by
 have:=D8 2 n true v
 rw[Hu h];omega
theorem lY {n m:Nat} {v:List UInt8} (hn:n≤30) (hv:v.length≤2147483600) (h:n≠m):Bv (Ah 2 n true v) m=none:=by
 have:=Pb (t:=⟨2,n,true,v⟩) ⟨by show(2:Nat)≤3;omega,hn,by show v.length≤_;omega⟩ m
 rw[if_neg (by simp;exact fun e=>h e)] at this
 exact this
theorem lZ {f:List Gn} {r:List Att} (h:(f≠[]∧r=[]∧f.all gnW=true)∨(f=[]∧Ed r=true)) (hs:gnsM f∧rdnZ r):Hb (nmC f r)=some (.nm f r):=by
 rcases h with⟨h0,rfl,h1⟩|⟨rfl,h1⟩
 ·have:=hs.1.e
  unfold Hb nmC
  rw[if_neg h0,I9 (by omega) (by show(B7 f).length≤_;unfold B7;omega)]
  show(Ft (B7 f)).map _=_
  rw[Wz h0 h1 hs.1];rfl
 ·have:=hs.2.e
  unfold Hb nmC
  rw[if_pos rfl,lY (by omega) (by unfold En;omega) (by omega),I9 (by omega) (by unfold En;omega)]
  show((I8 (Cv r)).1).map _=_
  rw[fW h1 hs.2];rfl
theorem mA {c:List UInt8} {v:Vl} (h:Hb c=some v) (hl:c.length≤700000):∃f r,v= .nm f r∧((f≠[]∧r=[]∧f.all gnW=true)∨(f=[]∧Ed r=true))∧c=nmC f r:=by
 unfold Hb at h
 cases h0:Bv c 0 with
 |some d=>
  rw[h0] at h
  have e:=Hu h0
  have hd:=W2 h0
  have h:(Ft d).map (fun f=>Vl.nm f [])=some v:=h
  cases hn:Ft d with
  |none=>rw[hn] at h;cases h
  |some f=>
   rw[hn] at h
   obtain rfl:=Option.some.inj h
   obtain⟨n0,n1,n2⟩:=Pg hn (by omega)
   refine⟨f,[],rfl,.inl ⟨n0,rfl,n1⟩,?_⟩
   unfold nmC
   rw[if_neg n0,←n2];exact e
 |none=>
  rw[h0] at h
  have h:(match Bv c 1 with|some d=>(I8 (Ah 0 17 true d)).1.map (fun r=>Vl.nm [] r)|none=>none)=some v:=h
  cases h1:Bv c 1 with
  |none=>rw[h1] at h;cases h
  |some d=>
   rw[h1] at h
   have e:=Hu h1
   have hd:=W2 h1
   have h:(I8 (Ah 0 17 true d)).1.map (fun r=>Vl.nm [] r)=some v:=h
   cases hn:(I8 (Ah 0 17 true d)).1 with
   |none=>rw[hn] at h;cases h
   |some r=>
    rw[hn] at h
    obtain rfl:=Option.some.inj h
    have hel:=Ar 0 17 true d (by omega)
    obtain⟨n1,n2⟩:=fX hn (by omega)
    refine⟨[],r,rfl,.inr ⟨rfl,n1⟩,?_⟩
    have hl2:(En r).length≤2147483647:=by
     have:=D8 0 17 true (En r)
     have e:Ah 0 17 true (En r)=Cv r:=rfl
     rw[e,←n2] at this;omega
    have:d=En r:=gL (c:=0) (n:=17) (k:=true) (by omega) (by omega) (by omega) hl2 n2
    unfold nmC
    rw[if_pos rfl,←this];exact e
theorem GH {k:UInt8} {v:Vl} (h:vlW k v) (hs:v.mid):vlO k (vlC v)=some v:=by
 cases v with
 |nm f r=>
  obtain⟨rfl,h⟩:=h
  show Hb (nmC f r)=_
  exact lZ h hs
 |rs s=>
  obtain⟨rfl,h0,h1⟩:=h
  show(S5 (C9 s)).map Vl.rs=_
  rw[AN h1 (by omega)];rfl
 |is i=>
  obtain⟨rfl,h0,h1⟩:=h
  show(Ft (B7 i)).map Vl.is=_
  rw[Wz h0 h1 hs];rfl
 |fl=>
  obtain rfl:k=102:=h
  rfl
theorem GI {k:UInt8} {c:List UInt8} {v:Vl} (hk:kOk k) (h:vlO k c=some v) (hl:c.length≤700000):vlW k v∧c=vlC v:=by
 rcases hk with rfl|rfl|rfl|rfl
 ·obtain⟨f,r,rfl,h1,h2⟩:=mA (show Hb c=some v from h) hl
  exact⟨⟨rfl,h1⟩,h2⟩
 ·have h:(S5 c).map Vl.rs=some v:=h
  cases hn:S5 c with
  |none=>rw[hn] at h;cases h
  |some s=>
   rw[hn] at h
   obtain rfl:=Option.some.inj h
   obtain⟨a1,a2,a3⟩:=AO hn
   exact⟨⟨rfl,a1,a2⟩,a3⟩
 ·have h:(Ft c).map Vl.is=some v:=h
  cases hn:Ft c with
  |none=>rw[hn] at h;cases h
  |some s=>
   rw[hn] at h
   obtain rfl:=Option.some.inj h
   obtain⟨a1,a2,a3⟩:=Pg hn hl
   exact⟨⟨rfl,a1,a2⟩,a3⟩
 ·have h:(if c=[255] then some Vl.fl else none)=some v:=h
  by_cases hc:c=[255]
  ·rw[if_pos hc] at h
   obtain rfl:=Option.some.inj h
   exact⟨rfl,hc⟩
  ·rw[if_neg hc] at h;cases h
def GJ (k:UInt8):Bool:=k==110||k==105
theorem oZ {k:UInt8} {v:Vl} (h:vlW k v):vlK v=GJ k:=by
 cases v with
 |nm f r=>obtain⟨rfl,-⟩:=h;rfl
 |rs s=>obtain⟨rfl,-⟩:=h;rfl
 |is i=>obtain⟨rfl,-⟩:=h;rfl
 |fl=>obtain rfl:k=102:=h;rfl
structure Dr where
 f:List Gn
 r:List Att
 s:Nat
 i:List Gn
 fl:Nat→Bool
def dr0:Dr:=⟨[],[],0,[],fun _=>false⟩
def Dr.set (d:Dr) (n:Nat):Vl→Dr
 | .nm f r=>if f=[] then{d with r:=r} else{d with f:=f}
 | .rs s=>{d with s:=s}
 | .is i=>{d with i:=i}
 | .fl=>{d with fl:=fun m=>m==n||d.fl m}
def drF (b k:List UInt8):List El→Int→Dr→Option Dr×Nat×Nat
 |[],_,d=>(some d,0,0)
 |x::l,last,d=>if x.c≠2∨k.length≤x.n∨(x.n:Int)≤last then(none,3,x.at') else if x.k≠GJ (k.getD x.n 0) then(none,3,x.at') else match vlO (k.getD x.n 0) (bod b x) with
  |none=>(none,6,x.body)
  |some v=>drF b k l x.n (d.set x.n v)
def rdD (b k:List UInt8):Option Dr×Nat×Nat:=if(Bc b 0 16).code≠0 then(none,(Bc b 0 16).code,(Bc b 0 16).off) else drF b k (Bc b 0 16).l (-1) dr0
def asc (m:Nat):Int→List (Nat×Vl)→Prop
 |_,[]=>True
 |last,p::r=>last<p.1∧p.1<m∧asc m p.1 r
def N3 (d:Dr) (vs:List (Nat×Vl)):Dr:=vs.foldl (fun d p=>d.set p.1 p.2) d
def vsW (k:List UInt8) (vs:List (Nat×Vl)):Prop:=∀p∈vs,vlW (k.getD p.1 0) p.2
theorem pA {b k:List UInt8} (hb:b.length≤700000) (hk:∀x∈k,kOk x):∀(ts:List Tv) (a:Nat) (last:Int) (d:Dr),(els a ts).map (elO b)=ts.map Tv.enc→(∀x∈els a ts,x.stop≤b.length)→pT b.length (fun d'=>∃vs,asc k.length last vs∧vsW k vs∧ts=vs.map vlT∧d'=N3 d vs) (drF b k (els a ts) last d)
 |[],a,last,d,_,_=> .inl ⟨d,⟨[],trivial,(fun _ h=>by cases h),rfl,rfl⟩,rfl⟩
 |t::ts,a,last,d,h,hin=>by
  obtain⟨e1,e2,e3,e4,e5,e6⟩:=oQ h hin
  have e3':a+t.hd≤(t.el a).stop:=e3
  rw[e1,drF]
  by_cases h1:(t.el a).c≠2∨k.length≤(t.el a).n∨((t.el a).n:Int)≤last
  ·rw[if_pos h1]
   exact .inr ⟨3,a,by omega,by omega,rfl⟩
  rw[if_neg h1]
  by_cases h2:(t.el a).k≠GJ (k.getD (t.el a).n 0)
  ·rw[if_pos h2]
   exact .inr ⟨3,a,by omega,by omega,rfl⟩
  rw[if_neg h2]
  have hn:t.n<k.length:=by
   have:(t.el a).n=t.n:=rfl
   omega
  have hko:kOk (k.getD (t.el a).n 0):=by
   show kOk (k.getD t.n 0)
   rw[List.getD_eq_getElem?_getD,An hn,Option.getD_some]
   exact hk _ (List.getElem_mem hn)
  rw[e2]
  have hvl:t.v.length≤700000:=by
   rw[←e2];unfold bod;rw[Ao,Ax];omega
  cases hv:vlO (k.getD (t.el a).n 0) t.v with
  |none=>exact .inr ⟨6,_,by omega,Nat.le_trans e3 e4,rfl⟩
  |some v=>
   obtain⟨v1,v2⟩:=GI hko hv hvl
   have hc:t.c=2:=by
    have:(t.el a).c=t.c:=rfl
    omega
   have hkk:t.k=vlK v:=by
    rw[oZ v1]
    exact Decidable.not_not.1 h2
   have ht:t=vlT (t.n,v):=by
    obtain⟨c,n,kk,w⟩:=t
    simp only at hc hkk v2
    subst hc hkk v2
    rfl
   rcases pA hb hk ts _ (t.el a).n (d.set (t.el a).n v) e5 e6 with⟨d',⟨vs,w1,w2,w3,w4⟩,w5⟩|hbad
   ·refine .inl ⟨d',⟨(t.n,v)::vs,⟨by show last<(t.n:Int);have:(t.el a).n=t.n:=rfl;omega,hn,w1⟩,?_,?_,w4⟩,w5⟩
    ·intro p hp
     rcases List.mem_cons.1 hp with rfl|hp
     ·exact v1
     ·exact w2 p hp
    ·rw[List.map_cons,←ht,←w3]
   ·exact .inr hbad
theorem pB {b k:List UInt8}:∀(vs:List (Nat×Vl)) (a:Nat) (last:Int) (d:Dr),(els a (vs.map vlT)).map (elO b)=(vs.map vlT).map Tv.enc→(∀x∈els a (vs.map vlT),x.stop≤b.length)→asc k.length last vs→vsW k vs→(∀p∈vs,p.2.mid)→drF b k (els a (vs.map vlT)) last d=(some (N3 d vs),0,0)
 |[],_,_,_,_,_,_,_,_=>rfl
 |p::vs,a,last,d,h,hin,ha,hw,hm=>by
  rw[List.map_cons] at h hin⊢
  obtain⟨e1,e2,e3,e4,e5,e6⟩:=oQ h hin
  obtain⟨a1,a2,a3⟩:=ha
  have hw0:=hw p (by simp)
  rw[e1,drF]
  have c1:((vlT p).el a).c=2:=rfl
  have c2:((vlT p).el a).n=p.1:=rfl
  have c3:((vlT p).el a).k=vlK p.2:=rfl
  rw[if_neg (by rw[c1,c2];simp only[ne_eq,not_true_eq_false,false_or,not_or];omega),if_neg (by rw[c3,c2,oZ hw0];simp),e2,c2]
  show(match vlO (k.getD p.1 0) (vlC p.2) with|none=>(none,6,((vlT p).el a).body)|some v=>drF b k (els (a+(vlT p).enc.length) (vs.map vlT)) p.1 (d.set p.1 v))=_
  rw[GH hw0 (hm p (by simp))]
  exact pB vs _ p.1 (d.set p.1 p.2) e5 e6 a3 (fun q hq=>hw q (by simp[hq])) fun q hq=>hm q (by simp[hq])
def vsB (vs:List (Nat×Vl)):List (List UInt8):=vs.map fun p=>(vlT p).enc
def vsE (vs:List (Nat×Vl)):List UInt8:=Ah 0 16 true (vsB vs).flatten
theorem mB (vs:List (Nat×Vl)):(vsB vs).flatten=Di (vs.map vlT):=by
 rw[Fq,List.map_map];rfl
theorem T0 {b k:List UInt8} (hb:b.length≤700000) (hk:∀x∈k,kOk x):pT b.length (fun d'=>∃vs,asc k.length (-1) vs∧vsW k vs∧b=vsE vs∧d'=N3 dr0 vs) (rdD b k):=by
 unfold rdD
 by_cases h1:(Bc b 0 16).code≠0
 ·rw[if_pos h1]
  exact .inr ⟨_,_,h1,I7 b 0 16,rfl⟩
 rw[if_neg h1]
 obtain⟨ts,t1,t2,-,-,hl⟩:=Ky (Decidable.not_not.1 h1)
 obtain⟨q,p1,p2,-,-⟩:=Wt (c:=0) (n:=16) ts (by omega) (by omega) t1 hl
 rw[←t2] at p1 p2
 have hin:∀x∈els q ts,x.stop≤b.length:=fun x hx=>by
  have:=Ey (b:=b) (c:=0) (n:=16) (x:=x) (by rw[p1];exact hx)
  omega
 rw[p1]
 rcases pA hb hk ts q (-1) dr0 p2 hin with⟨d',⟨vs,w1,w2,w3,w4⟩,w5⟩|hbad
 ·refine .inl ⟨d',⟨vs,w1,w2,?_,w4⟩,w5⟩
  unfold vsE
  rw[mB,←w3];exact t2
 ·exact .inr hbad
theorem pC {k:List UInt8} {vs:List (Nat×Vl)} (ha:asc k.length (-1) vs) (hw:vsW k vs) (hm:∀p∈vs,p.2.mid) (hn:k.length≤30) (hc:∀p∈vs,(vlC p.2).length≤900000000) (hl:(vsB vs).flatten.length≤2147483647):rdD (vsE vs) k=(some (N3 dr0 vs),0,0):=by
 have hlt:∀(vs:List (Nat×Vl)) (last:Int),asc k.length last vs→∀p∈vs,p.1<k.length:=by
  intro vs
  induction vs with
  |nil=>intro _ _ p hp;cases hp
  |cons q r ih=>
   intro last h p hp
   rcases List.mem_cons.1 hp with rfl|hp
   ·exact h.2.1
   ·exact ih _ h.2.2 p hp
 have tok:∀t∈vs.map vlT,t.ok:=fun t ht=>by
  obtain⟨p,hp,rfl⟩:=List.mem_map.1 ht
  have:=hc p hp
  have:=hlt vs _ ha p hp
  exact⟨by show(2:Nat)≤3;omega,by show p.1≤30;omega,by show(vlC p.2).length≤_;omega⟩
 rw[mB] at hl
 obtain⟨q,p1,p2,-,-⟩:=Wt (c:=0) (n:=16) (vs.map vlT) (by omega) (by omega) tok hl
 have hb:vsE vs=Ah 0 16 true (Di (vs.map vlT)):=by unfold vsE;rw[mB]
 rw[hb]
 generalize Ah 0 16 true (Di (vs.map vlT))=b at p1 p2
 have hin:∀x∈els q (vs.map vlT),x.stop≤b.length:=fun x hx=>by
  have:=Ey (b:=b) (c:=0) (n:=16) (x:=x) (by rw[p1];exact hx)
  omega
 unfold rdD
 rw[p1,if_neg (by simp)]
 exact pB vs q (-1) dr0 p2 hin ha hw hm
structure Pt where
 f:List Gn
 r:List Att
 s:Int
 i:List Gn
 deriving DecidableEq
structure Iss where
 f:List Gn
 r:List Att
 u:Bool
 c:Bool
 n:Bool
 a:Bool
 s:Int
 deriving DecidableEq
def opt (n:Nat) (c:Prop) [Decidable c] (v:Vl):List (Nat×Vl):=if c then [(n,v)] else []
def nmW (f:List Gn) (r:List Att):Prop:=(f=[]∨r=[]∧f.all gnW=true)∧(r=[]∨Ed r=true)
instance (f:List Gn) (r:List Att):Decidable (nmW f r):=by unfold nmW;infer_instance
def rsW (s:Int):Prop:=0≤s∧s<512
instance (s:Int):Decidable (rsW s):=by unfold rsW;infer_instance
def Jh (p:Pt):List (Nat×Vl):=opt 0 (p.f≠[]∨p.r≠[]) (.nm p.f p.r)++(opt 1 (p.s≠0) (.rs p.s.toNat)++opt 2 (p.i≠[]) (.is p.i))
def Ji (x:Iss):List (Nat×Vl):=opt 0 (x.f≠[]∨x.r≠[]) (.nm x.f x.r)++(opt 1 (x.u=true) .fl++(opt 2 (x.c=true) .fl++(opt 3 (x.s≠0) (.rs x.s.toNat)++(opt 4 (x.n=true) .fl++opt 5 (x.a=true) .fl))))
def ptE (p:Pt):List UInt8:=vsE (Jh p)
def isE (x:Iss):List UInt8:=vsE (Ji x)
def ptW (p:Pt):Bool:=decide (nmW p.f p.r∧rsW p.s∧(p.i=[]∨p.i.all gnW=true)∧(p.f≠[]∨p.r≠[]∨p.i≠[]))
def Qx (x:Iss):Prop:=¬(x.u=true∧x.c=true)∧¬(x.u=true∧x.a=true)∧¬(x.c=true∧x.a=true)
def Sy (x:Iss):Prop:=x.f≠[]∨x.r≠[]∨x.u=true∨x.c=true∨x.n=true∨x.a=true∨x.s≠0
instance (x:Iss):Decidable (Qx x):=by unfold Qx;infer_instance
instance (x:Iss):Decidable (Sy x):=by unfold Sy;infer_instance
def isW (x:Iss):Bool:=decide (nmW x.f x.r∧rsW x.s∧Qx x∧Sy x)
abbrev k3:List UInt8:=[110,114,105]
abbrev k6:List UInt8:=[110,102,102,114,102,102]
theorem IE:∀x∈k3,kOk x:=by simp[kOk]
theorem IF:∀x∈k6,kOk x:=by simp[kOk]
theorem Fy {m n:Nat} {last:Int} {vs:List (Nat×Vl)} (hl:last=(n:Int)-1) (h:asc m last vs):∃o:Option Vl,∃vs',vs=(o.map fun v=>(n,v)).toList++vs'∧asc m n vs':=by
 cases vs with
 |nil=>exact⟨none,[],rfl,trivial⟩
 |cons p r=>
  obtain⟨h1,h2,h3⟩:=h
  by_cases hp:p.1=n
  ·refine⟨some p.2,r,?_,by rw[hp] at h3;exact h3⟩
   show p::r=(n,p.2)::r
   rw[←hp]
  ·exact⟨none,p::r,rfl,by omega,h2,h3⟩
theorem pD {m n:Nat} {vs:List (Nat×Vl)} (h:asc m n vs) (hn:m≤n+1):vs=[]:=by
 cases vs with
 |nil=>rfl
 |cons p r=>obtain⟨h1,h2,-⟩:=h;omega
theorem Ij {k:List UInt8} {a b:List (Nat×Vl)} (h:vsW k (a++b)):vsW k a∧vsW k b:=⟨fun p hp=>h p (by simp[hp]),fun p hp=>h p (by simp[hp])⟩
theorem NY {k:List UInt8} {n:Nat} {o:Option Vl} (hk:k.getD n 0=110) (h:vsW k (o.map fun v=>(n,v)).toList):∃f r,(o.map fun v=>(n,v)).toList=opt n (f≠[]∨r≠[]) (.nm f r)∧nmW f r:=by
 cases o with
 |none=>exact⟨[],[],rfl,.inl rfl,.inl rfl⟩
 |some v=>
  have hv:vlW (k.getD n 0) v:=h (n,v) (by simp)
  rw[hk] at hv
  cases v with
  |nm f r=>
   obtain⟨-,h|h⟩:=hv
   ·obtain⟨h0,rfl,h1⟩:=h
    exact⟨f,[],by unfold opt;rw[if_pos (.inl h0)];rfl,.inr ⟨rfl,h1⟩,.inl rfl⟩
   ·obtain⟨rfl,h1⟩:=h
    exact⟨[],r,by unfold opt;rw[if_pos (.inr (Nq h1).1)];rfl,.inl rfl,.inr h1⟩
  |rs s=>exact absurd hv.1 (by decide)
  |is i=>exact absurd hv.1 (by decide)
  |fl=>exact absurd (show(110:UInt8)=102 from hv) (by decide)
theorem NZ {k:List UInt8} {n:Nat} {o:Option Vl} (hk:k.getD n 0=114) (h:vsW k (o.map fun v=>(n,v)).toList):∃s:Int,(o.map fun v=>(n,v)).toList=opt n (s≠0) (.rs s.toNat)∧rsW s:=by
 cases o with
 |none=>exact⟨0,rfl,by unfold rsW;omega⟩
 |some v=>
  have hv:vlW (k.getD n 0) v:=h (n,v) (by simp)
  rw[hk] at hv
  cases v with
  |nm f r=>exact absurd hv.1 (by decide)
  |rs s=>
   obtain⟨-,h0,h1⟩:=hv
   exact⟨s,by unfold opt;rw[if_pos (by omega)];rfl,by unfold rsW;omega⟩
  |is i=>exact absurd hv.1 (by decide)
  |fl=>exact absurd (show(114:UInt8)=102 from hv) (by decide)
theorem OX {k:List UInt8} {n:Nat} {o:Option Vl} (hk:k.getD n 0=105) (h:vsW k (o.map fun v=>(n,v)).toList):∃i:List Gn,(o.map fun v=>(n,v)).toList=opt n (i≠[]) (.is i)∧(i=[]∨i.all gnW=true):=by
 cases o with
 |none=>exact⟨[],rfl,.inl rfl⟩
 |some v=>
  have hv:vlW (k.getD n 0) v:=h (n,v) (by simp)
  rw[hk] at hv
  cases v with
  |nm f r=>exact absurd hv.1 (by decide)
  |rs s=>exact absurd hv.1 (by decide)
  |is i=>
   obtain⟨-,h0,h1⟩:=hv
   exact⟨i,by unfold opt;rw[if_pos h0];rfl,.inr h1⟩
  |fl=>exact absurd (show(105:UInt8)=102 from hv) (by decide)
theorem GK {k:List UInt8} {n:Nat} {o:Option Vl} (hk:k.getD n 0=102) (h:vsW k (o.map fun v=>(n,v)).toList):∃b:Bool,(o.map fun v=>(n,v)).toList=opt n (b=true) .fl:=by
 cases o with
 |none=>exact⟨false,rfl⟩
 |some v=>
  have hv:vlW (k.getD n 0) v:=h (n,v) (by simp)
  rw[hk] at hv
  cases v with
  |nm f r=>exact absurd hv.1 (by decide)
  |rs s=>exact absurd hv.1 (by decide)
  |is i=>exact absurd hv.1 (by decide)
  |fl=>exact⟨true,rfl⟩
theorem IG {vs:List (Nat×Vl)} (h:asc 3 (-1) vs) (hw:vsW k3 vs):∃p:Pt,vs=Jh p∧nmW p.f p.r∧rsW p.s∧(p.i=[]∨p.i.all gnW=true):=by
 obtain⟨o0,v1,rfl,h1⟩:=Fy (n:=0) (by omega) h
 obtain⟨o1,v2,rfl,h2⟩:=Fy (n:=1) (by omega) h1
 obtain⟨o2,v3,rfl,h3⟩:=Fy (n:=2) (by omega) h2
 obtain rfl:=pD h3 (by omega)
 obtain⟨w0,hw⟩:=Ij hw
 obtain⟨w1,hw⟩:=Ij hw
 obtain⟨w2,-⟩:=Ij hw
 obtain⟨f,r,e0,q0⟩:=NY rfl w0
 obtain⟨s,e1,q1⟩:=NZ rfl w1
 obtain⟨i,e2,q2⟩:=OX rfl w2
 exact⟨⟨f,r,s,i⟩,by rw[e0,e1,e2,List.append_nil];rfl,q0,q1,q2⟩
theorem IH {vs:List (Nat×Vl)} (h:asc 6 (-1) vs) (hw:vsW k6 vs):∃x:Iss,vs=Ji x∧nmW x.f x.r∧rsW x.s:=by
 obtain⟨o0,v1,rfl,h1⟩:=Fy (n:=0) (by omega) h
 obtain⟨o1,v2,rfl,h2⟩:=Fy (n:=1) (by omega) h1
 obtain⟨o2,v3,rfl,h3⟩:=Fy (n:=2) (by omega) h2
 obtain⟨o3,v4,rfl,h4⟩:=Fy (n:=3) (by omega) h3
 obtain⟨o4,v5,rfl,h5⟩:=Fy (n:=4) (by omega) h4
 obtain⟨o5,v6,rfl,h6⟩:=Fy (n:=5) (by omega) h5
 obtain rfl:=pD h6 (by omega)
 obtain⟨w0,hw⟩:=Ij hw
 obtain⟨w1,hw⟩:=Ij hw
 obtain⟨w2,hw⟩:=Ij hw
 obtain⟨w3,hw⟩:=Ij hw
 obtain⟨w4,hw⟩:=Ij hw
 obtain⟨w5,-⟩:=Ij hw
 obtain⟨f,r,e0,q0⟩:=NY rfl w0
 obtain⟨u,e1⟩:=GK rfl w1
 obtain⟨c,e2⟩:=GK rfl w2
 obtain⟨s,e3,q3⟩:=NZ rfl w3
 obtain⟨n,e4⟩:=GK rfl w4
 obtain⟨a,e5⟩:=GK rfl w5
 exact⟨⟨f,r,u,c,n,a,s⟩,by rw[e0,e1,e2,e3,e4,e5,List.append_nil];rfl,q0,q3⟩
theorem Jc (d:Dr) (a b:List (Nat×Vl)):N3 d (a++b)=N3 (N3 d a) b:=List.foldl_append
theorem Qy (d:Dr) (n:Nat) (c:Prop) [Decidable c] (v:Vl):N3 d (opt n c v)=if c then d.set n v else d:=by
 unfold opt
 split<;>rfl
theorem pE {f:List Gn} {r:List Att} (h:nmW f r):N3 dr0 (opt 0 (f≠[]∨r≠[]) (.nm f r))=⟨f,r,0,[],fun _=>false⟩:=by
 rw[Qy]
 by_cases h0:f=[]
 ·subst h0
  by_cases h1:r=[]
  ·subst h1;rfl
  ·rw[if_pos (.inr h1)];rfl
 ·obtain⟨h|⟨rfl,-⟩,-⟩:=h
  ·exact absurd h h0
  ·rw[if_pos (.inl h0)]
   show(if f=[] then _ else _)=_
   rw[if_neg h0];rfl
theorem pF (d:Dr) (n:Nat) {s:Int} (h:rsW s) (h0:d.s=0):N3 d (opt n (s≠0) (.rs s.toNat))={d with s:=s.toNat}:=by
 rw[Qy]
 by_cases hs:s=0
 ·subst hs
  rw[if_neg (by simp)]
  obtain⟨f,r,s,i,fl⟩:=d
  simp only at h0
  subst h0;rfl
 ·rw[if_pos hs];rfl
theorem GL (d:Dr) (n:Nat) {i:List Gn} (h0:d.i=[]):N3 d (opt n (i≠[]) (.is i))={d with i:=i}:=by
 rw[Qy]
 by_cases hs:i=[]
 ·subst hs
  rw[if_neg (by simp)]
  obtain⟨f,r,s,i,fl⟩:=d
  simp only at h0
  subst h0;rfl
 ·rw[if_pos hs];rfl
theorem T1 (d:Dr) (n:Nat) (b:Bool):N3 d (opt n (b=true) .fl)={d with fl:=fun m=>(b&&m==n)||d.fl m}:=by
 rw[Qy]
 cases b
 ·rw[if_neg (by simp)]
  obtain⟨f,r,s,i,fl⟩:=d
  simp only[Bool.false_and,Bool.false_or]
 ·rw[if_pos rfl]
  show({d with fl:=fun m=>m==n||d.fl m}:Dr)=_
  simp only[Bool.true_and]
def gO (d:Dr):Pt:=⟨d.f,d.r,d.s,d.i⟩
def gP (d:Dr):Iss:=⟨d.f,d.r,d.fl 1,d.fl 2,d.fl 4,d.fl 5,d.s⟩
theorem bO {p:Pt} (h:nmW p.f p.r) (hs:rsW p.s):gO (N3 dr0 (Jh p))=p:=by
 obtain⟨f,r,s,i⟩:=p
 unfold Jh
 simp only at h hs⊢
 rw[Jc,pE h,Jc,pF _ 1 hs rfl,GL _ 2 rfl]
 obtain⟨h0,-⟩:=hs
 show Pt.mk f r (s.toNat:Int) i=_
 rw[Int.toNat_of_nonneg h0]
theorem bP {x:Iss} (h:nmW x.f x.r) (hs:rsW x.s):gP (N3 dr0 (Ji x))=x:=by
 obtain⟨f,r,u,c,n,a,s⟩:=x
 unfold Ji
 simp only at h hs⊢
 rw[Jc,pE h,Jc,T1,Jc,T1,Jc,pF _ 3 hs rfl,Jc,T1,T1]
 obtain⟨h0,-⟩:=hs
 show Iss.mk f r _ _ _ _ (s.toNat:Int)=_
 rw[Int.toNat_of_nonneg h0]
 cases u<;>cases c<;>cases n<;>cases a<;>rfl
def ptP (b:List UInt8):Option Pt×Nat×Nat:=match rdD b k3 with
 |(none,c,o)=>(none,c,o)
 |(some d,_)=>if ptW (gO d)=true then(some (gO d),0,0) else(none,6,0)
def isP (b:List UInt8):Option Iss×Nat×Nat:=match rdD b k6 with
 |(none,c,o)=>(none,c,o)
 |(some d,_)=>if isW (gP d)=true then(some (gP d),0,0) else(none,6,0)
theorem MC (b:List UInt8) (hb:b.length≤700000):pT b.length (fun p=>ptW p=true∧b=ptE p) (ptP b):=by
 unfold ptP
 rcases T0 (k:=k3) hb IE with⟨d,⟨vs,w1,w2,w3,w4⟩,w5⟩|⟨c,o,h1,h2,h3⟩
 ·rw[w5]
  obtain⟨p,rfl,q1,q2,q3⟩:=IG w1 w2
  have hd:gO d=p:=by rw[w4];exact bO q1 q2
  simp only
  rw[hd]
  by_cases hw:ptW p=true
  ·rw[if_pos hw];exact .inl ⟨p,⟨hw,w3⟩,rfl⟩
  ·rw[if_neg hw];exact .inr ⟨6,0,by omega,Nat.zero_le _,rfl⟩
 ·rw[h3];exact .inr ⟨c,o,h1,h2,rfl⟩
theorem MD (b:List UInt8) (hb:b.length≤700000):pT b.length (fun p=>isW p=true∧b=isE p) (isP b):=by
 unfold isP
 rcases T0 (k:=k6) hb IF with⟨d,⟨vs,w1,w2,w3,w4⟩,w5⟩|⟨c,o,h1,h2,h3⟩
 ·rw[w5]
  obtain⟨p,rfl,q1,q2⟩:=IH w1 w2
  have hd:gP d=p:=by rw[w4];exact bP q1 q2
  simp only
  rw[hd]
  by_cases hw:isW p=true
  ·rw[if_pos hw];exact .inl ⟨p,⟨hw,w3⟩,rfl⟩
  ·rw[if_neg hw];exact .inr ⟨6,0,by omega,Nat.zero_le _,rfl⟩
 ·rw[h3];exact .inr ⟨c,o,h1,h2,rfl⟩
structure nmM (f:List Gn) (r:List Att):Prop where
 f:gnsM f
 r:rdnZ r
structure Pt.mid (p:Pt):Prop where
 m:nmM p.f p.r
 i:gnsM p.i
theorem Cl {n:Nat} {c:Prop} [Decidable c] {v:Vl} {p:Nat×Vl} (h:p∈opt n c v):c∧p=(n,v):=by
 unfold opt at h
 by_cases hc:c
 ·rw[if_pos hc,List.mem_singleton] at h;exact⟨hc,h⟩
 ·rw[if_neg hc] at h;cases h
theorem Lq {m n:Nat} {last:Int} {c:Prop} [Decidable c] {v:Vl} {vs:List (Nat×Vl)} (h1:last<n) (h2:n<m) (h:∀l:Int,l≤n→asc m l vs):asc m last (opt n c v++vs):=by
 unfold opt
 split
 ·exact⟨h1,h2,h n (Int.le_refl _)⟩
 ·exact h last (by omega)
theorem gQ {m n:Nat} {c:Prop} [Decidable c] {v:Vl} (h2:n<m):∀l:Int,l<n→asc m l (opt n c v):=fun l hl=>by
 unfold opt
 split
 ·exact⟨hl,h2,trivial⟩
 ·trivial
theorem ME (p:Pt):asc 3 (-1) (Jh p):=by
 unfold Jh
 exact Lq (by omega) (by omega) fun l hl=>Lq (by omega) (by omega) fun l hl=>gQ (by omega) l (by omega)
theorem MF (x:Iss):asc 6 (-1) (Ji x):=by
 unfold Ji
 exact Lq (by omega) (by omega) fun l hl=>Lq (by omega) (by omega) fun l hl=>Lq (by omega) (by omega) fun l hl=>Lq (by omega) (by omega) fun l hl=>Lq (by omega) (by omega) fun l hl=>gQ (by omega) l (by omega)
theorem bQ {f:List Gn} {r:List Att} (h:nmW f r) (h0:f≠[]∨r≠[]):vlW 110 (.nm f r):=by
 refine⟨rfl,?_⟩
 obtain⟨h1,h2⟩:=h
 by_cases hf:f=[]
 ·exact .inr ⟨hf,h2.resolve_left (h0.resolve_left fun h=>h hf)⟩
 ·obtain⟨a,b⟩:=h1.resolve_left hf
  exact .inl ⟨hf,a,b⟩
theorem bR {s:Int} (h:rsW s) (h0:s≠0):vlW 114 (.rs s.toNat):=⟨rfl,by unfold rsW at h;omega,by unfold rsW at h;omega⟩
theorem BA {p:Pt} (h:nmW p.f p.r) (hs:rsW p.s) (hi:p.i=[]∨p.i.all gnW=true):vsW k3 (Jh p):=by
 intro q hq
 unfold Jh at hq
 simp only[List.mem_append] at hq
 rcases hq with hq|hq|hq
 ·obtain⟨h0,rfl⟩:=Cl hq
  exact bQ h h0
 ·obtain⟨h0,rfl⟩:=Cl hq
  exact bR hs h0
 ·obtain⟨h0,rfl⟩:=Cl hq
  exact⟨rfl,h0,hi.resolve_left h0⟩
theorem BB {x:Iss} (h:nmW x.f x.r) (hs:rsW x.s):vsW k6 (Ji x):=by
 intro q hq
 unfold Ji at hq
 simp only[List.mem_append] at hq
 rcases hq with hq|hq|hq|hq|hq|hq
 ·obtain⟨h0,rfl⟩:=Cl hq
  exact bQ h h0
 ·obtain⟨h0,rfl⟩:=Cl hq
  rfl
 ·obtain⟨h0,rfl⟩:=Cl hq
  rfl
 ·obtain⟨h0,rfl⟩:=Cl hq
  exact bR hs h0
 ·obtain⟨h0,rfl⟩:=Cl hq
  rfl
 ·obtain⟨h0,rfl⟩:=Cl hq
  rfl
def Vl.sz (v:Vl):Prop:=v.mid∧(vlC v).length≤850000000
theorem Ez (s:Nat):(C9 s).length≤3:=by
 unfold C9
 split
 ·simp
 ·split<;>simp
theorem Lr {f:List Gn} {r:List Att} (h:nmM f r):(nmC f r).length≤(B7 f).length+(En r).length+6:=by
 have a:=h.f.e
 have b:=h.r.e
 have e1:=Ar 2 1 true (En r) (by unfold En;omega)
 have e2:=Ar 2 0 true (B7 f) (by unfold B7;omega)
 unfold nmC
 split<;>omega
theorem Ls {n:Nat} {c:Prop} [Decidable c] {v:Vl} (h:(vlC v).length≤900000000):(vsB (opt n c v)).flatten.length≤(vlC v).length+6:=by
 unfold opt vsB
 split
 ·have:=Ar 2 n (vlK v) (vlC v) (by omega)
  have e:(vlT (n,v)).enc=Ah 2 n (vlK v) (vlC v):=rfl
  simp only[List.map_cons,List.map_nil,List.flatten_cons,List.flatten_nil,List.append_nil]
  rw[e];omega
 ·simp
theorem D9 (a b:List (Nat×Vl)):vsB (a++b)=vsB a++vsB b:=List.map_append
theorem mC {p:Pt} (h:p.mid) (hf:(B7 p.f).length≤400000000) (hi:(B7 p.i).length≤400000000):(vsB (Jh p)).flatten.length≤(B7 p.f).length+(En p.r).length+(B7 p.i).length+40:=by
 have hc:=Lr h.m
 have hr:(En p.r).length≤90000000:=h.m.r.e
 have hs:=Ez p.s.toNat
 have a:=Ls (n:=0) (c:=p.f≠[]∨p.r≠[]) (v:= .nm p.f p.r) (by show(nmC p.f p.r).length≤_;omega)
 have b:=Ls (n:=1) (c:=p.s≠0) (v:= .rs p.s.toNat) (by show(C9 p.s.toNat).length≤_;omega)
 have c:=Ls (n:=2) (c:=p.i≠[]) (v:= .is p.i) (by show(B7 p.i).length≤_;omega)
 have a':(vlC (.nm p.f p.r)).length=(nmC p.f p.r).length:=rfl
 have b':(vlC (.rs p.s.toNat)).length=(C9 p.s.toNat).length:=rfl
 have c':(vlC (.is p.i)).length=(B7 p.i).length:=rfl
 unfold Jh
 rw[D9,D9,List.flatten_append,List.flatten_append,Ak,Ak]
 omega
theorem mD {x:Iss} (h:nmM x.f x.r) (hf:(B7 x.f).length≤400000000):(vsB (Ji x)).flatten.length≤(B7 x.f).length+(En x.r).length+70:=by
 have hc:=Lr h
 have hr:(En x.r).length≤90000000:=h.r.e
 have hs:=Ez x.s.toNat
 have a:=Ls (n:=0) (c:=x.f≠[]∨x.r≠[]) (v:= .nm x.f x.r) (by show(nmC x.f x.r).length≤_;omega)
 have b:=Ls (n:=3) (c:=x.s≠0) (v:= .rs x.s.toNat) (by show(C9 x.s.toNat).length≤_;omega)
 have hl:(vlC .fl).length=1:=rfl
 have c1:=Ls (n:=1) (c:=x.u=true) (v:= .fl) (by omega)
 have c2:=Ls (n:=2) (c:=x.c=true) (v:= .fl) (by omega)
 have c3:=Ls (n:=4) (c:=x.n=true) (v:= .fl) (by omega)
 have c4:=Ls (n:=5) (c:=x.a=true) (v:= .fl) (by omega)
 have a':(vlC (.nm x.f x.r)).length=(nmC x.f x.r).length:=rfl
 have b':(vlC (.rs x.s.toNat)).length=(C9 x.s.toNat).length:=rfl
 unfold Ji
 rw[D9,D9,D9,D9,D9]
 simp only[List.flatten_append,Ak]
 omega
theorem Ju {p:Pt}:ptW p=true↔nmW p.f p.r∧rsW p.s∧(p.i=[]∨p.i.all gnW=true)∧(p.f≠[]∨p.r≠[]∨p.i≠[]):=by
 unfold ptW;exact decide_eq_true_iff
theorem Lt {x:Iss}:isW x=true↔nmW x.f x.r∧rsW x.s∧Qx x∧Sy x:=by
 unfold isW;exact decide_eq_true_iff
theorem MG {p:Pt} (h:ptW p=true) (hs:p.mid) (hf:(B7 p.f).length≤400000000) (hi:(B7 p.i).length≤400000000):ptP (ptE p)=(some p,0,0):=by
 obtain⟨h1,h2,h3,-⟩:=Ju.1 h
 have hl:=mC hs hf hi
 have hr:(En p.r).length≤90000000:=hs.m.r.e
 have hc:=Lr hs.m
 have hq:=Ez p.s.toNat
 have hmem:∀q∈Jh p,q.2.mid∧(vlC q.2).length≤900000000:=fun q hq'=>by
  unfold Jh at hq'
  simp only[List.mem_append] at hq'
  rcases hq' with hq'|hq'|hq'
  ·obtain⟨-,rfl⟩:=Cl hq'
   exact⟨⟨hs.m.f,hs.m.r⟩,by show(nmC p.f p.r).length≤_;omega⟩
  ·obtain⟨-,rfl⟩:=Cl hq'
   exact⟨trivial,by show(C9 p.s.toNat).length≤_;omega⟩
  ·obtain⟨-,rfl⟩:=Cl hq'
   exact⟨hs.i,by show(B7 p.i).length≤_;omega⟩
 have:=pC (k:=k3) (ME p) (BA h1 h2 h3) (fun q hq=>(hmem q hq).1) (by simp) (fun q hq=>(hmem q hq).2) (by omega)
 unfold ptP ptE
 rw[this]
 simp only
 rw[bO h1 h2,if_pos h]
theorem MH {x:Iss} (h:isW x=true) (hs:nmM x.f x.r) (hf:(B7 x.f).length≤400000000):isP (isE x)=(some x,0,0):=by
 obtain⟨h1,h2,-⟩:=Lt.1 h
 have hl:=mD hs hf
 have hr:(En x.r).length≤90000000:=hs.r.e
 have hc:=Lr hs
 have hq:=Ez x.s.toNat
 have hmem:∀q∈Ji x,q.2.mid∧(vlC q.2).length≤900000000:=fun q hq'=>by
  unfold Ji at hq'
  simp only[List.mem_append] at hq'
  rcases hq' with hq'|hq'|hq'|hq'|hq'|hq'
  ·obtain⟨-,rfl⟩:=Cl hq'
   exact⟨⟨hs.f,hs.r⟩,by show(nmC x.f x.r).length≤_;omega⟩
  ·obtain⟨-,rfl⟩:=Cl hq'
   exact⟨trivial,by show(1:Nat)≤_;omega⟩
  ·obtain⟨-,rfl⟩:=Cl hq'
   exact⟨trivial,by show(1:Nat)≤_;omega⟩
  ·obtain⟨-,rfl⟩:=Cl hq'
   exact⟨trivial,by show(C9 x.s.toNat).length≤_;omega⟩
  ·obtain⟨-,rfl⟩:=Cl hq'
   exact⟨trivial,by show(1:Nat)≤_;omega⟩
  ·obtain⟨-,rfl⟩:=Cl hq'
   exact⟨trivial,by show(1:Nat)≤_;omega⟩
 have:=pC (k:=k6) (MF x) (BB h1 h2) (fun q hq=>(hmem q hq).1) (by simp) (fun q hq=>(hmem q hq).2) (by omega)
 unfold isP isE
 rw[this]
 simp only
 rw[bP h1 h2,if_pos h]
def Hc (n:Tr):List Gn×List Att:=if(n.kid 0).n=0 then((n.kid 0).ks.map Bg,[]) else([],Em (n.kid 0))
def Ph (p:Pt) (k:Tr):Pt:=if k.n=0 then⟨(Hc k).1,(Hc k).2,p.s,p.i⟩ else if k.n=1 then{p with s:=rdS k.v} else if k.n=2 then{p with i:=k.ks.map Bg} else p
def K5 (x:Iss) (k:Tr):Iss:=if k.n=0 then⟨(Hc k).1,(Hc k).2,x.u,x.c,x.n,x.a,x.s⟩ else if k.n=1 then{x with u:=true} else if k.n=2 then{x with c:=true} else if k.n=3 then{x with s:=rdS k.v} else if k.n=4 then{x with n:=true} else if k.n=5 then{x with a:=true} else x
def pt0:Pt:=⟨[],[],0,[]⟩
def is0:Iss:=⟨[],[],false,false,false,false,0⟩
def Qz (t:Tr):Pt:=t.ks.foldl Ph pt0
def Pi (t:Tr):Iss:=t.ks.foldl K5 is0
theorem GM {r:List Att} (h:Ed r=true) (hz:rdnZ r):∃ks,okT 18 (Ah 2 1 true (En r)) (.mk 2 1 true [] ks)∧ks.map Nz=r:=by
 obtain⟨h0,h1,h2⟩:=Nq h
 obtain⟨hl,hs,hq⟩:=hz
 obtain⟨c1,c2⟩:=Lg (d:=17) (c:=2) (n:=1) (r.map atE) (by omega) (by omega) (fun p hp=>by
  obtain⟨a,ha,rfl⟩:=List.mem_map.1 hp
  have:=Ts (hs a ha)
  have:=(hs a ha).o
  have:=(hs a ha).v
  exact⟨(bI (List.all_eq_true.1 h1 a ha) (hs a ha)).1,by omega⟩) (by omega)
 refine⟨_,⟨c1,c2⟩,?_⟩
 rw[List.map_map,List.map_map]
 conv=>rhs;rw[←List.map_id r]
 exact List.map_congr_left fun a ha=>(bI (List.all_eq_true.1 h1 a ha) (hs a ha)).2
def tvR (t:Tr):Vl→Prop
 | .nm f r=>Hc t=(f,r)
 | .rs s=>rdS t.v=s
 | .is i=>t.ks.map Bg=i
 | .fl=>True
theorem GN {f:List Gn} {r:List Att} (h:(f≠[]∧r=[]∧f.all gnW=true)∨(f=[]∧Ed r=true)) (hs:nmM f r):∃t:Tr,okT 21 (nmC f r) t∧Hc (.mk 2 0 true [] [t])=(f,r):=by
 rcases h with⟨h0,rfl,h1⟩|⟨rfl,h1⟩
 ·obtain⟨ks,k1,k2⟩:=oL h1 hs.f 2 0 (by omega) (by omega)
  refine⟨.mk 2 0 true [] ks,?_,?_⟩
  ·unfold nmC
   rw[if_neg h0];exact k1
  ·show((ks.map Bg,[]):List Gn×List Att)=_
   rw[k2]
 ·obtain⟨ks,k1,k2⟩:=GM h1 hs.r
  refine⟨.mk 2 1 true [] ks,?_,?_⟩
  ·unfold nmC
   rw[if_pos rfl];exact k1.up (by omega)
  ·show(([],ks.map Nz):List Gn×List Att)=_
   rw[k2]
theorem BC {k:UInt8} {n:Nat} {v:Vl} (h:vlW k v) (hs:v.mid) (hn:n≤30) (hl:(vlC v).length≤900000000):∃t:Tr,okT 23 (vlT (n,v)).enc t∧t.n=n∧tvR t v:=by
 cases v with
 |nm f r=>
  obtain⟨-,h⟩:=h
  obtain⟨t,t1,t2⟩:=GN h ⟨hs.1,hs.2⟩
  exact⟨_,(okT.con1 (c:=2) (n:=n) (by omega) hn t1 (by have:(vlC (.nm f r)).length=(nmC f r).length:=rfl;omega)).up (by omega),rfl,t2⟩
 |rs s=>
  obtain⟨-,h0,h1⟩:=h
  exact⟨_,(okT.prim 0 (c:=2) (n:=n) (C9 s) (by omega) hn (by have:=Ez s;omega)).up (by omega),rfl,FY h1⟩
 |is i=>
  obtain⟨-,h0,h1⟩:=h
  obtain⟨ks,k1,k2⟩:=oL h1 hs 2 n (by omega) hn
  exact⟨_,k1.up (by omega),rfl,k2⟩
 |fl=>exact⟨_,(okT.prim 0 (c:=2) (n:=n) [255] (by omega) hn (by simp)).up (by omega),rfl,trivial⟩
def vsT (vs:List (Nat×Vl)):List Tr:=(vsB vs).map (trD 23)
theorem Lu (a b:List (Nat×Vl)):vsT (a++b)=vsT a++vsT b:=by unfold vsT;rw[D9,List.map_append]
theorem pG {k:List UInt8} {vs:List (Nat×Vl)} (hw:vsW k vs) (hm:∀p∈vs,p.1≤30∧p.2.mid∧(vlC p.2).length≤900000000) (hl:(vsB vs).flatten.length≤2000000000):(Cq (vsE vs)).ks=vsT vs:=by
 obtain⟨c1,c2⟩:=Lg (d:=23) (c:=0) (n:=16) (vsB vs) (by omega) (by omega) (fun q hq=>by
  obtain⟨p,hp,rfl⟩:=List.mem_map.1 hq
  obtain⟨m1,m2,m3⟩:=hm p hp
  obtain⟨t,t1,-⟩:=BC (n:=p.1) (hw p hp) m2 m1 m3
  have:=Ar 2 p.1 (vlK p.2) (vlC p.2) (by omega)
  exact⟨t1.1,by show(Ah 2 p.1 (vlK p.2) (vlC p.2)).length≤_;omega⟩) (by omega)
 unfold vsE
 rw[zV (d:=24) ⟨c1,c2⟩ (by omega)]
 rfl
theorem Ik {k:UInt8} {n:Nat} {c:Prop} [Decidable c] {v:Vl} (h:c→vlW k v) (hs:v.mid) (hn:n≤30) (hl:(vlC v).length≤900000000):(¬c∧vsT (opt n c v)=[])∨(c∧∃t:Tr,vsT (opt n c v)=[t]∧t.n=n∧tvR t v):=by
 unfold opt
 by_cases hc:c
 ·obtain⟨t,t1,t2,t3⟩:=BC (n:=n) (h hc) hs hn hl
  refine .inr ⟨hc,t,?_,t2,t3⟩
  rw[if_pos hc]
  show [trD 23 (vlT (n,v)).enc]=[t]
  rw[t1.2]
 ·refine .inl ⟨hc,?_⟩
  rw[if_neg hc];rfl
theorem GO {p:Pt} (h:ptW p=true) (hs:p.mid) (hf:(B7 p.f).length≤400000000) (hi:(B7 p.i).length≤400000000):Qz (Cq (ptE p))=p:=by
 obtain⟨h1,h2,h3,-⟩:=Ju.1 h
 have hl:=mC hs hf hi
 have hr:(En p.r).length≤90000000:=hs.m.r.e
 have hc:=Lr hs.m
 have hq:=Ez p.s.toNat
 have c0:(vlC (.nm p.f p.r)).length≤900000000:=by show(nmC p.f p.r).length≤_;omega
 have c1:(vlC (.rs p.s.toNat)).length≤900000000:=by show(C9 p.s.toNat).length≤_;omega
 have c2:(vlC (.is p.i)).length≤900000000:=by show(B7 p.i).length≤_;omega
 have hmem:∀q∈Jh p,q.1≤30∧q.2.mid∧(vlC q.2).length≤900000000:=fun q hq'=>by
  unfold Jh at hq'
  simp only[List.mem_append] at hq'
  rcases hq' with hq'|hq'|hq'
  ·obtain⟨-,rfl⟩:=Cl hq'
   exact⟨by simp,⟨hs.m.f,hs.m.r⟩,c0⟩
  ·obtain⟨-,rfl⟩:=Cl hq'
   exact⟨by simp,trivial,c1⟩
  ·obtain⟨-,rfl⟩:=Cl hq'
   exact⟨by simp,hs.i,c2⟩
 unfold Qz ptE
 rw[pG (k:=k3) (BA h1 h2 h3) hmem (by omega)]
 unfold Jh
 rw[Lu,Lu,List.foldl_append,List.foldl_append]
 have a0:=Ik (k:=110) (n:=0) (c:=p.f≠[]∨p.r≠[]) (v:= .nm p.f p.r) (fun h0=>bQ h1 h0) ⟨hs.m.f,hs.m.r⟩ (by omega) c0
 have a1:=Ik (k:=114) (n:=1) (c:=p.s≠0) (v:= .rs p.s.toNat) (fun h0=>bR h2 h0) trivial (by omega) c1
 have a2:=Ik (k:=105) (n:=2) (c:=p.i≠[]) (v:= .is p.i) (fun h0=>⟨rfl,h0,h3.resolve_left h0⟩) hs.i (by omega) c2
 obtain⟨f,r,s,i⟩:=p
 simp only at*
 have e0:(vsT (opt 0 (f≠[]∨r≠[]) (.nm f r))).foldl Ph pt0=⟨f,r,0,[]⟩:=by
  rcases a0 with⟨n0,e⟩|⟨-,t,e,t1,t2⟩
  ·rw[e]
   have:f=[]∧r=[]:=⟨Decidable.not_not.1 fun h=>n0 (.inl h),Decidable.not_not.1 fun h=>n0 (.inr h)⟩
   rw[this.1,this.2];rfl
  ·rw[e]
   have t2:Hc t=(f,r):=t2
   show Ph pt0 t=_
   unfold Ph
   rw[if_pos t1,t2];rfl
 rw[e0]
 have e1:(vsT (opt 1 (s≠0) (.rs s.toNat))).foldl Ph ⟨f,r,0,[]⟩=⟨f,r,s,[]⟩:=by
  rcases a1 with⟨n0,e⟩|⟨-,t,e,t1,t2⟩
  ·rw[e,Decidable.not_not.1 n0];rfl
  ·rw[e]
   have t2:rdS t.v=s.toNat:=t2
   show Ph _ t=_
   unfold Ph
   rw[if_neg (by omega),if_pos t1,t2]
   have:=h2.1
   rw[Int.toNat_of_nonneg this]
 rw[e1]
 rcases a2 with⟨n0,e⟩|⟨-,t,e,t1,t2⟩
 ·rw[e,Decidable.not_not.1 n0];rfl
 ·rw[e]
  have t2:t.ks.map Bg=i:=t2
  show Ph _ t=_
  unfold Ph
  rw[if_neg (by omega),if_neg (by omega),if_pos t1,t2]
theorem T2 {n:Nat} {b:Bool} (x:Iss) {y:Iss} (a:(¬b=true∧vsT (opt n (b=true) .fl)=[])∨(b=true∧∃t:Tr,vsT (opt n (b=true) .fl)=[t]∧t.n=n∧tvR t .fl)) (h0:b=false→y=x) (h1:b=true→∀t:Tr,t.n=n→K5 x t=y):(vsT (opt n (b=true) .fl)).foldl K5 x=y:=by
 rcases a with⟨n0,e⟩|⟨n0,t,e,t1,-⟩
 ·rw[e,h0 (by simpa using n0)];rfl
 ·rw[e];exact h1 n0 t t1
theorem GP {x:Iss} (h:isW x=true) (hs:nmM x.f x.r) (hf:(B7 x.f).length≤400000000):Pi (Cq (isE x))=x:=by
 obtain⟨h1,h2,-⟩:=Lt.1 h
 have hl:=mD hs hf
 have hr:(En x.r).length≤90000000:=hs.r.e
 have hc:=Lr hs
 have hq:=Ez x.s.toNat
 have c0:(vlC (.nm x.f x.r)).length≤900000000:=by show(nmC x.f x.r).length≤_;omega
 have c1:(vlC (.rs x.s.toNat)).length≤900000000:=by show(C9 x.s.toNat).length≤_;omega
 have c2:(vlC .fl).length≤900000000:=by show(1:Nat)≤_;omega
 have hmem:∀q∈Ji x,q.1≤30∧q.2.mid∧(vlC q.2).length≤900000000:=fun q hq'=>by
  unfold Ji at hq'
  simp only[List.mem_append] at hq'
  rcases hq' with hq'|hq'|hq'|hq'|hq'|hq'
  ·obtain⟨-,rfl⟩:=Cl hq'
   exact⟨by simp,⟨hs.f,hs.r⟩,c0⟩
  ·obtain⟨-,rfl⟩:=Cl hq'
   exact⟨by simp,trivial,c2⟩
  ·obtain⟨-,rfl⟩:=Cl hq'
   exact⟨by simp,trivial,c2⟩
  ·obtain⟨-,rfl⟩:=Cl hq'
   exact⟨by simp,trivial,c1⟩
  ·obtain⟨-,rfl⟩:=Cl hq'
   exact⟨by simp,trivial,c2⟩
  ·obtain⟨-,rfl⟩:=Cl hq'
   exact⟨by simp,trivial,c2⟩
 unfold Pi isE
 rw[pG (k:=k6) (BB h1 h2) hmem (by omega)]
 unfold Ji
 rw[Lu,Lu,Lu,Lu,Lu]
 simp only[List.foldl_append]
 have a0:=Ik (k:=110) (n:=0) (c:=x.f≠[]∨x.r≠[]) (v:= .nm x.f x.r) (fun h0=>bQ h1 h0) ⟨hs.f,hs.r⟩ (by omega) c0
 have a3:=Ik (k:=114) (n:=3) (c:=x.s≠0) (v:= .rs x.s.toNat) (fun h0=>bR h2 h0) trivial (by omega) c1
 have a1:=Ik (k:=102) (n:=1) (c:=x.u=true) (v:= .fl) (fun _=>rfl) trivial (by omega) c2
 have a2:=Ik (k:=102) (n:=2) (c:=x.c=true) (v:= .fl) (fun _=>rfl) trivial (by omega) c2
 have a4:=Ik (k:=102) (n:=4) (c:=x.n=true) (v:= .fl) (fun _=>rfl) trivial (by omega) c2
 have a5:=Ik (k:=102) (n:=5) (c:=x.a=true) (v:= .fl) (fun _=>rfl) trivial (by omega) c2
 obtain⟨f,r,u,c,n,a,s⟩:=x
 simp only at*
 have e0:(vsT (opt 0 (f≠[]∨r≠[]) (.nm f r))).foldl K5 is0=⟨f,r,false,false,false,false,0⟩:=by
  rcases a0 with⟨n0,e⟩|⟨-,t,e,t1,t2⟩
  ·rw[e]
   have:f=[]∧r=[]:=⟨Decidable.not_not.1 fun h=>n0 (.inl h),Decidable.not_not.1 fun h=>n0 (.inr h)⟩
   rw[this.1,this.2];rfl
  ·rw[e]
   have t2:Hc t=(f,r):=t2
   show K5 is0 t=_
   unfold K5
   rw[if_pos t1,t2];rfl
 rw[e0]
 rw[T2 (y:=⟨f,r,u,false,false,false,0⟩) _ a1 (fun h=>by rw[h]) (fun h t t1=>by unfold K5;rw[if_neg (by omega),if_pos t1,h])]
 rw[T2 (y:=⟨f,r,u,c,false,false,0⟩) _ a2 (fun h=>by rw[h]) (fun h t t1=>by unfold K5;rw[if_neg (by omega),if_neg (by omega),if_pos t1,h])]
 have e3:(vsT (opt 3 (s≠0) (.rs s.toNat))).foldl K5 ⟨f,r,u,c,false,false,0⟩=⟨f,r,u,c,false,false,s⟩:=by
  rcases a3 with⟨n0,e⟩|⟨-,t,e,t1,t2⟩
  ·rw[e,Decidable.not_not.1 n0];rfl
  ·rw[e]
   have t2:rdS t.v=s.toNat:=t2
   show K5 _ t=_
   unfold K5
   rw[if_neg (by omega),if_neg (by omega),if_neg (by omega),if_pos t1,t2]
   have:=h2.1
   rw[Int.toNat_of_nonneg this]
 rw[e3]
 rw[T2 (y:=⟨f,r,u,c,n,false,s⟩) _ a4 (fun h=>by rw[h]) (fun h t t1=>by unfold K5;rw[if_neg (by omega),if_neg (by omega),if_neg (by omega),if_neg (by omega),if_pos t1,h])]
 exact T2 (y:=⟨f,r,u,c,n,a,s⟩) _ a5 (fun h=>by rw[h]) (fun h t t1=>by unfold K5;rw[if_neg (by omega),if_neg (by omega),if_neg (by omega),if_neg (by omega),if_neg (by omega),if_pos t1,h])
theorem Q0:gnsZ []:=⟨by simp,(fun g hg=>by cases hg),by simp⟩
theorem Jd:rdnZ []:=⟨by simp,(fun g hg=>by cases hg),by simp⟩
theorem MI {t:Tr} (h:t.ok) (hl:t.enc.length≤3006):t.ks.length≤100000∧(∀k∈t.ks,k.gn)∧gnsZ (t.ks.map Bg):=by
 have hk:=Lz h
 have hc:=Tr.encs_two t.ks
 have hp:=t.parts
 have hm:=Wm (f:=fun k=>gnE (Bg k)) (C:=400) (l:=t.ks) fun k hm=>AG (hk k hm).1 (by have:=(hk k hm).2;omega)
 have hf:((t.ks.map Bg).map gnE).flatten.length≤400*(Tr.encs t.ks).length:=by rw[List.map_map];exact hm
 refine⟨by omega,fun k hm=>IC (hk k hm).1 (by have:=(hk k hm).2;omega),⟨by rw[List.length_map];omega,fun g hg=> ?_,by omega⟩⟩
 obtain⟨k,hm,rfl⟩:=List.mem_map.1 hg
 exact oJ (hk k hm).1 (by have:=(hk k hm).2;omega)
structure nmZZ (f:List Gn) (r:List Att):Prop where
 f:gnsZ f
 r:rdnZ r
structure Pt.z (p:Pt):Prop where
 m:nmZZ p.f p.r
 i:gnsZ p.i
theorem pH {t:Tr} (h:t.ok) (hl:t.enc.length≤3004):nmZZ (Hc t).1 (Hc t).2:=by
 obtain⟨a1,a2⟩:=J8 h 0
 unfold Hc
 split
 ·exact⟨(MI a1 (by omega)).2.2,Jd⟩
 ·exact⟨Q0,(Tw a1 (by omega)).1⟩
theorem BD:∀{ks:List Tr} {p:Pt},(∀k∈ks,k.ok∧k.enc.length≤3004)→p.z∧rsW p.s→(ks.foldl Ph p).z∧rsW (ks.foldl Ph p).s
 |[],_,_,h=>h
 |k::ks,p,h,h0=>by
  obtain⟨k1,k2⟩:=h k (by simp)
  rw[List.foldl_cons]
  refine BD (fun y hy=>h y (by simp[hy])) ?_
  have:=AP k.v
  unfold Ph
  split
  ·exact⟨⟨pH k1 k2,h0.1.i⟩,h0.2⟩
  ·split
   ·exact⟨⟨h0.1.m,h0.1.i⟩,by unfold rsW;simp only;omega⟩
   ·split
    ·exact⟨⟨h0.1.m,(MI k1 (by omega)).2.2⟩,h0.2⟩
    ·exact h0
theorem BE:∀{ks:List Tr} {x:Iss},(∀k∈ks,k.ok∧k.enc.length≤3004)→nmZZ x.f x.r∧rsW x.s→nmZZ (ks.foldl K5 x).f (ks.foldl K5 x).r∧rsW (ks.foldl K5 x).s
 |[],_,_,h=>h
 |k::ks,p,h,h0=>by
  obtain⟨k1,k2⟩:=h k (by simp)
  rw[List.foldl_cons]
  refine BE (fun y hy=>h y (by simp[hy])) ?_
  have:=AP k.v
  unfold K5
  split
  ·exact⟨pH k1 k2,h0.2⟩
  ·split
   ·exact h0
   ·split
    ·exact h0
    ·split
     ·exact⟨h0.1,by unfold rsW;simp only;omega⟩
     ·split
      ·exact h0
      ·split
       ·exact h0
       ·exact h0
theorem T3 {b:List UInt8} (hb:b.length≤3000):(Cq b).ks.length≤100000∧∀k∈(Cq b).ks,k.ok∧k.enc.length≤3004:=by
 obtain⟨s1,s2⟩:=FT hb
 have hk:=Lz s1
 have hc:=Tr.encs_two (Cq b).ks
 have hp:=(Cq b).parts
 exact⟨by omega,fun k hm=>⟨(hk k hm).1,by have:=(hk k hm).2;omega⟩⟩
structure Pt.sm (p:Pt):Prop where
 m:p.mid
 f:(B7 p.f).length≤400000000
 i:(B7 p.i).length≤400000000
structure Iss.sm (x:Iss):Prop where
 m:nmM x.f x.r
 f:(B7 x.f).length≤400000000
theorem mE {n:Nat} {c:Prop} [Decidable c] {v:Vl} (h:c):(vlC v).length≤(vsB (opt n c v)).flatten.length:=by
 unfold opt
 rw[if_pos h]
 show(vlC v).length≤[(vlT (n,v)).enc].flatten.length
 have:=D8 2 n (vlK v) (vlC v)
 have e:(vlT (n,v)).enc=Ah 2 n (vlK v) (vlC v):=rfl
 simp only[List.flatten_cons,List.flatten_nil,List.append_nil]
 rw[e];omega
theorem BF (vs:List (Nat×Vl)):(vsB vs).flatten.length+2≤(vsE vs).length:=by
 have:=D8 0 16 true (vsB vs).flatten
 unfold vsE;omega
theorem Q1:gnsM []:=⟨by simp,(fun g hg=>by cases hg),by simp⟩
theorem gR {f:List Gn} {r:List Att} (h:nmW f r) (hl:f≠[]∨r≠[]→(nmC f r).length≤399000):nmM f r∧(B7 f).length≤399000:=by
 obtain⟨h1,h2⟩:=h
 by_cases hf:f=[]
 ·subst hf
  refine⟨⟨Q1,?_⟩,by simp[B7]⟩
  by_cases hr:r=[]
  ·subst hr;exact Jd
  ·have hw:=h2.resolve_left hr
   have hq:=hl (.inr hr)
   unfold nmC at hq
   rw[if_pos rfl] at hq
   have e1:=D8 2 1 true (En r)
   have e2:=Ar 0 17 true (En r) (by omega)
   exact(AH hw (by show(Ah 0 17 true (En r)).length≤_;omega)).1
 ·obtain⟨rfl,ha⟩:=h1.resolve_left hf
  have hq:=hl (.inl hf)
  unfold nmC at hq
  rw[if_neg hf] at hq
  have e1:=D8 2 0 true (B7 f)
  exact⟨⟨Wo ha (by show(B7 f).length≤_;omega),Jd⟩,by omega⟩
theorem Y4 {p:Pt} (h1:nmW p.f p.r) (h3:p.i=[]∨p.i.all gnW=true) (hl:(ptE p).length≤399000):p.sm:=by
 have hv:=BF (Jh p)
 have hl:(vsE (Jh p)).length≤399000:=hl
 have hb:(vsB (Jh p)).flatten.length=(vsB (opt 0 (p.f≠[]∨p.r≠[]) (.nm p.f p.r))).flatten.length+((vsB (opt 1 (p.s≠0) (.rs p.s.toNat))).flatten.length+(vsB (opt 2 (p.i≠[]) (.is p.i))).flatten.length):=by
  unfold Jh
  rw[D9,D9,List.flatten_append,List.flatten_append,Ak,Ak]
 obtain⟨a,b⟩:=gR h1 fun h0=>by
  have:=mE (n:=0) (v:= .nm p.f p.r) h0
  have e:(vlC (.nm p.f p.r)).length=(nmC p.f p.r).length:=rfl
  omega
 have hi:(B7 p.i).length≤399000:=by
  by_cases h0:p.i=[]
  ·rw[h0];simp[B7]
  ·have:=mE (n:=2) (v:= .is p.i) (show p.i≠[] from h0)
   have e:(vlC (.is p.i)).length=(B7 p.i).length:=rfl
   omega
 have hm:gnsM p.i:=by
  rcases h3 with h3|h3
  ·rw[h3];exact Q1
  ·exact Wo h3 (by show(B7 p.i).length≤_;omega)
 exact⟨⟨a,hm⟩,by omega,by omega⟩
theorem gS {p:Pt} (h:ptW p=true) (hl:(ptE p).length≤399000):p.sm:=by
 obtain⟨h1,-,h3,-⟩:=Ju.1 h
 exact Y4 h1 h3 hl
theorem Y5 {x:Iss} (h1:nmW x.f x.r) (hl:(isE x).length≤399000):x.sm:=by
 have hv:=BF (Ji x)
 have hl:(vsE (Ji x)).length≤399000:=hl
 obtain⟨a,b⟩:=gR h1 fun h0=>by
  have:=mE (n:=0) (v:= .nm x.f x.r) h0
  have e:(vlC (.nm x.f x.r)).length=(nmC x.f x.r).length:=rfl
  have:(vsB (opt 0 (x.f≠[]∨x.r≠[]) (.nm x.f x.r))).flatten.length≤(vsB (Ji x)).flatten.length:=by
   unfold Ji
   rw[D9,List.flatten_append,Ak];omega
  omega
 exact⟨a,by omega⟩
theorem gT {x:Iss} (h:isW x=true) (hl:(isE x).length≤399000):x.sm:=Y5 (Lt.1 h).1 hl
theorem Pt.sm.put {p:Pt} (h:ptW p=true) (hs:p.sm):ptP (ptE p)=(some p,0,0):=MG h hs.m hs.f hs.i
theorem Iss.sm.put {x:Iss} (h:isW x=true) (hs:x.sm):isP (isE x)=(some x,0,0):=MH h hs.m hs.f
def W4 (b:List UInt8) (p:Pt):Bool:=ptW p&&(ptE p==b)
def W5 (b:List UInt8) (x:Iss):Bool:=isW x&&(isE x==b)
theorem BG {b:List UInt8} {c o:Nat} (h:ptP b=(none,c,o)) (hb:b.length≤3000):W4 b (Qz (Cq b))=false:=by
 cases hr:W4 b (Qz (Cq b)) with
 |false=>rfl
 |true=>
  generalize Qz (Cq b)=v at hr
  unfold W4 at hr
  rw[At,beq_iff_eq] at hr
  have:=(gS hr.1 (by rw[hr.2];omega)).put hr.1
  rw[hr.2,h] at this;cases this
theorem tP {b:List UInt8} {p:Pt} (hw:ptW p=true) (he:b=ptE p) (hb:b.length≤3000):p.sm∧Qz (Cq b)=p∧W4 b p=true:=by
 have hm:=gS hw (by rw[←he];omega)
 refine⟨hm,by rw[he];exact GO hw hm.m hm.f hm.i,?_⟩
 unfold W4
 rw[hw,he,beq_self_eq_true];rfl
theorem BH {b:List UInt8} {c o:Nat} (h:isP b=(none,c,o)) (hb:b.length≤3000):W5 b (Pi (Cq b))=false:=by
 cases hr:W5 b (Pi (Cq b)) with
 |false=>rfl
 |true=>
  generalize Pi (Cq b)=v at hr
  unfold W5 at hr
  rw[At,beq_iff_eq] at hr
  have:=(gT hr.1 (by rw[hr.2];omega)).put hr.1
  rw[hr.2,h] at this;cases this
theorem tQ {b:List UInt8} {p:Iss} (hw:isW p=true) (he:b=isE p) (hb:b.length≤3000):p.sm∧Pi (Cq b)=p∧W5 b p=true:=by
 have hm:=gT hw (by rw[←he];omega)
 refine⟨hm,by rw[he];exact GP hw hm.m hm.f,?_⟩
 unfold W5
 rw[hw,he,beq_self_eq_true];rfl
set_option maxHeartbeats 16000000
def N4 (s:Int):Prop:= -9223372036854775808≤s∧s≤9223372036854775807
abbrev dpA (p:Pt):AV:= .agg [.d (G3 p.f),.d (He p.r),iv p.s,.d (G3 p.i)]
abbrev diA (x:Iss):AV:= .agg [.d (G3 x.f),.d (He x.r),bv x.u,bv x.c,bv x.n,bv x.a,iv x.s]
abbrev plA (f:List Gn) (r:List Att):AV:= .agg [.d (G3 f),.d (He r)]
def plV (f:List Gn) (r:List Att) (s:Int):Bool:=decide (nmW f r∧rsW s)
def Lv (f:List Gn) (r:List Att):Bool:=f.isEmpty&&r.isEmpty
theorem R4 {α:Type} {l:List α} (h:l≠[]):decide ((l.length:Int)>0)=true:=decide_eq_true (by have:=List.length_pos_iff.2 h;omega)
theorem Q2 {α:Type} {l:List α} (h:l≠[]):((l.length:Int)==0)=false:=by
 rw[beq_eq_false_iff_ne];have:=List.length_pos_iff.2 h;omega
theorem Q3 {l:List Gn} (h:l≠[]):M2 l=l.all gnW:=by
 unfold M2
 cases l with
 |nil=>exact absurd rfl h
 |cons a r=>rfl
theorem F7 {p:Prop} (h:p:=by first|rfl|(simp only[AV.gives,AV.ren,AV.give,D.un,D.uns,Aj,Am,List.nil_append,List.append_nil,List.cons_append,Av,A6,Cc,Bn,A8,B5,Cj,B6,Bk,Bw,Bd];first|done|rfl)):p:=h
theorem tR (r:List Att) (hz:rdnZ r):Ab Tryz.prog 91 [.d (He r)] (fun x=>x=bv (Ed r)):=by
 have hM:=O6 r hz
 cases h:Ed r
 ·rw[h] at hM
  have hM:Ab Tryz.prog 27 [.d (He r)] (fun q=>q= .tup [A3,iv 8]):=hM
  refine acQ 12 Tryz.func91 rfl rfl fun _ _ _=> ?_
  (repeat'((conv=>whnf);refine Aa hM F7 ?_));(all_goals(conv=>whnf))
  all_goals exact zE
 ·rw[h] at hM
  have hM:Ab Tryz.prog 27 [.d (He r)] (fun q=>q= .tup [A7 0 5 (Cv r),iv 0]):=hM
  refine acQ 12 Tryz.func91 rfl rfl fun _ _ _=> ?_
  (repeat'((conv=>whnf);refine Aa hM F7 ?_));(all_goals(conv=>whnf))
  all_goals exact zE
theorem gU (f:List Gn) (r:List Att):(f=[]∧r=[]∧nmW f r)∨(f=[]∧r≠[]∧Ed r=true∧nmW f r)∨(f=[]∧r≠[]∧Ed r=false∧¬nmW f r)∨(f≠[]∧r=[]∧M2 f=true∧nmW f r)∨(f≠[]∧r=[]∧M2 f=false∧¬nmW f r)∨(f≠[]∧r≠[]∧¬nmW f r):=by
 by_cases f0:f=[]<;>by_cases r0:r=[]
 ·exact .inl ⟨f0,r0,.inl f0,.inl r0⟩
 ·cases h:Ed r
  ·refine .inr (.inr (.inl ⟨f0,r0,rfl,fun hw=> ?_⟩))
   have:=hw.2.resolve_left r0
   rw[h] at this;cases this
  ·exact .inr (.inl ⟨f0,r0,rfl,.inl f0,.inr h⟩)
 ·have e:=Q3 f0
  cases h:M2 f
  ·refine .inr (.inr (.inr (.inr (.inl ⟨f0,r0,rfl,fun hw=> ?_⟩))))
   have:=(hw.1.resolve_left f0).2
   rw[←e,h] at this;cases this
  ·exact .inr (.inr (.inr (.inl ⟨f0,r0,rfl,.inr ⟨r0,by rw[←e,h]⟩,.inl r0⟩)))
 ·exact .inr (.inr (.inr (.inr (.inr ⟨f0,r0,fun hw=>r0 (hw.1.resolve_left f0).1⟩))))
theorem pI (f:List Gn) (r:List Att) (s:Int) (hf:gnsM f) (hr:rdnZ r) (hs:N4 s):Ab Tryz.prog 51 [plA f r,iv s] (fun q=>q=bv (plV f r s)):=by
 have hL:=Wq f hf
 have hR:=tR r hr
 have hfn:=hf.n
 have hrl:=hr.l
 obtain⟨s1,s2⟩:=hs
 rcases gU f r with⟨rfl,rfl,hw⟩|⟨rfl,h0,hv,hw⟩|⟨rfl,h0,hv,hw⟩|⟨h1,rfl,hv,hw⟩|⟨h1,rfl,hv,hw⟩|⟨h1,h0,hw⟩
 rotate_left 2
 ·have e:plV [] r s=false:=decide_eq_false fun h=>hw h.1
  have g0:=R4 h0
  rw[e]
  rw[hv] at hR
  refine acQ 40 Tryz.func51 rfl rfl fun _ _ _=> ?_
  (repeat'((conv=>whnf);first|refine zP ?_|refine Ac ?_|refine Ae ?_|refine Aa hR F7 ?_|exact zE))
 rotate_left 1
 ·have e:plV f [] s=false:=decide_eq_false fun h=>hw h.1
  have g1:=R4 h1
  rw[e]
  rw[hv] at hL
  refine acQ 40 Tryz.func51 rfl rfl fun _ _ _=> ?_
  (repeat'((conv=>whnf);first|refine zP ?_|refine Ac ?_|refine Ae ?_|refine Aa hL F7 ?_|exact zE))
 ·have e:plV f r s=false:=decide_eq_false fun h=>hw h.1
  have g0:=R4 h0
  have g1:=R4 h1
  rw[e]
  refine acQ 40 Tryz.func51 rfl rfl fun _ _ _=> ?_
  (repeat'((conv=>whnf);first|refine zP ?_|refine Ac ?_|exact zE))
 all_goals
  by_cases q0:s<0
  ·have e:∀f r,plV f r s=false:=fun f r=>decide_eq_false fun h=>by have:=h.2.1;omega
   have g3:decide (s≥0)=false:=decide_eq_false (by omega)
   rw[e]
   first|have g0:=R4 h0;rw[hv] at hR|have g1:=R4 h1;rw[hv] at hL|skip
   refine acQ 40 Tryz.func51 rfl rfl fun _ _ _=> ?_
   (repeat'((conv=>whnf);first|refine zP ?_|refine zN ?_|refine Ac ?_|refine Ae ?_|refine Aa hR F7 ?_|refine Aa hL F7 ?_|exact zE))
  ·obtain⟨n,rfl⟩:=Int.eq_ofNat_of_zero_le (Int.not_lt.1 q0)
   have g3:decide ((n:Int)≥0)=true:=decide_eq_true (by omega)
   have hsh:(n:Int).fdiv (2^(min (Int.toNat 9) IntKind.i64.bits))=((n/2^9:Nat):Int):=LY (i:=9) (by omega)
   have hle:=Nat.div_le_self n (2^9)
   have gz:(((n/2^9:Nat):Int)==0)=decide (rsW (n:Int)):=by
    rw[Bool.eq_iff_iff,beq_iff_eq,decide_eq_true_iff];unfold rsW;omega
   have e:∀f r,nmW f r→plV f r (n:Int)=decide (rsW (n:Int)):=fun f r h=>by
    unfold plV
    rw[Bool.eq_iff_iff,decide_eq_true_iff,decide_eq_true_iff]
    exact⟨fun a=>a.2,fun a=>⟨h,a⟩⟩
   rw[e _ _ hw]
   first|have g0:=R4 h0;rw[hv] at hR|have g1:=R4 h1;rw[hv] at hL|skip
   refine acQ 40 Tryz.func51 rfl rfl fun _ _ _=> ?_
   (repeat'((conv=>whnf);first|refine zP ?_|refine Ac ?_|refine Ae ?_|refine Aa hR F7 ?_|refine Aa hL F7 ?_|refine NInt.as (((n/2^9:Nat):Int)) (hsh) ?_|refine Au (by first|decide|omega|(simp only[Ag,List.length_nil];omega)) ?_));(all_goals(conv=>whnf))
   all_goals(refine A9 ?_;(repeat'(first|refine And.intro ?_ ?_|exact rfl));(all_goals(conv=>whnf)))
   all_goals(rw[gz])
theorem T4 (f:List Gn) (r:List Att) (hf:f.length≤1000000) (hr:r.length≤1000000):Ab Tryz.prog 26 [plA f r] (fun q=>q=bv (Lv f r)):=by
 have e:(((f.length:Int)+(r.length:Int))==0)=Lv f r:=by
  unfold Lv
  rw[Bool.eq_iff_iff,beq_iff_eq,At,List.isEmpty_iff,List.isEmpty_iff,←List.length_eq_zero_iff,←List.length_eq_zero_iff];omega
 refine acQ 11 Tryz.func26 rfl rfl fun _ _ _=> ?_
 (repeat'((conv=>whnf);(with_reducible refine NInt.i64 ?_)));(all_goals(conv=>whnf))
 all_goals(refine A9 ?_;(repeat'(first|refine And.intro ?_ ?_|exact rfl));(all_goals(conv=>whnf)))
 all_goals(rw[e])
theorem BI (p:Pt):ptW p=(plV p.f p.r p.s&&((p.i.isEmpty||M2 p.i)&&(!Lv p.f p.r|| !p.i.isEmpty))):=by
 have hg:p.i≠[]→M2 p.i=p.i.all gnW:=Q3
 unfold ptW plV Lv
 obtain⟨f,r,s,i⟩:=p
 simp only at hg⊢
 rw[Bool.eq_iff_iff]
 simp only[decide_eq_true_iff,At,Bool.or_eq_true,Bool.not_eq_true',Bool.and_eq_false_iff,List.isEmpty_iff,List.isEmpty_eq_false_iff]
 constructor
 ·rintro⟨a,b,c,d⟩
  refine⟨⟨a,b⟩,?_,?_⟩
  ·by_cases i0:i=[]
   ·exact .inl i0
   ·exact .inr (by rw[hg i0];exact c.resolve_left i0)
  ·rcases d with d|d|d
   ·exact .inl (.inl d)
   ·exact .inl (.inr d)
   ·exact .inr d
 ·rintro⟨⟨a,b⟩,c,d⟩
  refine⟨a,b,?_,?_⟩
  ·by_cases i0:i=[]
   ·exact .inl i0
   ·exact .inr (by rw[←hg i0];exact c.resolve_left i0)
  ·rcases d with(d|d)|d
   ·exact .inl d
   ·exact .inr (.inl d)
   ·exact .inr (.inr d)
theorem R5 (p:Pt) (h:p.mid) (hs:N4 p.s):Ab Tryz.prog 16 [dpA p] (fun q=>q=bv (ptW p)):=by
 have hV:=pI p.f p.r p.s h.m.f h.m.r hs
 have hE:=T4 p.f p.r h.m.f.n (by have:=h.m.r.l;omega)
 have hG:=Wq p.i h.i
 have hn:=h.i.n
 rw[BI]
 obtain⟨f,r,s,i⟩:=p
 simp only at hV hE hG hn⊢
 clear h hs
 generalize plV f r s=w at hV⊢
 generalize Lv f r=m at hE⊢
 cases w
 ·refine acQ 35 Tryz.func16 rfl rfl fun _ _ _=> ?_
  (repeat'((conv=>whnf);first|refine Ae ?_|refine Aa hV F7 ?_|exact zE))
 by_cases i0:i=[]
 ·subst i0
  cases m
  all_goals
   refine acQ 35 Tryz.func16 rfl rfl fun _ _ _=> ?_
   (repeat'((conv=>whnf);first|refine Ac ?_|refine Ae ?_|refine Aa hV F7 ?_|refine Aa hE F7 ?_|exact zE))
 ·have g0:=Q2 i0
  have g1:=R4 i0
  rw[show i.isEmpty=false from List.isEmpty_eq_false_iff.2 i0]
  cases w:M2 i
  all_goals rw[w] at hG
  ·refine acQ 35 Tryz.func16 rfl rfl fun _ _ _=> ?_
   (repeat'((conv=>whnf);first|refine zN ?_|refine Ac ?_|refine Ae ?_|refine Aa hV F7 ?_|refine Aa hG F7 ?_|exact zE))
  ·cases m
   all_goals
    refine acQ 35 Tryz.func16 rfl rfl fun _ _ _=> ?_
    (repeat'((conv=>whnf);first|refine zN ?_|refine Ac ?_|refine Ae ?_|refine Aa hV F7 ?_|refine Aa hG F7 ?_|refine Aa hE F7 ?_));(all_goals(conv=>whnf))
    all_goals(refine A9 ?_;(repeat'(first|exact Bm _|refine And.intro ?_ ?_|exact rfl));(all_goals(conv=>whnf)))
    all_goals(first|rfl|(rw[g1];rfl))
theorem Hw {P:Program} {C:Cx} {o:Oper} {σ:AS} {t:Nat} {x:Operand} {k i:Nat} (ho:o.op= .nilCheck x) (hd:o.dst=some t) (ht:t<C.N) (hx:σ.eval x=some (.ptr k i)):Bu P C o σ (σ.put t (.ptr k i)):=
 Ba hd ht fun a w bm gt fp hg=>by
  have h:=hg.eval hx
  generalize hv:a.eval x=v at h
  cases h with
  |ptr=>exact⟨_,by simp only[execOp,ho,hv];rfl,.ptr⟩
theorem mF:Ab Tryz.prog 47 [A3,iv 8] (fun r=>r= .tup [A3,iv 8]):=by
 refine acQ 24 Tryz.func47 rfl rfl fun _ _ _=> ?_
 (repeat'((conv=>whnf);refine Ac ?_));(all_goals(conv=>whnf))
 all_goals exact zE
theorem Ff {p:Prop} (h:p:=by first|rfl|(simp only[AV.gives,AV.ren,AV.give,D.un,D.uns,Aj,Am,List.nil_append,List.append_nil,List.cons_append,AV.share,AV.shares,Av,A6,Cc,Bn,A8,B5,Cj,B6,Bk,Bw,Bd];first|done|rfl)):p:=h
theorem bS (c n:Nat) (k:Bool) (v:List UInt8) (hc1:c≤3) (hn:n≤30) (hl:v.length≤900000000):Ab Tryz.prog 47 [.d (Af false (Ah c n k v)),iv 0] (fun r=>r= .tup [.d (Af false v),iv 0]):=by
 obtain⟨h,hO,hL,hd,-⟩:=EP c n k v hc1 hn hl
 have hel:=Ar c n k v (by omega)
 generalize Ah c n k v=b at hO hL hd hel⊢
 have hd0:(b.drop h).take (b.length-h)=v:=hd
 refine acQ 24 Tryz.func47 rfl rfl fun _ _ _=> ?_
 (repeat'((conv=>whnf);first|refine Ae ?_|refine Aa hO Ff ?_|(refine NSl.bytes h b.length v hd0 ?_)|refine zF ?_|exact zE))
theorem Y6 (f:List Gn) (r:List Att) (hf:gnsM f) (hr:rdnZ r) (hw:nmW f r) (h0:f≠[]∨r≠[]) (hfl:(B7 f).length≤400000000):Ab Tryz.prog 45 [plA f r] (fun q=>q= .tup [A7 0 5 (Ah 2 0 true (nmC f r)),iv 0]):=by
 have hrl:(En r).length≤90000000:=hr.e
 have hnc:=Lr ⟨hf,hr⟩
 have hfn:=hf.n
 have hM:=Wp f hf
 have hW2:=D2 2 0 true (nmC f r) (by omega) (by omega) (by omega)
 by_cases f0:f=[]
 ·subst f0
  have r0:=h0.resolve_left fun h=>h rfl
  have hv:=hw.2.resolve_left r0
  have hM:Ab Tryz.prog 48 [.d (G3 [])] (fun q=>q= .tup [A3,iv 8]):=hM
  have hI:=mF
  have hR:=O6 r hr
  rw[hv] at hR
  have hR:Ab Tryz.prog 27 [.d (He r)] (fun q=>q= .tup [A7 0 5 (Ah 0 17 true (En r)),iv 0]):=hR
  have hJ:=bS 0 17 true (En r) (by omega) (by omega) (by omega)
  have hW1:=D2 2 1 true (En r) (by omega) (by omega) (by omega)
  have e:Ah 2 1 true (En r)=nmC [] r:=by unfold nmC;rw[if_pos rfl]
  rw[e] at hW1
  generalize Ah 2 0 true (nmC [] r)=w2 at hW2⊢
  generalize nmC [] r=w1 at hW1 hW2
  generalize Ah 0 17 true (En r)=w0 at hR hJ
  generalize En r=w at hJ hW1
  refine acQ 48 Tryz.func45 rfl rfl fun _ _ _=> ?_
  (repeat'((conv=>whnf);first|refine Ac ?_|refine Ae ?_|refine Aa hM rfl ?_|refine Aa hI rfl ?_|refine Aa hR Ff ?_|refine Aa hJ Ff ?_|refine Aa hW1 Ff ?_|refine Aa hW2 Ff ?_|exact zE))
 ·obtain⟨rfl,ha⟩:=hw.1.resolve_left f0
  have hv:M2 f=true:=by rw[Q3 f0];exact ha
  have g0:=Q2 f0
  rw[hv] at hM
  have hM:Ab Tryz.prog 48 [.d (G3 f)] (fun q=>q= .tup [A7 0 5 (Ah 0 16 true (B7 f)),iv 0]):=hM
  have hJ:=bS 0 16 true (B7 f) (by omega) (by omega) (by omega)
  have hW1:=D2 2 0 true (B7 f) (by omega) (by omega) (by omega)
  have e:Ah 2 0 true (B7 f)=nmC f []:=by unfold nmC;rw[if_neg f0]
  rw[e] at hW1
  generalize Ah 2 0 true (nmC f [])=w2 at hW2⊢
  generalize nmC f []=w1 at hW1 hW2
  generalize Ah 0 16 true (B7 f)=w0 at hM hJ
  generalize B7 f=w at hJ hW1
  refine acQ 48 Tryz.func45 rfl rfl fun _ _ _=> ?_
  (repeat'((conv=>whnf);first|refine zN ?_|refine Ae ?_|refine Aa hM Ff ?_|refine Aa hJ Ff ?_|refine Aa hW1 Ff ?_|refine Aa hW2 Ff ?_|exact zE))
def Lw (p:Pt):List (List UInt8):=(if p.f≠[]∨p.r≠[] then [Ah 2 0 true (nmC p.f p.r)] else [])++((if p.s≠0 then [Ah 2 1 false (C9 p.s.toNat)] else [])++(if p.i≠[] then [Ah 2 2 true (B7 p.i)] else []))
theorem Il {n:Nat} {c:Prop} [Decidable c] {v:Vl}:vsB (opt n c v)=if c then [Ah 2 n (vlK v) (vlC v)] else []:=by
 unfold opt vsB
 split<;>rfl
theorem Q4 (p:Pt):vsB (Jh p)=Lw p:=by
 unfold Jh Lw
 rw[D9,D9,Il,Il,Il]
 rfl
theorem Je {f:List Gn} {r:List Att}:Lv f r=false↔f≠[]∨r≠[]:=by
 unfold Lv
 rw[Bool.and_eq_false_iff,List.isEmpty_eq_false_iff,List.isEmpty_eq_false_iff]
theorem bT {s:Int} (h:rsW s):N4 s:=by unfold rsW at h;unfold N4;omega
theorem R6 (p:Pt) (h:p.sm) (hs:N4 p.s):Ab Tryz.prog 15 [dpA p] (fun q=>q=O8 (ptW p) (ptE p)):=by
 have hV:=R5 p h.m hs
 cases hw:ptW p
 ·rw[hw] at hV
  show Ab _ _ _ (fun q=>q= .tup [A3,iv 8])
  refine acQ 54 Tryz.func15 rfl rfl fun _ _ _=> ?_
  (repeat'((conv=>whnf);first|refine Ac ?_|refine Aa hV Ff ?_|exact zE))
 rw[hw] at hV
 show Ab _ _ _ (fun q=>q= .tup [A7 0 5 (ptE p),iv 0])
 obtain⟨w1,w2,w3,w4⟩:=Ju.1 hw
 have hl:=mC h.m h.f h.i
 have hr:(En p.r).length≤90000000:=h.m.m.r.e
 have hf:=h.f
 have hi:=h.i
 have hS:=P3 (Lw p) (by rw[←Q4];omega) (by unfold Lw;split<;>split<;>split<;>simp)
 have eS:Ah 0 16 true (Lw p).flatten=ptE p:=by rw[←Q4];rfl
 rw[eS] at hS
 have hE:=T4 p.f p.r h.m.m.f.n (by have:=h.m.m.r.l;omega)
 have hN:=Y6 p.f p.r h.m.m.f h.m.m.r w1
 have hB:=Y2 p.s.toNat (by unfold rsW at w2;omega)
 have hq:=Ez p.s.toNat
 have hW1:=D2 2 1 false (C9 p.s.toNat) (by omega) (by omega) (by omega)
 have hG:=Wp p.i h.m.i
 have hJ:=bS 0 16 true (B7 p.i) (by omega) (by omega) (by omega)
 have hW2:=D2 2 2 true (B7 p.i) (by omega) (by omega) (by omega)
 have hin:=h.m.i.n
 unfold Lw at hS
 generalize ptE p=R at hS⊢
 clear hw eS hl hr
 obtain⟨f,r,s,i⟩:=p
 simp only at*
 clear h hs
 obtain⟨n,rfl⟩:=Int.eq_ofNat_of_zero_le w2.1
 rw[Int.toNat_natCast] at*
 have hk:(Lv f r=true∧¬(f≠[]∨r≠[]))∨(Lv f r=false∧(f≠[]∨r≠[])):=by
  cases e:Lv f r
  ·exact .inr ⟨rfl,Je.1 e⟩
  ·refine .inl ⟨rfl,fun h=> ?_⟩
   rw[Je.2 h] at e;cases e
 have hn0:(n=0∧((n:Int) !=0)=false∧¬((n:Int)≠0))∨(((n:Int) !=0)=true∧(n:Int)≠0):=by
  by_cases h:n=0
  ·exact .inl ⟨h,by rw[h];rfl,by omega⟩
  ·exact .inr ⟨by rw[bne_iff_ne];omega,by omega⟩
 have hi0:(i=[]∧¬(i≠[]))∨(i≠[]∧decide ((i.length:Int)>0)=true∧M2 i=true):=by
  by_cases h:i=[]
  ·exact .inl ⟨h,fun a=>a h⟩
  ·exact .inr ⟨h,R4 h,by rw[Q3 h];exact w3.resolve_left h⟩
 generalize C9 n=sl at hB hW1 hS hq
 generalize Ah 2 1 false sl=p1 at hW1 hS
 generalize nmC f r=nc at hN hS
 generalize Ah 2 0 true nc=p0 at hN hS
 generalize Ah 2 2 true (B7 i)=p2 at hW2 hS
 clear hq w4
 rcases hi0 with⟨rfl,i1⟩|⟨i1,gi,gw⟩
 all_goals rcases hk with⟨em,e0⟩|⟨em,e0⟩
 all_goals rcases hn0 with⟨rfl,gn,n0⟩|⟨gn,n0⟩
 all_goals
  rw[em] at hE
  first|rw[if_neg i1] at hS|(rw[if_pos i1] at hS;rw[gw] at hG;have hG:Ab Tryz.prog 48 [.d (G3 i)] (fun q=>q= .tup [A7 0 5 (Ah 0 16 true (B7 i)),iv 0]):=hG)
  first|rw[if_neg e0] at hS|(rw[if_pos e0] at hS;have hN:=hN e0 hf)
  first|rw[if_neg n0] at hS|rw[if_pos n0] at hS
  simp only[List.nil_append,List.cons_append,List.append_nil] at hS
  refine acQ 54 Tryz.func15 rfl rfl fun _ _ _=> ?_
  (repeat'((conv=>whnf);first|refine zP ?_|refine zN ?_|refine Ac ?_|refine Ae ?_|refine Aa hV Ff ?_|refine Aa hE Ff ?_|refine Aa hN Ff ?_|(refine NStep.inl 200 32 _ Cs mixed rfl rfl rfl Tryz.func46 rfl (by kernel_rfl) rfl rfl rfl rfl (fun gh=> ?_))|(refine NStep.inl 300 25 _ Cs mixed rfl rfl rfl Tryz.func44 rfl (by kernel_rfl) rfl rfl rfl rfl (fun gh=> ?_))|(refine NStep.inl 400 20 _ Cs mixed rfl rfl rfl Tryz.func50 rfl (by kernel_rfl) rfl rfl rfl rfl (fun gh=> ?_))|refine Aa hB rfl ?_|refine Aa hW1 Ff ?_|refine Aa hG Ff ?_|refine Aa hJ Ff ?_|refine Aa hW2 Ff ?_|refine As (fE 0 rfl rfl rfl (ltN rfl) rfl rfl) ?_|refine As (Hw rfl rfl (ltN rfl) rfl) ?_|(refine E2 1 _ ?_)|(refine E2 2 _ ?_)|(refine E2 3 _ ?_)|refine Aa hS Ff ?_|refine Be hS Oo ?_|exact zE))
def GQ (u c a:Bool):Bool:= !(u&&c)&&(!(u&&a)&& !(c&&a))
theorem MJ (x:Iss):isW x=(plV x.f x.r x.s&&(GQ x.u x.c x.a&&(!Lv x.f x.r||(x.u||(x.c||x.a))||x.n||(x.s !=0)))):=by
 obtain⟨f,r,u,c,n,a,s⟩:=x
 have e:=@Je f r
 unfold isW plV Qx Sy GQ
 simp only
 rw[Bool.eq_iff_iff]
 simp only[decide_eq_true_iff,At,Bool.or_eq_true,Bool.not_eq_true',bne_iff_ne,e]
 cases u<;>cases c<;>cases a<;>simp[and_assoc,or_assoc]
theorem mG {p:Prop} (h:p:=by first|rfl|(simp only[AV.gives,AV.ren,AV.give,D.un,D.uns,Aj,Am,List.nil_append,List.append_nil,List.cons_append,AV.share,AV.shares,Av,A6,Cc,Bn,A8,B5,Cj,B6,Bk,Bw,Bd];first|done|rfl)):p:=h
theorem R7 (x:Iss) (h:nmM x.f x.r) (hs:N4 x.s):Ab Tryz.prog 22 [diA x] (fun q=>q=bv (isW x)):=by
 have hV:=pI x.f x.r x.s h.f h.r hs
 have hE:=T4 x.f x.r h.f.n (by have:=h.r.l;omega)
 rw[MJ]
 obtain⟨f,r,u,c,n,a,s⟩:=x
 simp only at hV hE⊢
 clear h hs
 generalize plV f r s=w at hV⊢
 generalize Lv f r=m at hE⊢
 cases w
 ·cases u<;>cases c<;>cases a
  all_goals
   refine acQ 50 Tryz.func22 rfl rfl fun _ _ _=> ?_
   (repeat'((conv=>whnf);first|refine Ac ?_|refine Ae ?_|refine Aa hV mG ?_|(refine Om 100 6 #[] Cs mixed rfl rfl rfl rfl Tryz.func57 rfl (by kernel_rfl) rfl rfl rfl rfl (fun gh=> ?_))|(with_reducible refine NInt.i64 ?_)|exact zE))
 ·cases u<;>cases c<;>cases a<;>cases m<;>cases n
  all_goals
   refine acQ 50 Tryz.func22 rfl rfl fun _ _ _=> ?_
   (repeat'((conv=>whnf);first|refine Ac ?_|refine Ae ?_|refine Aa hV mG ?_|refine Aa hE mG ?_|(refine Om 100 6 #[] Cs mixed rfl rfl rfl rfl Tryz.func57 rfl (by kernel_rfl) rfl rfl rfl rfl (fun gh=> ?_))|(with_reducible refine NInt.i64 ?_)|exact zE))
end Go.Proofs.YtaoahmplnckhpaaGreatDoor
