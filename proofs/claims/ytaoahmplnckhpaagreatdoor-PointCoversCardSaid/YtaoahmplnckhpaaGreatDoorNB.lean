/- NB: the texts PtP PtQ PtR PtL Pla Plm Pli, one behind the other. No condition but what each lemma says. -/
import Derived.Test.YtaoahmplnckhpaaGreatDoorMW
import Derived.Test.YtaoahmplnckhpaaGreatDoorNA
namespace Go.Proofs.YtaoahmplnckhpaaGreatDoor
open Go.RowKit
set_option maxRecDepth 100000
inductive Vl where
 |nm (f:List Gn) (r:List Att)
 |rs (s:Nat)
 |is (i:List Gn)
 |fl
def E1 (r:List Att):List UInt8:=(r.map atE).flatten
def nmC (f:List Gn) (r:List Att):List UInt8:=if f=[] then Ao 2 1 true (E1 r) else Ao 2 0 true (Di f)
def vlC:Vl→List UInt8
 | .nm f r=>nmC f r
 | .rs s=>Hj s
 | .is i=>Di i
 | .fl=>[255]
def vlK:Vl→Bool
 | .nm _ _=>true
 | .rs _=>false
 | .is _=>true
 | .fl=>false
abbrev vlT (p:Nat×Vl):Tv:=⟨2,p.1,vlK p.2,vlC p.2⟩
def vlW (k:UInt8):Vl→Prop
 | .nm f r=>k=110∧((f≠[]∧r=[]∧f.all gnW=true)∨(f=[]∧Ea r=true))
 | .rs s=>k=114∧0<s∧s<512
 | .is i=>k=105∧i≠[]∧i.all gnW=true
 | .fl=>k=102
def Vl.mid:Vl→Prop
 | .nm f r=>gnsM f∧rdnZ r
 | .rs _=>True
 | .is i=>gnsM i
 | .fl=>True
def Sp (c:List UInt8):Option (List Gn):=(yF (Ao 0 16 true c)).1
def Sq (c:List UInt8):Option Vl:=match Cy c 0 with
 |some d=>(Sp d).map fun f=> .nm f []
 |none=>match Cy c 1 with
  |some d=>(Mc (Ao 0 17 true d)).1.map fun r=> .nm [] r
  |none=>none
def vlO (k:UInt8) (c:List UInt8):Option Vl:=if k=110 then Sq c else if k=114 then(yI c).map .rs else if k=105 then(Sp c).map .is else if c=[255] then some .fl else none
theorem Sr {l:List Gn} (h0:l≠[]) (h:l.all gnW=true) (hs:gnsM l):Sp (Di l)=some l:=by
 have:=yG h0 h hs
 show(yF (Zx l)).1=_
 rw[this]
theorem eK {n m:Nat} {v:List UInt8} (hn:n≤30) (hv:v.length≤2147483600) (h:n≠m):Cy (Ao 2 n true v) m=none:=by
 have:=Sj (t:=⟨2,n,true,v⟩) ⟨by show(2:Nat)≤3;omega,hn,by show v.length≤_;omega⟩ m
 rw[if_neg (by simp;exact fun e=>h e)] at this
 exact this
theorem eL {f:List Gn} {r:List Att} (h:(f≠[]∧r=[]∧f.all gnW=true)∨(f=[]∧Ea r=true)) (hs:gnsM f∧rdnZ r):Sq (nmC f r)=some (.nm f r):=by
 rcases h with⟨h0,rfl,h1⟩|⟨rfl,h1⟩
 ·have:=hs.1.e
  unfold Sq nmC
  rw[if_neg h0,Hg (by omega) (by show(Di f).length≤_;unfold Di;omega)]
  show(Sp (Di f)).map _=_
  rw[Sr h0 h1 hs.1];rfl
 ·have:=hs.2.e
  unfold Sq nmC
  rw[if_pos rfl,eK (by omega) (by unfold E1;omega) (by omega),Hg (by omega) (by unfold E1;omega)]
  show((Mc (C8 r)).1).map _=_
  rw[Nr h1 hs.2];rfl
theorem yM {k:UInt8} {v:Vl} (h:vlW k v) (hs:v.mid):vlO k (vlC v)=some v:=by
 cases v with
 |nm f r=>
  obtain⟨rfl,h⟩:=h
  show Sq (nmC f r)=_
  exact eL h hs
 |rs s=>
  obtain⟨rfl,h0,h1⟩:=h
  show(yI (Hj s)).map Vl.rs=_
  rw[tR h1 (by omega)];rfl
 |is i=>
  obtain⟨rfl,h0,h1⟩:=h
  show(Sp (Di i)).map Vl.is=_
  rw[Sr h0 h1 hs];rfl
 |fl=>
  obtain rfl:k=102:=h
  rfl
def EQ (k:UInt8):Bool:=k==110||k==105
theorem yN {k:UInt8} {v:Vl} (h:vlW k v):vlK v=EQ k:=by
 cases v with
 |nm f r=>obtain⟨rfl,-⟩:=h;rfl
 |rs s=>obtain⟨rfl,-⟩:=h;rfl
 |is i=>obtain⟨rfl,-⟩:=h;rfl
 |fl=>obtain rfl:k=102:=h;rfl
structure Dr where
 f:List Gn
 r:List Att
 s:Nat
 i:List Gn
 fl:Nat→Bool
def dr0:Dr:=⟨[],[],0,[],fun _=>false⟩
def Dr.set (d:Dr) (n:Nat):Vl→Dr
 | .nm f r=>if f=[] then{d with r:=r} else{d with f:=f}
 | .rs s=>{d with s:=s}
 | .is i=>{d with i:=i}
 | .fl=>{d with fl:=fun m=>m==n||d.fl m}
def drF (b k:List UInt8):List El→Int→Dr→Option Dr×Nat×Nat
 |[],_,d=>(some d,0,0)
 |x::l,last,d=>if x.c≠2∨k.length≤x.n∨(x.n:Int)≤last then(none,3,x.at') else if x.k≠EQ (k.getD x.n 0) then(none,3,x.at') else match vlO (k.getD x.n 0) (bod b x) with
  |none=>(none,6,x.body)
  |some v=>drF b k l x.n (d.set x.n v)
def rdD (b k:List UInt8):Option Dr×Nat×Nat:=if(A6 b 0 16).code≠0 then(none,(A6 b 0 16).code,(A6 b 0 16).off) else drF b k (A6 b 0 16).l (-1) dr0
def asc (m:Nat):Int→List (Nat×Vl)→Prop
 |_,[]=>True
 |last,p::r=>last<p.1∧p.1<m∧asc m p.1 r
def Nu (d:Dr) (vs:List (Nat×Vl)):Dr:=vs.foldl (fun d p=>d.set p.1 p.2) d
def vsW (k:List UInt8) (vs:List (Nat×Vl)):Prop:=∀p∈vs,vlW (k.getD p.1 0) p.2
theorem iN {b k:List UInt8}:∀(vs:List (Nat×Vl)) (a:Nat) (last:Int) (d:Dr),(els a (vs.map vlT)).map (elO b)=(vs.map vlT).map Tv.enc→(∀x∈els a (vs.map vlT),x.stop≤b.length)→asc k.length last vs→vsW k vs→(∀p∈vs,p.2.mid)→drF b k (els a (vs.map vlT)) last d=(some (Nu d vs),0,0)
 |[],_,_,_,_,_,_,_,_=>rfl
 |p::vs,a,last,d,h,hin,ha,hw,hm=>by
  rw[List.map_cons] at h hin⊢
  obtain⟨e1,e2,e3,e4,e5,e6⟩:=yH h hin
  obtain⟨a1,a2,a3⟩:=ha
  have hw0:=hw p (by simp)
  rw[e1,drF]
  have c1:((vlT p).el a).c=2:=rfl
  have c2:((vlT p).el a).n=p.1:=rfl
  have c3:((vlT p).el a).k=vlK p.2:=rfl
  rw[if_neg (by rw[c1,c2];simp only[ne_eq,not_true_eq_false,false_or,not_or];omega),if_neg (by rw[c3,c2,yN hw0];simp),e2,c2]
  show(match vlO (k.getD p.1 0) (vlC p.2) with|none=>(none,6,((vlT p).el a).body)|some v=>drF b k (els (a+(vlT p).enc.length) (vs.map vlT)) p.1 (d.set p.1 v))=_
  rw[yM hw0 (hm p (by simp))]
  exact iN vs _ p.1 (d.set p.1 p.2) e5 e6 a3 (fun q hq=>hw q (by simp[hq])) fun q hq=>hm q (by simp[hq])
def vsB (vs:List (Nat×Vl)):List (List UInt8):=vs.map fun p=>(vlT p).enc
def vsE (vs:List (Nat×Vl)):List UInt8:=Ao 0 16 true (vsB vs).flatten
theorem tU (vs:List (Nat×Vl)):(vsB vs).flatten=Dg (vs.map vlT):=by
 rw[Np,List.map_map];rfl
theorem iO {k:List UInt8} {vs:List (Nat×Vl)} (ha:asc k.length (-1) vs) (hw:vsW k vs) (hm:∀p∈vs,p.2.mid) (hn:k.length≤30) (hc:∀p∈vs,(vlC p.2).length≤900000000) (hl:(vsB vs).flatten.length≤2147483647):rdD (vsE vs) k=(some (Nu dr0 vs),0,0):=by
 have hlt:∀(vs:List (Nat×Vl)) (last:Int),asc k.length last vs→∀p∈vs,p.1<k.length:=by
  intro vs
  induction vs with
  |nil=>intro _ _ p hp;cases hp
  |cons q r ih=>
   intro last h p hp
   rcases List.mem_cons.1 hp with rfl|hp
   ·exact h.2.1
   ·exact ih _ h.2.2 p hp
 have tok:∀t∈vs.map vlT,t.ok:=fun t ht=>by
  obtain⟨p,hp,rfl⟩:=List.mem_map.1 ht
  have:=hc p hp
  have:=hlt vs _ ha p hp
  exact⟨by show(2:Nat)≤3;omega,by show p.1≤30;omega,by show(vlC p.2).length≤_;omega⟩
 rw[tU] at hl
 obtain⟨q,p1,p2,-,-⟩:=eH (c:=0) (n:=16) (vs.map vlT) (by omega) (by omega) tok hl
 have hb:vsE vs=Ao 0 16 true (Dg (vs.map vlT)):=by unfold vsE;rw[tU]
 rw[hb]
 generalize Ao 0 16 true (Dg (vs.map vlT))=b at p1 p2
 have hin:∀x∈els q (vs.map vlT),x.stop≤b.length:=fun x hx=>by
  have:=Ga (b:=b) (c:=0) (n:=16) (x:=x) (by rw[p1];exact hx)
  omega
 unfold rdD
 rw[p1,if_neg (by simp)]
 exact iN vs q (-1) dr0 p2 hin ha hw hm
structure Pt where
 f:List Gn
 r:List Att
 s:Int
 i:List Gn
 deriving DecidableEq
structure Iss where
 f:List Gn
 r:List Att
 u:Bool
 c:Bool
 n:Bool
 a:Bool
 s:Int
 deriving DecidableEq
def opt (n:Nat) (c:Prop) [Decidable c] (v:Vl):List (Nat×Vl):=if c then [(n,v)] else []
def nmW (f:List Gn) (r:List Att):Prop:=(f=[]∨r=[]∧f.all gnW=true)∧(r=[]∨Ea r=true)
instance (f:List Gn) (r:List Att):Decidable (nmW f r):=by unfold nmW;infer_instance
def rsW (s:Int):Prop:=0≤s∧s<512
instance (s:Int):Decidable (rsW s):=by unfold rsW;infer_instance
def Mi (p:Pt):List (Nat×Vl):=opt 0 (p.f≠[]∨p.r≠[]) (.nm p.f p.r)++(opt 1 (p.s≠0) (.rs p.s.toNat)++opt 2 (p.i≠[]) (.is p.i))
def Mj (x:Iss):List (Nat×Vl):=opt 0 (x.f≠[]∨x.r≠[]) (.nm x.f x.r)++(opt 1 (x.u=true) .fl++(opt 2 (x.c=true) .fl++(opt 3 (x.s≠0) (.rs x.s.toNat)++(opt 4 (x.n=true) .fl++opt 5 (x.a=true) .fl))))
def ptE (p:Pt):List UInt8:=vsE (Mi p)
def isE (x:Iss):List UInt8:=vsE (Mj x)
def ptW (p:Pt):Bool:=decide (nmW p.f p.r∧rsW p.s∧(p.i=[]∨p.i.all gnW=true)∧(p.f≠[]∨p.r≠[]∨p.i≠[]))
def Pi (x:Iss):Prop:=¬(x.u=true∧x.c=true)∧¬(x.u=true∧x.a=true)∧¬(x.c=true∧x.a=true)
def Pj (x:Iss):Prop:=x.f≠[]∨x.r≠[]∨x.u=true∨x.c=true∨x.n=true∨x.a=true∨x.s≠0
instance (x:Iss):Decidable (Pi x):=by unfold Pi;infer_instance
instance (x:Iss):Decidable (Pj x):=by unfold Pj;infer_instance
def isW (x:Iss):Bool:=decide (nmW x.f x.r∧rsW x.s∧Pi x∧Pj x)
abbrev k3:List UInt8:=[110,114,105]
abbrev k6:List UInt8:=[110,102,102,114,102,102]
theorem Hh (d:Dr) (a b:List (Nat×Vl)):Nu d (a++b)=Nu (Nu d a) b:=List.foldl_append
theorem Nv (d:Dr) (n:Nat) (c:Prop) [Decidable c] (v:Vl):Nu d (opt n c v)=if c then d.set n v else d:=by
 unfold opt
 split<;>rfl
theorem iP {f:List Gn} {r:List Att} (h:nmW f r):Nu dr0 (opt 0 (f≠[]∨r≠[]) (.nm f r))=⟨f,r,0,[],fun _=>false⟩:=by
 rw[Nv]
 by_cases h0:f=[]
 ·subst h0
  by_cases h1:r=[]
  ·subst h1;rfl
  ·rw[if_pos (.inr h1)];rfl
 ·obtain⟨h|⟨rfl,-⟩,-⟩:=h
  ·exact absurd h h0
  ·rw[if_pos (.inl h0)]
   show(if f=[] then _ else _)=_
   rw[if_neg h0];rfl
theorem iQ (d:Dr) (n:Nat) {s:Int} (h:rsW s) (h0:d.s=0):Nu d (opt n (s≠0) (.rs s.toNat))={d with s:=s.toNat}:=by
 rw[Nv]
 by_cases hs:s=0
 ·subst hs
  rw[if_neg (by simp)]
  obtain⟨f,r,s,i,fl⟩:=d
  simp only at h0
  subst h0;rfl
 ·rw[if_pos hs];rfl
theorem yO (d:Dr) (n:Nat) {i:List Gn} (h0:d.i=[]):Nu d (opt n (i≠[]) (.is i))={d with i:=i}:=by
 rw[Nv]
 by_cases hs:i=[]
 ·subst hs
  rw[if_neg (by simp)]
  obtain⟨f,r,s,i,fl⟩:=d
  simp only at h0
  subst h0;rfl
 ·rw[if_pos hs];rfl
theorem Qb (d:Dr) (n:Nat) (b:Bool):Nu d (opt n (b=true) .fl)={d with fl:=fun m=>(b&&m==n)||d.fl m}:=by
 rw[Nv]
 cases b
 ·rw[if_neg (by simp)]
  obtain⟨f,r,s,i,fl⟩:=d
  simp only[Bool.false_and,Bool.false_or]
 ·rw[if_pos rfl]
  show({d with fl:=fun m=>m==n||d.fl m}:Dr)=_
  simp only[Bool.true_and]
def CT (d:Dr):Pt:=⟨d.f,d.r,d.s,d.i⟩
def CU (d:Dr):Iss:=⟨d.f,d.r,d.fl 1,d.fl 2,d.fl 4,d.fl 5,d.s⟩
theorem yP {p:Pt} (h:nmW p.f p.r) (hs:rsW p.s):CT (Nu dr0 (Mi p))=p:=by
 obtain⟨f,r,s,i⟩:=p
 unfold Mi
 simp only at h hs⊢
 rw[Hh,iP h,Hh,iQ _ 1 hs rfl,yO _ 2 rfl]
 obtain⟨h0,-⟩:=hs
 show Pt.mk f r (s.toNat:Int) i=_
 rw[Int.toNat_of_nonneg h0]
theorem yQ {x:Iss} (h:nmW x.f x.r) (hs:rsW x.s):CU (Nu dr0 (Mj x))=x:=by
 obtain⟨f,r,u,c,n,a,s⟩:=x
 unfold Mj
 simp only at h hs⊢
 rw[Hh,iP h,Hh,Qb,Hh,Qb,Hh,iQ _ 3 hs rfl,Hh,Qb,Qb]
 obtain⟨h0,-⟩:=hs
 show Iss.mk f r _ _ _ _ (s.toNat:Int)=_
 rw[Int.toNat_of_nonneg h0]
 cases u<;>cases c<;>cases n<;>cases a<;>rfl
def ptP (b:List UInt8):Option Pt×Nat×Nat:=match rdD b k3 with
 |(none,c,o)=>(none,c,o)
 |(some d,_)=>if ptW (CT d)=true then(some (CT d),0,0) else(none,6,0)
def isP (b:List UInt8):Option Iss×Nat×Nat:=match rdD b k6 with
 |(none,c,o)=>(none,c,o)
 |(some d,_)=>if isW (CU d)=true then(some (CU d),0,0) else(none,6,0)
structure nmM (f:List Gn) (r:List Att):Prop where
 f:gnsM f
 r:rdnZ r
structure Pt.mid (p:Pt):Prop where
 m:nmM p.f p.r
 i:gnsM p.i
theorem Df {n:Nat} {c:Prop} [Decidable c] {v:Vl} {p:Nat×Vl} (h:p∈opt n c v):c∧p=(n,v):=by
 unfold opt at h
 by_cases hc:c
 ·rw[if_pos hc,List.mem_singleton] at h;exact⟨hc,h⟩
 ·rw[if_neg hc] at h;cases h
theorem Jj {m n:Nat} {last:Int} {c:Prop} [Decidable c] {v:Vl} {vs:List (Nat×Vl)} (h1:last<n) (h2:n<m) (h:∀l:Int,l≤n→asc m l vs):asc m last (opt n c v++vs):=by
 unfold opt
 split
 ·exact⟨h1,h2,h n (Int.le_refl _)⟩
 ·exact h last (by omega)
theorem aA {m n:Nat} {c:Prop} [Decidable c] {v:Vl} (h2:n<m):∀l:Int,l<n→asc m l (opt n c v):=fun l hl=>by
 unfold opt
 split
 ·exact⟨hl,h2,trivial⟩
 ·trivial
theorem CV (p:Pt):asc 3 (-1) (Mi p):=by
 unfold Mi
 exact Jj (by omega) (by omega) fun l hl=>Jj (by omega) (by omega) fun l hl=>aA (by omega) l (by omega)
theorem CW (x:Iss):asc 6 (-1) (Mj x):=by
 unfold Mj
 exact Jj (by omega) (by omega) fun l hl=>Jj (by omega) (by omega) fun l hl=>Jj (by omega) (by omega) fun l hl=>Jj (by omega) (by omega) fun l hl=>Jj (by omega) (by omega) fun l hl=>aA (by omega) l (by omega)
theorem tV {f:List Gn} {r:List Att} (h:nmW f r) (h0:f≠[]∨r≠[]):vlW 110 (.nm f r):=by
 refine⟨rfl,?_⟩
 obtain⟨h1,h2⟩:=h
 by_cases hf:f=[]
 ·exact .inr ⟨hf,h2.resolve_left (h0.resolve_left fun h=>h hf)⟩
 ·obtain⟨a,b⟩:=h1.resolve_left hf
  exact .inl ⟨hf,a,b⟩
theorem tW {s:Int} (h:rsW s) (h0:s≠0):vlW 114 (.rs s.toNat):=⟨rfl,by unfold rsW at h;omega,by unfold rsW at h;omega⟩
theorem CX {p:Pt} (h:nmW p.f p.r) (hs:rsW p.s) (hi:p.i=[]∨p.i.all gnW=true):vsW k3 (Mi p):=by
 intro q hq
 unfold Mi at hq
 simp only[List.mem_append] at hq
 rcases hq with hq|hq|hq
 ·obtain⟨h0,rfl⟩:=Df hq
  exact tV h h0
 ·obtain⟨h0,rfl⟩:=Df hq
  exact tW hs h0
 ·obtain⟨h0,rfl⟩:=Df hq
  exact⟨rfl,h0,hi.resolve_left h0⟩
theorem CY {x:Iss} (h:nmW x.f x.r) (hs:rsW x.s):vsW k6 (Mj x):=by
 intro q hq
 unfold Mj at hq
 simp only[List.mem_append] at hq
 rcases hq with hq|hq|hq|hq|hq|hq
 ·obtain⟨h0,rfl⟩:=Df hq
  exact tV h h0
 ·obtain⟨h0,rfl⟩:=Df hq
  rfl
 ·obtain⟨h0,rfl⟩:=Df hq
  rfl
 ·obtain⟨h0,rfl⟩:=Df hq
  exact tW hs h0
 ·obtain⟨h0,rfl⟩:=Df hq
  rfl
 ·obtain⟨h0,rfl⟩:=Df hq
  rfl
def Vl.sz (v:Vl):Prop:=v.mid∧(vlC v).length≤850000000
theorem I2 (s:Nat):(Hj s).length≤3:=by
 unfold Hj
 split
 ·simp
 ·split<;>simp
theorem Nw {f:List Gn} {r:List Att} (h:nmM f r):(nmC f r).length≤(Di f).length+(E1 r).length+6:=by
 have a:=h.f.e
 have b:=h.r.e
 have e1:=A2 2 1 true (E1 r) (by unfold E1;omega)
 have e2:=A2 2 0 true (Di f) (by unfold Di;omega)
 unfold nmC
 split<;>omega
theorem Jk {n:Nat} {c:Prop} [Decidable c] {v:Vl} (h:(vlC v).length≤900000000):(vsB (opt n c v)).flatten.length≤(vlC v).length+6:=by
 unfold opt vsB
 split
 ·have:=A2 2 n (vlK v) (vlC v) (by omega)
  have e:(vlT (n,v)).enc=Ao 2 n (vlK v) (vlC v):=rfl
  simp only[List.map_cons,List.map_nil,List.flatten_cons,List.flatten_nil,List.append_nil]
  rw[e];omega
 ·simp
theorem Ed (a b:List (Nat×Vl)):vsB (a++b)=vsB a++vsB b:=List.map_append
theorem eM {p:Pt} (h:p.mid) (hf:(Di p.f).length≤400000000) (hi:(Di p.i).length≤400000000):(vsB (Mi p)).flatten.length≤(Di p.f).length+(E1 p.r).length+(Di p.i).length+40:=by
 have hc:=Nw h.m
 have hr:(E1 p.r).length≤90000000:=h.m.r.e
 have hs:=I2 p.s.toNat
 have a:=Jk (n:=0) (c:=p.f≠[]∨p.r≠[]) (v:= .nm p.f p.r) (by show(nmC p.f p.r).length≤_;omega)
 have b:=Jk (n:=1) (c:=p.s≠0) (v:= .rs p.s.toNat) (by show(Hj p.s.toNat).length≤_;omega)
 have c:=Jk (n:=2) (c:=p.i≠[]) (v:= .is p.i) (by show(Di p.i).length≤_;omega)
 have a':(vlC (.nm p.f p.r)).length=(nmC p.f p.r).length:=rfl
 have b':(vlC (.rs p.s.toNat)).length=(Hj p.s.toNat).length:=rfl
 have c':(vlC (.is p.i)).length=(Di p.i).length:=rfl
 unfold Mi
 rw[Ed,Ed,List.flatten_append,List.flatten_append,Aj,Aj]
 omega
theorem eO {x:Iss} (h:nmM x.f x.r) (hf:(Di x.f).length≤400000000):(vsB (Mj x)).flatten.length≤(Di x.f).length+(E1 x.r).length+70:=by
 have hc:=Nw h
 have hr:(E1 x.r).length≤90000000:=h.r.e
 have hs:=I2 x.s.toNat
 have a:=Jk (n:=0) (c:=x.f≠[]∨x.r≠[]) (v:= .nm x.f x.r) (by show(nmC x.f x.r).length≤_;omega)
 have b:=Jk (n:=3) (c:=x.s≠0) (v:= .rs x.s.toNat) (by show(Hj x.s.toNat).length≤_;omega)
 have hl:(vlC .fl).length=1:=rfl
 have c1:=Jk (n:=1) (c:=x.u=true) (v:= .fl) (by omega)
 have c2:=Jk (n:=2) (c:=x.c=true) (v:= .fl) (by omega)
 have c3:=Jk (n:=4) (c:=x.n=true) (v:= .fl) (by omega)
 have c4:=Jk (n:=5) (c:=x.a=true) (v:= .fl) (by omega)
 have a':(vlC (.nm x.f x.r)).length=(nmC x.f x.r).length:=rfl
 have b':(vlC (.rs x.s.toNat)).length=(Hj x.s.toNat).length:=rfl
 unfold Mj
 rw[Ed,Ed,Ed,Ed,Ed]
 simp only[List.flatten_append,Aj]
 omega
theorem Lf {p:Pt}:ptW p=true↔nmW p.f p.r∧rsW p.s∧(p.i=[]∨p.i.all gnW=true)∧(p.f≠[]∨p.r≠[]∨p.i≠[]):=by
 unfold ptW;exact decide_eq_true_iff
theorem Nx {x:Iss}:isW x=true↔nmW x.f x.r∧rsW x.s∧Pi x∧Pj x:=by
 unfold isW;exact decide_eq_true_iff
theorem CZ {p:Pt} (h:ptW p=true) (hs:p.mid) (hf:(Di p.f).length≤400000000) (hi:(Di p.i).length≤400000000):ptP (ptE p)=(some p,0,0):=by
 obtain⟨h1,h2,h3,-⟩:=Lf.1 h
 have hl:=eM hs hf hi
 have hr:(E1 p.r).length≤90000000:=hs.m.r.e
 have hc:=Nw hs.m
 have hq:=I2 p.s.toNat
 have hmem:∀q∈Mi p,q.2.mid∧(vlC q.2).length≤900000000:=fun q hq'=>by
  unfold Mi at hq'
  simp only[List.mem_append] at hq'
  rcases hq' with hq'|hq'|hq'
  ·obtain⟨-,rfl⟩:=Df hq'
   exact⟨⟨hs.m.f,hs.m.r⟩,by show(nmC p.f p.r).length≤_;omega⟩
  ·obtain⟨-,rfl⟩:=Df hq'
   exact⟨trivial,by show(Hj p.s.toNat).length≤_;omega⟩
  ·obtain⟨-,rfl⟩:=Df hq'
   exact⟨hs.i,by show(Di p.i).length≤_;omega⟩
 have:=iO (k:=k3) (CV p) (CX h1 h2 h3) (fun q hq=>(hmem q hq).1) (by simp) (fun q hq=>(hmem q hq).2) (by omega)
 unfold ptP ptE
 rw[this]
 simp only
 rw[yP h1 h2,if_pos h]
theorem DA {x:Iss} (h:isW x=true) (hs:nmM x.f x.r) (hf:(Di x.f).length≤400000000):isP (isE x)=(some x,0,0):=by
 obtain⟨h1,h2,-⟩:=Nx.1 h
 have hl:=eO hs hf
 have hr:(E1 x.r).length≤90000000:=hs.r.e
 have hc:=Nw hs
 have hq:=I2 x.s.toNat
 have hmem:∀q∈Mj x,q.2.mid∧(vlC q.2).length≤900000000:=fun q hq'=>by
  unfold Mj at hq'
  simp only[List.mem_append] at hq'
  rcases hq' with hq'|hq'|hq'|hq'|hq'|hq'
  ·obtain⟨-,rfl⟩:=Df hq'
   exact⟨⟨hs.f,hs.r⟩,by show(nmC x.f x.r).length≤_;omega⟩
  ·obtain⟨-,rfl⟩:=Df hq'
   exact⟨trivial,by show(1:Nat)≤_;omega⟩
  ·obtain⟨-,rfl⟩:=Df hq'
   exact⟨trivial,by show(1:Nat)≤_;omega⟩
  ·obtain⟨-,rfl⟩:=Df hq'
   exact⟨trivial,by show(Hj x.s.toNat).length≤_;omega⟩
  ·obtain⟨-,rfl⟩:=Df hq'
   exact⟨trivial,by show(1:Nat)≤_;omega⟩
  ·obtain⟨-,rfl⟩:=Df hq'
   exact⟨trivial,by show(1:Nat)≤_;omega⟩
 have:=iO (k:=k6) (CW x) (CY h1 h2) (fun q hq=>(hmem q hq).1) (by simp) (fun q hq=>(hmem q hq).2) (by omega)
 unfold isP isE
 rw[this]
 simp only
 rw[yQ h1 h2,if_pos h]
def is0:Iss:=⟨[],[],false,false,false,false,0⟩
theorem aB:rdnZ []:=⟨by simp,(fun g hg=>by cases hg),by simp⟩
structure nmZZ (f:List Gn) (r:List Att):Prop where
 f:gnsZ f
 r:rdnZ r
structure Pt.z (p:Pt):Prop where
 m:nmZZ p.f p.r
 i:gnsZ p.i
structure Pt.sm (p:Pt):Prop where
 m:p.mid
 f:(Di p.f).length≤400000000
 i:(Di p.i).length≤400000000
structure Iss.sm (x:Iss):Prop where
 m:nmM x.f x.r
 f:(Di x.f).length≤400000000
theorem aC:gnsM []:=⟨by simp,(fun g hg=>by cases hg),by simp⟩
theorem Pt.sm.put {p:Pt} (h:ptW p=true) (hs:p.sm):ptP (ptE p)=(some p,0,0):=CZ h hs.m hs.f hs.i
theorem Iss.sm.put {x:Iss} (h:isW x=true) (hs:x.sm):isP (isE x)=(some x,0,0):=DA h hs.m hs.f
def Ss (p:Pt):Bool:=Dw p.f&&(Dp p.r&&Dw p.i)
def St (x:Iss):Bool:=Dw x.f&&Dp x.r
theorem tX {f:List Gn} {r:List Att} (h1:Dw f=true) (h2:Dp r=true):nmM f r∧(Di f).length≤187136∧(E1 r).length≤3702:=by
 obtain⟨-,a,b⟩:=Sm h1
 obtain⟨c,d⟩:=Mh h2
 obtain⟨-,-,e⟩:=Gw h2
 have:=E7 0 17 true (E1 r)
 have:(C8 r).length=(Ao 0 17 true (E1 r)).length:=rfl
 exact⟨⟨a,c⟩,b,by omega⟩
theorem tY {p:Pt} (h:Ss p=true):p.sm∧(ptE p).length≤379000:=by
 unfold Ss at h
 rw[Ap,Ap] at h
 obtain⟨a,b,c⟩:=tX h.1 h.2.1
 obtain⟨-,d,e⟩:=Sm h.2.2
 have e:(Di p.i).length≤187136:=e
 have hs:p.sm:=⟨⟨a,d⟩,by omega,by omega⟩
 have hl:=eM hs.m hs.f hs.i
 have:=A2 0 16 true (vsB (Mi p)).flatten (by omega)
 exact⟨hs,by show(Ao 0 16 true (vsB (Mi p)).flatten).length≤_;omega⟩
theorem tZ {x:Iss} (h:St x=true):x.sm∧(isE x).length≤379000:=by
 unfold St at h
 rw[Ap] at h
 obtain⟨a,b,c⟩:=tX h.1 h.2
 have hs:x.sm:=⟨a,by omega⟩
 have hl:=eO hs.m hs.f
 have:=A2 0 16 true (vsB (Mj x)).flatten (by omega)
 exact⟨hs,by show(Ao 0 16 true (vsB (Mj x)).flatten).length≤_;omega⟩
set_option maxHeartbeats 16000000
def Ny (s:Int):Prop:= -9223372036854775808≤s∧s≤9223372036854775807
abbrev dpA (p:Pt):AV:= .agg [.d (Ch p.f),.d (Dm p.r),iv p.s,.d (Ch p.i)]
abbrev diA (x:Iss):AV:= .agg [.d (Ch x.f),.d (Dm x.r),bv x.u,bv x.c,bv x.n,bv x.a,iv x.s]
abbrev plA (f:List Gn) (r:List Att):AV:= .agg [.d (Ch f),.d (Dm r)]
def plV (f:List Gn) (r:List Att) (s:Int):Bool:=decide (nmW f r∧rsW s)
def Ib (f:List Gn) (r:List Att):Bool:=f.isEmpty&&r.isEmpty
theorem Ov {α:Type} {l:List α} (h:l≠[]):decide ((l.length:Int)>0)=true:=decide_eq_true (by have:=List.length_pos_iff.2 h;omega)
theorem Jp {α:Type} {l:List α} (h:l≠[]):((l.length:Int)==0)=false:=by
 rw[beq_eq_false_iff_ne];have:=List.length_pos_iff.2 h;omega
theorem Nz {l:List Gn} (h:l≠[]):Km l=l.all gnW:=by
 unfold Km
 cases l with
 |nil=>exact absurd rfl h
 |cons a r=>rfl
theorem Ev {p:Prop} (h:p:=by first|rfl|(simp only[AV.gives,AV.ren,AV.give,D.un,D.uns,Ai,Am,List.nil_append,List.append_nil,List.cons_append,At,A5,Cm,Bm,A4,Cf,Ck,Cn,Bp,C7,Be];first|done|rfl)):p:=h
theorem nB (r:List Att) (hz:rdnZ r):Ac Tryz.prog 91 [.d (Dm r)] (fun x=>x=bv (Ea r)):=by
 have hM:=Hf r hz
 cases h:Ea r
 ·rw[h] at hM
  have hM:Ac Tryz.prog 27 [.d (Dm r)] (fun q=>q= .tup [Bj,iv 8]):=hM
  refine acQ 12 Tryz.func91 rfl rfl fun _ _ _=> ?_
  (repeat'((conv=>whnf);refine Aa hM Ev ?_));(all_goals(conv=>whnf))
  all_goals exact zE
 ·rw[h] at hM
  have hM:Ac Tryz.prog 27 [.d (Dm r)] (fun q=>q= .tup [Cg 0 5 (C8 r),iv 0]):=hM
  refine acQ 12 Tryz.func91 rfl rfl fun _ _ _=> ?_
  (repeat'((conv=>whnf);refine Aa hM Ev ?_));(all_goals(conv=>whnf))
  all_goals exact zE
theorem aD (f:List Gn) (r:List Att):(f=[]∧r=[]∧nmW f r)∨(f=[]∧r≠[]∧Ea r=true∧nmW f r)∨(f=[]∧r≠[]∧Ea r=false∧¬nmW f r)∨(f≠[]∧r=[]∧Km f=true∧nmW f r)∨(f≠[]∧r=[]∧Km f=false∧¬nmW f r)∨(f≠[]∧r≠[]∧¬nmW f r):=by
 by_cases f0:f=[]<;>by_cases r0:r=[]
 ·exact .inl ⟨f0,r0,.inl f0,.inl r0⟩
 ·cases h:Ea r
  ·refine .inr (.inr (.inl ⟨f0,r0,rfl,fun hw=> ?_⟩))
   have:=hw.2.resolve_left r0
   rw[h] at this;cases this
  ·exact .inr (.inl ⟨f0,r0,rfl,.inl f0,.inr h⟩)
 ·have e:=Nz f0
  cases h:Km f
  ·refine .inr (.inr (.inr (.inr (.inl ⟨f0,r0,rfl,fun hw=> ?_⟩))))
   have:=(hw.1.resolve_left f0).2
   rw[←e,h] at this;cases this
  ·exact .inr (.inr (.inr (.inl ⟨f0,r0,rfl,.inr ⟨r0,by rw[←e,h]⟩,.inl r0⟩)))
 ·exact .inr (.inr (.inr (.inr (.inr ⟨f0,r0,fun hw=>r0 (hw.1.resolve_left f0).1⟩))))
theorem iR (f:List Gn) (r:List Att) (s:Int) (hf:gnsM f) (hr:rdnZ r) (hs:Ny s):Ac Tryz.prog 51 [plA f r,iv s] (fun q=>q=bv (plV f r s)):=by
 have hL:=So f hf
 have hR:=nB r hr
 have hfn:=hf.n
 have hrl:=hr.l
 obtain⟨s1,s2⟩:=hs
 rcases aD f r with⟨rfl,rfl,hw⟩|⟨rfl,h0,hv,hw⟩|⟨rfl,h0,hv,hw⟩|⟨h1,rfl,hv,hw⟩|⟨h1,rfl,hv,hw⟩|⟨h1,h0,hw⟩
 rotate_left 2
 ·have e:plV [] r s=false:=decide_eq_false fun h=>hw h.1
  have g0:=Ov h0
  rw[e]
  rw[hv] at hR
  refine acQ 40 Tryz.func51 rfl rfl fun _ _ _=> ?_
  (repeat'((conv=>whnf);first|refine zP ?_|refine Ab ?_|refine Ae ?_|refine Aa hR Ev ?_|exact zE))
 rotate_left 1
 ·have e:plV f [] s=false:=decide_eq_false fun h=>hw h.1
  have g1:=Ov h1
  rw[e]
  rw[hv] at hL
  refine acQ 40 Tryz.func51 rfl rfl fun _ _ _=> ?_
  (repeat'((conv=>whnf);first|refine zP ?_|refine Ab ?_|refine Ae ?_|refine Aa hL Ev ?_|exact zE))
 ·have e:plV f r s=false:=decide_eq_false fun h=>hw h.1
  have g0:=Ov h0
  have g1:=Ov h1
  rw[e]
  refine acQ 40 Tryz.func51 rfl rfl fun _ _ _=> ?_
  (repeat'((conv=>whnf);first|refine zP ?_|refine Ab ?_|exact zE))
 all_goals
  by_cases q0:s<0
  ·have e:∀f r,plV f r s=false:=fun f r=>decide_eq_false fun h=>by have:=h.2.1;omega
   have g3:decide (s≥0)=false:=decide_eq_false (by omega)
   rw[e]
   first|have g0:=Ov h0;rw[hv] at hR|have g1:=Ov h1;rw[hv] at hL|skip
   refine acQ 40 Tryz.func51 rfl rfl fun _ _ _=> ?_
   (repeat'((conv=>whnf);first|refine zP ?_|refine zN ?_|refine Ab ?_|refine Ae ?_|refine Aa hR Ev ?_|refine Aa hL Ev ?_|exact zE))
  ·obtain⟨n,rfl⟩:=Int.eq_ofNat_of_zero_le (Int.not_lt.1 q0)
   have g3:decide ((n:Int)≥0)=true:=decide_eq_true (by omega)
   have hsh:(n:Int).fdiv (2^(min (Int.toNat 9) IntKind.i64.bits))=((n/2^9:Nat):Int):=CQ (i:=9) (by omega)
   have hle:=Nat.div_le_self n (2^9)
   have gz:(((n/2^9:Nat):Int)==0)=decide (rsW (n:Int)):=by
    rw[Bool.eq_iff_iff,beq_iff_eq,decide_eq_true_iff];unfold rsW;omega
   have e:∀f r,nmW f r→plV f r (n:Int)=decide (rsW (n:Int)):=fun f r h=>by
    unfold plV
    rw[Bool.eq_iff_iff,decide_eq_true_iff,decide_eq_true_iff]
    exact⟨fun a=>a.2,fun a=>⟨h,a⟩⟩
   rw[e _ _ hw]
   first|have g0:=Ov h0;rw[hv] at hR|have g1:=Ov h1;rw[hv] at hL|skip
   refine acQ 40 Tryz.func51 rfl rfl fun _ _ _=> ?_
   (repeat'((conv=>whnf);first|refine zP ?_|refine Ab ?_|refine Ae ?_|refine Aa hR Ev ?_|refine Aa hL Ev ?_|refine NInt.as (((n/2^9:Nat):Int)) (hsh) ?_|refine A0 (by first|decide|omega|(simp only[Ag,List.length_nil];omega)) ?_));(all_goals(conv=>whnf))
   all_goals(refine Ba ?_;(repeat'(first|refine And.intro ?_ ?_|exact rfl));(all_goals(conv=>whnf)))
   all_goals(rw[gz])
theorem N0 (f:List Gn) (r:List Att) (hf:f.length≤1000000) (hr:r.length≤1000000):Ac Tryz.prog 26 [plA f r] (fun q=>q=bv (Ib f r)):=by
 have e:(((f.length:Int)+(r.length:Int))==0)=Ib f r:=by
  unfold Ib
  rw[Bool.eq_iff_iff,beq_iff_eq,Ap,List.isEmpty_iff,List.isEmpty_iff,←List.length_eq_zero_iff,←List.length_eq_zero_iff];omega
 refine acQ 11 Tryz.func26 rfl rfl fun _ _ _=> ?_
 (repeat'((conv=>whnf);(with_reducible refine NInt.i64 ?_)));(all_goals(conv=>whnf))
 all_goals(refine Ba ?_;(repeat'(first|refine And.intro ?_ ?_|exact rfl));(all_goals(conv=>whnf)))
 all_goals(rw[e])
theorem uA (p:Pt):ptW p=(plV p.f p.r p.s&&((p.i.isEmpty||Km p.i)&&(!Ib p.f p.r|| !p.i.isEmpty))):=by
 have hg:p.i≠[]→Km p.i=p.i.all gnW:=Nz
 unfold ptW plV Ib
 obtain⟨f,r,s,i⟩:=p
 simp only at hg⊢
 rw[Bool.eq_iff_iff]
 simp only[decide_eq_true_iff,Ap,Bool.or_eq_true,Bool.not_eq_true',Bool.and_eq_false_iff,List.isEmpty_iff,List.isEmpty_eq_false_iff]
 constructor
 ·rintro⟨a,b,c,d⟩
  refine⟨⟨a,b⟩,?_,?_⟩
  ·by_cases i0:i=[]
   ·exact .inl i0
   ·exact .inr (by rw[hg i0];exact c.resolve_left i0)
  ·rcases d with d|d|d
   ·exact .inl (.inl d)
   ·exact .inl (.inr d)
   ·exact .inr d
 ·rintro⟨⟨a,b⟩,c,d⟩
  refine⟨a,b,?_,?_⟩
  ·by_cases i0:i=[]
   ·exact .inl i0
   ·exact .inr (by rw[←hg i0];exact c.resolve_left i0)
  ·rcases d with(d|d)|d
   ·exact .inl d
   ·exact .inr (.inl d)
   ·exact .inr (.inr d)
theorem Up (p:Pt) (h:p.mid) (hs:Ny p.s):Ac Tryz.prog 16 [dpA p] (fun q=>q=bv (ptW p)):=by
 have hV:=iR p.f p.r p.s h.m.f h.m.r hs
 have hE:=N0 p.f p.r h.m.f.n (by have:=h.m.r.l;omega)
 have hG:=So p.i h.i
 have hn:=h.i.n
 rw[uA]
 obtain⟨f,r,s,i⟩:=p
 simp only at hV hE hG hn⊢
 clear h hs
 generalize plV f r s=w at hV⊢
 generalize Ib f r=m at hE⊢
 cases w
 ·refine acQ 35 Tryz.func16 rfl rfl fun _ _ _=> ?_
  (repeat'((conv=>whnf);first|refine Ae ?_|refine Aa hV Ev ?_|exact zE))
 by_cases i0:i=[]
 ·subst i0
  cases m
  all_goals
   refine acQ 35 Tryz.func16 rfl rfl fun _ _ _=> ?_
   (repeat'((conv=>whnf);first|refine Ab ?_|refine Ae ?_|refine Aa hV Ev ?_|refine Aa hE Ev ?_|exact zE))
 ·have g0:=Jp i0
  have g1:=Ov i0
  rw[show i.isEmpty=false from List.isEmpty_eq_false_iff.2 i0]
  cases w:Km i
  all_goals rw[w] at hG
  ·refine acQ 35 Tryz.func16 rfl rfl fun _ _ _=> ?_
   (repeat'((conv=>whnf);first|refine zN ?_|refine Ab ?_|refine Ae ?_|refine Aa hV Ev ?_|refine Aa hG Ev ?_|exact zE))
  ·cases m
   all_goals
    refine acQ 35 Tryz.func16 rfl rfl fun _ _ _=> ?_
    (repeat'((conv=>whnf);first|refine zN ?_|refine Ab ?_|refine Ae ?_|refine Aa hV Ev ?_|refine Aa hG Ev ?_|refine Aa hE Ev ?_));(all_goals(conv=>whnf))
    all_goals(refine Ba ?_;(repeat'(first|exact Cp _|refine And.intro ?_ ?_|exact rfl));(all_goals(conv=>whnf)))
    all_goals(first|rfl|(rw[g1];rfl))
theorem Su {P:Program} {C:Cx} {o:Oper} {σ:AS} {t:Nat} {x:Operand} {k i:Nat} (ho:o.op= .nilCheck x) (hd:o.dst=some t) (ht:t<C.N) (hx:σ.eval x=some (.ptr k i)):Bf P C o σ (σ.put t (.ptr k i)):=
 A1 hd ht fun a w bm gt fp hg=>by
  have h:=hg.eval hx
  generalize hv:a.eval x=v at h
  cases h with
  |ptr=>exact⟨_,by simp only[execOp,ho,hv];rfl,.ptr⟩
theorem eP:Ac Tryz.prog 47 [Bj,iv 8] (fun r=>r= .tup [Bj,iv 8]):=by
 refine acQ 24 Tryz.func47 rfl rfl fun _ _ _=> ?_
 (repeat'((conv=>whnf);refine Ab ?_));(all_goals(conv=>whnf))
 all_goals exact zE
theorem Ec {p:Prop} (h:p:=by first|rfl|(simp only[AV.gives,AV.ren,AV.give,D.un,D.uns,Ai,Am,List.nil_append,List.append_nil,List.cons_append,AV.share,AV.shares,At,A5,Cm,Bm,A4,Cf,Ck,Cn,Bp,C7,Be];first|done|rfl)):p:=h
theorem W4 (c n:Nat) (k:Bool) (v:List UInt8) (hc1:c≤3) (hn:n≤30) (hl:v.length≤900000000):Ac Tryz.prog 47 [.d (Af false (Ao c n k v)),iv 0] (fun r=>r= .tup [.d (Af false v),iv 0]):=by
 obtain⟨h,hO,hL,hd,-⟩:=xA c n k v hc1 hn hl
 have hel:=A2 c n k v (by omega)
 generalize Ao c n k v=b at hO hL hd hel⊢
 have hd0:(b.drop h).take (b.length-h)=v:=hd
 refine acQ 24 Tryz.func47 rfl rfl fun _ _ _=> ?_
 (repeat'((conv=>whnf);first|refine Ae ?_|refine Aa hO Ec ?_|(refine NSl.bytes h b.length v hd0 ?_)|refine zF ?_|exact zE))
theorem Uq (f:List Gn) (r:List Att) (hf:gnsM f) (hr:rdnZ r) (hw:nmW f r) (h0:f≠[]∨r≠[]) (hfl:(Di f).length≤400000000):Ac Tryz.prog 45 [plA f r] (fun q=>q= .tup [Cg 0 5 (Ao 2 0 true (nmC f r)),iv 0]):=by
 have hrl:(E1 r).length≤90000000:=hr.e
 have hnc:=Nw ⟨hf,hr⟩
 have hfn:=hf.n
 have hM:=Sn f hf
 have hW2:=Dk 2 0 true (nmC f r) (by omega) (by omega) (by omega)
 by_cases f0:f=[]
 ·subst f0
  have r0:=h0.resolve_left fun h=>h rfl
  have hv:=hw.2.resolve_left r0
  have hM:Ac Tryz.prog 48 [.d (Ch [])] (fun q=>q= .tup [Bj,iv 8]):=hM
  have hI:=eP
  have hR:=Hf r hr
  rw[hv] at hR
  have hR:Ac Tryz.prog 27 [.d (Dm r)] (fun q=>q= .tup [Cg 0 5 (Ao 0 17 true (E1 r)),iv 0]):=hR
  have hJ:=W4 0 17 true (E1 r) (by omega) (by omega) (by omega)
  have hW1:=Dk 2 1 true (E1 r) (by omega) (by omega) (by omega)
  have e:Ao 2 1 true (E1 r)=nmC [] r:=by unfold nmC;rw[if_pos rfl]
  rw[e] at hW1
  generalize Ao 2 0 true (nmC [] r)=w2 at hW2⊢
  generalize nmC [] r=w1 at hW1 hW2
  generalize Ao 0 17 true (E1 r)=w0 at hR hJ
  generalize E1 r=w at hJ hW1
  refine acQ 48 Tryz.func45 rfl rfl fun _ _ _=> ?_
  (repeat'((conv=>whnf);first|refine Ab ?_|refine Ae ?_|refine Aa hM rfl ?_|refine Aa hI rfl ?_|refine Aa hR Ec ?_|refine Aa hJ Ec ?_|refine Aa hW1 Ec ?_|refine Aa hW2 Ec ?_|exact zE))
 ·obtain⟨rfl,ha⟩:=hw.1.resolve_left f0
  have hv:Km f=true:=by rw[Nz f0];exact ha
  have g0:=Jp f0
  rw[hv] at hM
  have hM:Ac Tryz.prog 48 [.d (Ch f)] (fun q=>q= .tup [Cg 0 5 (Ao 0 16 true (Di f)),iv 0]):=hM
  have hJ:=W4 0 16 true (Di f) (by omega) (by omega) (by omega)
  have hW1:=Dk 2 0 true (Di f) (by omega) (by omega) (by omega)
  have e:Ao 2 0 true (Di f)=nmC f []:=by unfold nmC;rw[if_neg f0]
  rw[e] at hW1
  generalize Ao 2 0 true (nmC f [])=w2 at hW2⊢
  generalize nmC f []=w1 at hW1 hW2
  generalize Ao 0 16 true (Di f)=w0 at hM hJ
  generalize Di f=w at hJ hW1
  refine acQ 48 Tryz.func45 rfl rfl fun _ _ _=> ?_
  (repeat'((conv=>whnf);first|refine zN ?_|refine Ae ?_|refine Aa hM Ec ?_|refine Aa hJ Ec ?_|refine Aa hW1 Ec ?_|refine Aa hW2 Ec ?_|exact zE))
def Sv (p:Pt):List (List UInt8):=(if p.f≠[]∨p.r≠[] then [Ao 2 0 true (nmC p.f p.r)] else [])++((if p.s≠0 then [Ao 2 1 false (Hj p.s.toNat)] else [])++(if p.i≠[] then [Ao 2 2 true (Di p.i)] else []))
theorem Gx {n:Nat} {c:Prop} [Decidable c] {v:Vl}:vsB (opt n c v)=if c then [Ao 2 n (vlK v) (vlC v)] else []:=by
 unfold opt vsB
 split<;>rfl
theorem W5 (p:Pt):vsB (Mi p)=Sv p:=by
 unfold Mi Sv
 rw[Ed,Ed,Gx,Gx,Gx]
 rfl
theorem Ft {f:List Gn} {r:List Att}:Ib f r=false↔f≠[]∨r≠[]:=by
 unfold Ib
 rw[Bool.and_eq_false_iff,List.isEmpty_eq_false_iff,List.isEmpty_eq_false_iff]
theorem Ur (p:Pt) (h:p.sm) (hs:Ny p.s):Ac Tryz.prog 15 [dpA p] (fun q=>q=Oq (ptW p) (ptE p)):=by
 have hV:=Up p h.m hs
 cases hw:ptW p
 ·rw[hw] at hV
  show Ac _ _ _ (fun q=>q= .tup [Bj,iv 8])
  refine acQ 54 Tryz.func15 rfl rfl fun _ _ _=> ?_
  (repeat'((conv=>whnf);first|refine Ab ?_|refine Aa hV Ec ?_|exact zE))
 rw[hw] at hV
 show Ac _ _ _ (fun q=>q= .tup [Cg 0 5 (ptE p),iv 0])
 obtain⟨w1,w2,w3,w4⟩:=Lf.1 hw
 have hl:=eM h.m h.f h.i
 have hr:(E1 p.r).length≤90000000:=h.m.m.r.e
 have hf:=h.f
 have hi:=h.i
 have hS:=P1 (Sv p) (by rw[←W5];omega) (by unfold Sv;split<;>split<;>split<;>simp)
 have eS:Ao 0 16 true (Sv p).flatten=ptE p:=by rw[←W5];rfl
 rw[eS] at hS
 have hE:=N0 p.f p.r h.m.m.f.n (by have:=h.m.m.r.l;omega)
 have hN:=Uq p.f p.r h.m.m.f h.m.m.r w1
 have hB:=Uo p.s.toNat (by unfold rsW at w2;omega)
 have hq:=I2 p.s.toNat
 have hW1:=Dk 2 1 false (Hj p.s.toNat) (by omega) (by omega) (by omega)
 have hG:=Sn p.i h.m.i
 have hJ:=W4 0 16 true (Di p.i) (by omega) (by omega) (by omega)
 have hW2:=Dk 2 2 true (Di p.i) (by omega) (by omega) (by omega)
 have hin:=h.m.i.n
 unfold Sv at hS
 generalize ptE p=R at hS⊢
 clear hw eS hl hr
 obtain⟨f,r,s,i⟩:=p
 simp only at*
 clear h hs
 obtain⟨n,rfl⟩:=Int.eq_ofNat_of_zero_le w2.1
 rw[Int.toNat_natCast] at*
 have hk:(Ib f r=true∧¬(f≠[]∨r≠[]))∨(Ib f r=false∧(f≠[]∨r≠[])):=by
  cases e:Ib f r
  ·exact .inr ⟨rfl,Ft.1 e⟩
  ·refine .inl ⟨rfl,fun h=> ?_⟩
   rw[Ft.2 h] at e;cases e
 have hn0:(n=0∧((n:Int) !=0)=false∧¬((n:Int)≠0))∨(((n:Int) !=0)=true∧(n:Int)≠0):=by
  by_cases h:n=0
  ·exact .inl ⟨h,by rw[h];rfl,by omega⟩
  ·exact .inr ⟨by rw[bne_iff_ne];omega,by omega⟩
 have hi0:(i=[]∧¬(i≠[]))∨(i≠[]∧decide ((i.length:Int)>0)=true∧Km i=true):=by
  by_cases h:i=[]
  ·exact .inl ⟨h,fun a=>a h⟩
  ·exact .inr ⟨h,Ov h,by rw[Nz h];exact w3.resolve_left h⟩
 generalize Hj n=sl at hB hW1 hS hq
 generalize Ao 2 1 false sl=p1 at hW1 hS
 generalize nmC f r=nc at hN hS
 generalize Ao 2 0 true nc=p0 at hN hS
 generalize Ao 2 2 true (Di i)=p2 at hW2 hS
 clear hq w4
 rcases hi0 with⟨rfl,i1⟩|⟨i1,gi,gw⟩
 all_goals rcases hk with⟨em,e0⟩|⟨em,e0⟩
 all_goals rcases hn0 with⟨rfl,gn,n0⟩|⟨gn,n0⟩
 all_goals
  rw[em] at hE
  first|rw[if_neg i1] at hS|(rw[if_pos i1] at hS;rw[gw] at hG;have hG:Ac Tryz.prog 48 [.d (Ch i)] (fun q=>q= .tup [Cg 0 5 (Ao 0 16 true (Di i)),iv 0]):=hG)
  first|rw[if_neg e0] at hS|(rw[if_pos e0] at hS;have hN:=hN e0 hf)
  first|rw[if_neg n0] at hS|rw[if_pos n0] at hS
  simp only[List.nil_append,List.cons_append,List.append_nil] at hS
  refine acQ 54 Tryz.func15 rfl rfl fun _ _ _=> ?_
  (repeat'((conv=>whnf);first|refine zP ?_|refine zN ?_|refine Ab ?_|refine Ae ?_|refine Aa hV Ec ?_|refine Aa hE Ec ?_|refine Aa hN Ec ?_|(refine NStep.inl 200 32 _ Hq mixed rfl rfl rfl Tryz.func46 rfl (by kernel_rfl) rfl rfl rfl rfl (fun gh=> ?_))|(refine NStep.inl 300 25 _ Hq mixed rfl rfl rfl Tryz.func44 rfl (by kernel_rfl) rfl rfl rfl rfl (fun gh=> ?_))|(refine NStep.inl 400 20 _ Hq mixed rfl rfl rfl Tryz.func50 rfl (by kernel_rfl) rfl rfl rfl rfl (fun gh=> ?_))|refine Aa hB rfl ?_|refine Aa hW1 Ec ?_|refine Aa hG Ec ?_|refine Aa hJ Ec ?_|refine Aa hW2 Ec ?_|refine A9 (Zi 0 rfl rfl rfl (ltN rfl) rfl rfl) ?_|refine A9 (Su rfl rfl (ltN rfl) rfl) ?_|(refine Ja 1 _ ?_)|(refine Ja 2 _ ?_)|(refine Ja 3 _ ?_)|refine Aa hS Ec ?_|refine Bc hS Pm ?_|exact zE))
def yR (u c a:Bool):Bool:= !(u&&c)&&(!(u&&a)&& !(c&&a))
theorem DB (x:Iss):isW x=(plV x.f x.r x.s&&(yR x.u x.c x.a&&(!Ib x.f x.r||(x.u||(x.c||x.a))||x.n||(x.s !=0)))):=by
 obtain⟨f,r,u,c,n,a,s⟩:=x
 have e:=@Ft f r
 unfold isW plV Pi Pj yR
 simp only
 rw[Bool.eq_iff_iff]
 simp only[decide_eq_true_iff,Ap,Bool.or_eq_true,Bool.not_eq_true',bne_iff_ne,e]
 cases u<;>cases c<;>cases a<;>simp[and_assoc,or_assoc]
theorem eQ {p:Prop} (h:p:=by first|rfl|(simp only[AV.gives,AV.ren,AV.give,D.un,D.uns,Ai,Am,List.nil_append,List.append_nil,List.cons_append,AV.share,AV.shares,At,A5,Cm,Bm,A4,Cf,Ck,Cn,Bp,C7,Be];first|done|rfl)):p:=h
theorem Us (x:Iss) (h:nmM x.f x.r) (hs:Ny x.s):Ac Tryz.prog 22 [diA x] (fun q=>q=bv (isW x)):=by
 have hV:=iR x.f x.r x.s h.f h.r hs
 have hE:=N0 x.f x.r h.f.n (by have:=h.r.l;omega)
 rw[DB]
 obtain⟨f,r,u,c,n,a,s⟩:=x
 simp only at hV hE⊢
 clear h hs
 generalize plV f r s=w at hV⊢
 generalize Ib f r=m at hE⊢
 cases w
 ·cases u<;>cases c<;>cases a
  all_goals
   refine acQ 50 Tryz.func22 rfl rfl fun _ _ _=> ?_
   (repeat'((conv=>whnf);first|refine Ab ?_|refine Ae ?_|refine Aa hV eQ ?_|(refine Ly 100 6 #[] Hq mixed rfl rfl rfl rfl Tryz.func57 rfl (by kernel_rfl) rfl rfl rfl rfl (fun gh=> ?_))|(with_reducible refine NInt.i64 ?_)|exact zE))
 ·cases u<;>cases c<;>cases a<;>cases m<;>cases n
  all_goals
   refine acQ 50 Tryz.func22 rfl rfl fun _ _ _=> ?_
   (repeat'((conv=>whnf);first|refine Ab ?_|refine Ae ?_|refine Aa hV eQ ?_|refine Aa hE eQ ?_|(refine Ly 100 6 #[] Hq mixed rfl rfl rfl rfl Tryz.func57 rfl (by kernel_rfl) rfl rfl rfl rfl (fun gh=> ?_))|(with_reducible refine NInt.i64 ?_)|exact zE))
end Go.Proofs.YtaoahmplnckhpaaGreatDoor
